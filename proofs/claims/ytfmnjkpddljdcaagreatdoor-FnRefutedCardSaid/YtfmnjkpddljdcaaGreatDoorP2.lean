import Derived.Test.YtfmnjkpddljdcaaGreatDoorP1
import Derived.Test.YtfmnjkpddljdcaaGreatDoorP0
import Derived.Test.YtfmnjkpddljdcaaGreatDoorNO
namespace Go.Proofs.YtfmnjkpddljdcaaGreatDoor
open Go.Proofs.Tryz
set_option maxHeartbeats 1000000
set_option linter.unusedVariables false
set_option linter.unusedSimpArgs false
set_option maxRecDepth 100000
open Go.RowKit
def jA (c:Template) (d:Instance) (e:Int):Option Int:=
 xY (gQ c d) fun f=>
 if (!f) then
  some 1
 else
  xY (bE e 0 5000) fun h=>
  if (!h) then
   some 2
  else
   some 0
theorem xAx {B:Nat→Prop} {p:Template} {t:Instance} {f:Int} (r:Int) (d:jA p t f=some r) {j:Value} {n:Value} (e:World) (A:∀ c,B c→c<e.heap.size) (C:Bo B e (Pt 2 xL) j p) (D:Bo B e (Pt 2 xO) n t) (y:xS f):Calls Tryz.prog 26 #[j,n,xF f] e (lI r e):=by
 unfold jA at d
 refine xW (L:=[(0,j),(1,n),(2,xF f)]) func26 rfl rfl rfl (sc rfl (sc rfl (sc rfl sn))) (fun a F=>?_);have H:=Sep.start A;refine xX (xA 1 F rfl fun a F=>xJ (xG (xX (xA 2 F rfl fun a F=>?_))));obtain⟨E,G,d⟩:=xB d;refine oK F rfl call24 rfl H (nZ E G _ aA (H.a C) (H.a D)) fun a w H F=>xA 1 F rfl fun a F=>xJ (vK F rfl (fun i=>?_) (fun i=>?_))
 ·
  replace d:=zW i d;refine xX (xA 1 F rfl fun a F=>xJ (xP (qH (xR F rfl (xZ F rfl) ?_))));obtain rfl:=oj d;exact⟨⟨rfl,H.bl⟩,(show xS (1) by decide)⟩
 replace d:=zV i d;refine xT (xH (xG (xX (xA 1 F rfl fun a F=>?_))));obtain⟨I,J,d⟩:=xB d;refine oK F rfl iW rfl H (cU I J _ aA y (show xS (0) by decide) (show xS (5000) by decide)) fun a w H F=>xA 1 F rfl fun a F=>xJ (vK F rfl (fun h=>?_) (fun h=>?_))
 ·
  replace d:=zW h d;refine xX (xA 1 F rfl fun a F=>xJ (xP (qH (xR F rfl (xZ F rfl) ?_))));obtain rfl:=oj d;exact⟨⟨rfl,H.bl⟩,(show xS (2) by decide)⟩
 replace d:=zV h d;refine xT (xH (xX (xA 1 F rfl fun a F=>xJ (xP (xR F rfl (xZ F rfl) ?_)))));obtain rfl:=oj d;exact⟨⟨rfl,H.bl⟩,(show xS (0) by decide)⟩
def jX (c:Int):Option (List Int):=
 kY (σ:=(List Int)) (
  eJ (σ:=(List Int)) (ρ:=(List Int)) (fun (d:Nat) (e:(List Int))=>
   xY (ap e ([(d:Int)])) fun f=>
   some (.go f)) c.toNat 0 []) fun h=>
 some h
theorem xCd {B:Nat→Prop} {e:Int} (r:(List Int)) (d:jX e=some r)  (h:World) (M:∀ c,B c→c<h.heap.size) (A:xS e):Calls Tryz.prog 96 #[xF e] h (Gv (fun v w'=>∃ (C:Value),v=C∧Sep [] B h w' [rl 1 xM 2 C r])):=by
 unfold jX at d
 refine xW (L:=[(0,xF e)]) func96 rfl rfl rfl (sc rfl sn) (fun a F=>?_);have H:=Sep.start M;refine xX (xA 1 F rfl fun a F=>zR (oR0 (R:=xM) xC xI F rfl H fun a w N H F=>xA 1 F rfl fun a F=>xJ ?_));refine xG (xX (xA 1 F rfl fun a F=>xJ ?_));obtain⟨D,d,G⟩:=xV d;refine qG (fun a w=>∃ (t:List Int) (j:Value),D= .nx t∧Sk a 16 [(3,j)]∧Sep [] B h w [rl 1 xM 2 j t]) ?_ ?_
 ·
  refine qM ?_;obtain⟨I,J,d⟩:=gW d;refine vT (fun g a w=>∃ (f:Nat) (n:List Int) (p:Value),f+g=e.toNat∧eJ I g f n=some D∧Sk a 16 [(4,xF (f:Int)),(0,xF e),(3,p)]∧Sep [] B h w [rl 1 xM 2 p n]) e.toNat ?_ ?_
  ·
   exact⟨0,[],N,(Nat.zero_add _),d,F.su,H⟩
  intro E a w ⟨f,n,p,i,d,F,H⟩
  cases E with
  | zero=>
   replace d:=fJ d;have l1:=mF i;refine xG (xX (xA 3 F rfl fun a F=>xJ (aC F rfl l1 (vU (vV ?_)))));refine vV (bC (xH ?_));exact⟨n,p,(kQ d),F.su,H⟩
  | succ E=>
   obtain⟨U,d,K⟩:=fI d;rw[J] at d;have l1:=iX i;refine xG (xX (xA 3 F rfl fun a F=>xJ (aD F rfl l1 (xT (xH ?_)))));refine xG ?_;have O:=xDz i A;have P:=pK i A;refine qM (oO (xA 2 F rfl fun a F=>iN (R:=xM) (y:=(f:Int)) xC xI qQ rfl rfl F rfl rfl H (Eo.int O) (fun a w V H F=>?_)));obtain⟨Q,S,d⟩:=xB d;refine oPL (sz:=1) (R:=xM) (z:=(xF 0)) (bytes:=8) xC (by kernel_rfl) rfl rfl F rfl rfl rfl (H.s [1,0] rfl rfl) S fun a w T H F=>xA 1 F rfl fun a F=>vP (zG (xH (oO (xA 1 F rfl fun a F=>kO F rfl rfl rfl P fun a F=>xA 1 F rfl fun a F=>xJ ?_))));replace d:=aB d K;exact⟨_,Nat.lt_succ_self _,f+1,Q,T,(by omega),d,F.su,H⟩
 rintro a w ⟨t,j,rfl,F,H⟩
 have d:=oJ G;refine xH (xX (xA 2 F rfl fun a F=>xJ (xP (xR F rfl (xZ F rfl) ?_))));obtain rfl:=oj d;exact⟨_,rfl,j,rfl,H⟩
def fL (c:Template) (d:Instance):Option (List (List Int)):=
 kY (σ:=(List (List Int))) (
  eJ (σ:=(List (List Int))) (ρ:=(List (List Int))) (fun(j:Nat) (e:(List (List Int)))=>
   xY (jX c.size) fun f=>
   xY (ap e ([f])) fun h=>
   some (.go h)) d.vars.toNat 0 []) fun i=>
 some i
theorem tQ {B:Nat→Prop} {G:Template} {i:Instance} (r:(List (List Int))) (d:fL G i=some r) {j:Value} {n:Value} (e:World) (U:∀ c,B c→c<e.heap.size) (I:Bo B e (Pt 2 xL) j G) (p:Bo B e (Pt 2 xO) n i):Calls Tryz.prog 62 #[j,n] e (Gv (fun v w'=>∃ (E:Value),v=E∧Sep [] B e w' [rl 1 (vS 1 xM) 46 E r])):=by
 unfold fL at d
 refine xW (L:=[(0,j),(1,n)]) func62 rfl rfl rfl (sc rfl (sc rfl sn)) (fun a F=>?_);have H:=Sep.start U;refine xX (xA 1 F rfl fun a F=>zR (oR0 (R:=(vS 1 xM)) xK xU F rfl H fun a w V H F=>xA 1 F rfl fun a F=>xJ ?_));refine xG (xX (xA 1 F rfl fun a F=>xJ ?_));obtain⟨J,d,O⟩:=xV d;refine qG (fun a w=>∃ (D:List (List Int)) (t:Value),J= .nx D∧Sk a 25 [(5,t)]∧Sep [] B e w [rl 1 (vS 1 xM) 46 t D]) ?_ ?_
 ·
  refine qM ?_;obtain⟨P,Q,d⟩:=gW d;refine vT (fun g a w=>∃ (f:Nat) (A:List (List Int)) (C:Value),f+g=i.vars.toNat∧eJ P g f A=some J∧Sk a 25 [(6,xF (f:Int)),(0,j),(1,n),(5,C)]∧Sep [] B e w [rl 1 (vS 1 xM) 46 C A]) i.vars.toNat ?_ ?_
  ·
   exact⟨0,[],V,(Nat.zero_add _),d,F.su,H⟩
  intro K a w ⟨f,A,C,h,d,F,H⟩
  cases K with
  | zero=>
   replace d:=fJ d;have l1:=mF h;refine xG (xX (xA 2 F rfl fun a F=>oN F rfl rfl p fun a F=>oF (s':=1) gP F rfl rfl p xO.f0 fun a p1 W F=>olI xN F rfl rfl H.sm W fun a i1 F=>xA 1 F rfl fun a F=>xJ ?_));refine aC F rfl l1 (vU (vV (vV (bC (xH ?_)))));exact⟨A,C,(kQ d),F.su,H⟩
  | succ K=>
   obtain⟨a7,d,T⟩:=fI d;rw[Q] at d;have l1:=iX h;refine xG (xX (xA 2 F rfl fun a F=>oN F rfl rfl p fun a F=>oF (s':=1) gP F rfl rfl p xO.f0 fun a p2 X F=>olI xN F rfl rfl H.sm X fun a M F=>xA 1 F rfl fun a F=>xJ ?_));refine aD F rfl l1 (xT (xH (xG ?_)));have j1:=xDz h M;have Y:=pK h M;refine qM (oO (xA 2 F rfl fun a F=>oN F rfl rfl I fun a F=>oF (s':=1) sZ F rfl rfl I xL.f0 fun a p3 Z F=>olI xN F rfl rfl H.sm Z (fun a i3 F=>?_)));obtain⟨N,c1,d⟩:=xB d;refine oG F rfl call96 rfl (xCd N c1 _ aA i3) (fun a vv w ⟨v5,a6,S⟩ F=>?_);subst vv;have H:=H.r1 S n0;have H:=H.os;refine gB (R:=(vS 1 xM)) (y:=N) xK xU cC rfl rfl F rfl rfl H El.sl (fun a w v6 H F=>?_);obtain⟨z2,c2,d⟩:=xB d;refine oPL (sz:=1) (R:=(vS 1 xM)) (z:=(vH)) (bytes:=24) xK (by kernel_rfl) rfl rfl F rfl rfl rfl (H.s [1,0] rfl rfl) c2 fun a w v7 H F=>xA 1 F rfl fun a F=>vP (zG (xH (oO (xA 1 F rfl fun a F=>kO F rfl rfl rfl Y fun a F=>xA 1 F rfl fun a F=>xJ ?_))));replace d:=aB d T;exact⟨_,Nat.lt_succ_self _,f+1,z2,v7,(by omega),d,F.su,H⟩
 rintro a w ⟨D,t,rfl,F,H⟩
 have d:=oJ O;refine xH (xX (xA 2 F rfl fun a F=>xJ (xP (xR F rfl (xZ F rfl) ?_))));obtain rfl:=oj d;exact⟨_,rfl,t,rfl,H⟩
def iR (c:List Int):Option (List Int):=
 xY (ap ([]) c) fun d=>
 some d
theorem nD {B:Nat→Prop} {i:List Int} (r:(List Int)) (d:iR i=some r) {f:Value} (e:World) (j:∀ c,B c→c<e.heap.size) (n:Bo B e (Sl 1 xM) f i):Calls Tryz.prog 43 #[f] e (Gv (fun v w'=>∃ (h:Value),v=h∧Sep [] B e w' [rl 1 xM 2 h r])):=by
 unfold iR at d
 refine xW (L:=[(0,f)]) func43 rfl rfl rfl (sc rfl sn) (fun a F=>?_);have H:=Sep.start j;refine xX (xA 1 F rfl fun a F=>zR (oR0 (R:=xM) xC xI F rfl H fun a w y H F=>xA 1 F rfl fun a F=>?_));obtain⟨A,p,d⟩:=xB d;refine oPf (sz:=1) (R:=xM) (z:=(xF 0)) (bytes:=8) xC (by kernel_rfl) rfl rfl F rfl rfl rfl H.lw (H.lw.a n) p (fun a w t H F=>?_);have H:=H.tl;refine xA 1 F rfl fun a F=>xJ (xP (xR F rfl (xZ F rfl) ?_));obtain rfl:=oj d;exact⟨_,rfl,t,rfl,H⟩
def iG (c:Con) (d:List Int):Option Bool:=
 kY (σ:=Unit) (
  qW (σ:=Unit) (ρ:=Bool) (fun (e:Nat) (h:Int) (s:Unit)=>
    match s with
    | _=>
    kY (σ:=Unit) (
     eJ (σ:=Unit) (ρ:=(Ctl (Unit) Bool)) (fun (f:Nat) (s:Unit)=>
       match s with
       | _=>
       kY (σ:=Bool) (
        xY (ix c.scope (e:Int)) fun i=>
        xY (ix c.scope (f:Int)) fun j=>
        if (i==j) then  xY (ix d (f:Int)) fun n=>
         some (.nx (h != n)) else  some (.nx false)) fun p=>
       if p then
        some (.ret (.ret false))
       else
        some (.go ())) (e:Int).toNat 0 ()) fun _=>
    some (.go ())) d 0 ()) fun _=>
 some true
theorem xBz {B:Nat→Prop} {N:Con} {p:List Int} (r:Bool) (d:iG N p=some r) {i:Value} {j:Value} (h:World) (Z:∀ c,B c→c<h.heap.size) (C:Bo B h (Pt 2 qZ) i N) (D:Bo B h (Sl 1 xM) j p):Calls Tryz.prog 175 #[i,j] h (bK (.bool r) h):=by
 unfold iG at d
 refine xW (L:=[(0,i),(1,j)]) func175 rfl rfl rfl (sc rfl (sc rfl sn)) (fun a F=>?_);have H:=Sep.start Z;refine xX (xA 1 F rfl fun a F=>xJ (xG (xX (xA 1 F rfl fun a F=>xJ ?_))));obtain⟨O,d,I⟩:=xV d;refine qG (fun a w=>O= .nx ()∧Sk a 44 []∧Sep [] B h w []) ?_ ?_
 ·
  refine qM ?_;obtain⟨T,U,d⟩:=vY d;refine vT (fun g a w=>∃ (e:Nat) (n:List Int),(e≤p.length∧p.drop e=n)∧n.length=g∧qW T n e ()=some O∧Sk a 44 [(5,xF (e:Int)),(0,i),(1,j)]∧Sep [] B h w []) p.length ?_ ?_
  ·
   exact⟨0,p,⟨Nat.zero_le _,rfl⟩,rfl,d,F.su,H⟩
  intro g1 a w ⟨e,n,f,V,d,F,H⟩
  cases n with
  | nil=>
   replace d:=vX d;have q1:=vZ f.1 f.2;have l1:=kW q1;refine xG (xX (xA 2 F rfl fun a F=>oL xC F rfl rfl D fun a i1 F=>xA 1 F rfl fun a F=>xJ (aC F rfl l1 (vU ?_))));refine vV (vV (bC (xH ?_)));exact⟨(kQ d),F.sub sn,H⟩
  | cons x2 n=>
   subst V;replace f:=qY f.2;have y1:=zI f.2.1;obtain⟨ak,d,J⟩:=vE d;rw[U] at d;have l1:=zT f.1;refine xG (xX (xA 2 F rfl fun a F=>oL xC F rfl rfl D fun a P F=>xA 1 F rfl fun a F=>xJ (aD F rfl l1 (xT ?_))));refine xH (xG ?_);have Q:=k64 (Nat.le_of_lt f.1) P;have m1:=bG f.1 P;refine qM (xX (xA 1 F rfl fun a F=>xJ ?_));obtain⟨R,d,K⟩:=xV d;refine qG (fun a w=>R= .nx ()∧Sk a 44 [(0,i),(1,j),(5,xF (e:Int))]∧Sep [] B h w []) ?_ ?_
   ·
    refine qM ?_;obtain⟨W,X,d⟩:=gW d;refine vT (fun g a w=>∃ (t:Nat),t+g=(e:Int).toNat∧eJ W g t ()=some R∧Sk a 44 [(6,xF (t:Int)),(0,i),(1,j),(5,xF (e:Int))]∧Sep [] B h w []) (e:Int).toNat ?_ ?_
    ·
     exact⟨0,(Nat.zero_add _),d,F.su,H⟩
    intro S a w ⟨t,A,d,F,H⟩
    cases S with
    | zero=>
     replace d:=fJ d;have l2:=mF A;refine xG (xX (xA 3 F rfl fun a F=>xJ (aC F rfl l2 (vU (vV ?_)))));refine vV (bC (xH ?_));exact⟨(kQ d),F.su,H⟩
    | succ S=>
     obtain⟨al,d,M⟩:=fI d;rw[X] at d;have l2:=iX A;refine xG (xX (xA 3 F rfl fun a F=>xJ (aD F rfl l2 (xT (xH ?_)))));refine xG ?_;have j2:=xDz A Q;have m2:=pK A Q;refine qM (xG ?_);obtain⟨o3,d,Y⟩:=xV d;refine qG (fun a w=>∃ (G:Bool),o3= .nx G∧Sk a 44 [(0,i),(1,j),(5,xF (e:Int)),(6,xF (t:Int)),(43,.bool G)]∧Sep [] B h w []) ?_ ?_
     ·
      refine xQa H (oM F rfl rfl fun a F=>qN F rfl rfl C fun a F=>qF (s':=1) gD F rfl rfl C qZ.f1 fun a p1 h1 F=>qlS qE F rfl rfl H.q h1 fun a v2 h2 F=>oM F rfl rfl (fun a F=>?_));obtain⟨z1,c1,d⟩:=xB d;refine qI xC xI F rfl rfl rfl h2 c1 fun a p2 h3 F=>qlI xN F rfl rfl H.q h3 fun a i3 F=>oM F rfl rfl fun a F=>qN F rfl rfl C fun a F=>qF (s':=1) gD F rfl rfl C qZ.f1 fun a p3 h4 F=>qlS qE F rfl rfl H.q h4 fun a v3 h5 F=>oM F rfl rfl (fun a F=>?_);obtain⟨z2,c2,d⟩:=xB d;refine qI xC xI F rfl rfl rfl h5 c2 fun a p4 h6 F=>qlI xN F rfl rfl H.q h6 fun a i4 F=>zH F rfl (fun w l=>xBe F rfl rfl) fun a F=>oM F rfl rfl (fun a F=>?_)
      rcases zC (z1==z2) with y | y
      ·
       replace d:=zW y d;have F:=F.eb 33 rfl y;refine oM F rfl rfl fun a F=>oM F rfl rfl fun a F=>qI xC xI F rfl rfl rfl D y1 fun a p5 h7 F=>qlI xN F rfl rfl H.q h7 fun a i5 F=>oM F rfl rfl fun a F=>oM F rfl rfl (fun a F=>?_);obtain⟨z3,c3,d⟩:=xB d;refine qI xC xI F rfl rfl rfl D c3 fun a p6 h8 F=>qlI xN F rfl rfl H.q h8 fun a i6 F=>zH F rfl (fun w l=>uN F rfl rfl) fun a F=>bH F rfl rfl rfl fun a F=>aF fun w H=>xH ?_;exact⟨(x2 != z3),(kQ d),F.su,H⟩
      replace d:=zV y d;have F:=F.eb 33 rfl y;refine oV F rfl rfl fun a F=>oV F rfl rfl fun a F=>oV F rfl rfl fun a F=>oV F rfl rfl fun a F=>oV F rfl rfl fun a F=>oV F rfl rfl fun a F=>oV F rfl rfl fun a F=>oV F rfl rfl fun a F=>oV F rfl rfl fun a F=>cG F rfl rfl rfl fun a F=>aF (fun w H=>?_);refine xH ?_;exact⟨false,(kQ d),F.su,H⟩
     rintro a w ⟨G,rfl,F,H⟩
     have d:=oJ Y;refine xH (vK F rfl (fun E=>?_) (fun E=>?_))
     ·
      replace d:=zW E d;refine xX (xA 1 F rfl fun a F=>xJ (xP (zZ (qH (qH ?_)))));replace d:=bQ d M;refine zZ (qH ?_);replace d:=bR d K;refine zZ (qH (qH ?_));replace d:=bQ d J;refine zZ (qH ?_);replace d:=bR d I;refine qH (xR F rfl (xZ F rfl) ?_);obtain rfl:=oj d;exact⟨rfl,H.bl⟩
     replace d:=zV E d;refine xT (zG (xH (oO (xA 1 F rfl fun a F=>kO F rfl rfl rfl m2 fun a F=>xA 1 F rfl fun a F=>xJ ?_))));replace d:=aB d M;exact⟨_,Nat.lt_succ_self _,t+1,(by omega),d,F.su,H⟩
   rintro a w ⟨rfl,F,H⟩
   have d:=oJ K;refine zG (xH (oO (xA 1 F rfl fun a F=>kO F rfl rfl rfl m1 fun a F=>xA 1 F rfl fun a F=>xJ ?_)));replace d:=aB d J;exact⟨_,Nat.lt_succ_self _,e+1,n,⟨f.1,f.2.2⟩,rfl,d,F.su,H⟩
 rintro a w ⟨rfl,F,H⟩
 have d:=oJ I;refine xH (xX (xA 1 F rfl fun a F=>xJ (xP (xR F rfl (xZ F rfl) ?_))));obtain rfl:=oj d;exact⟨rfl,H.bl⟩
def dS (c:List Int) (d:Int):Option Bool:=
 kY (σ:=Unit) (
  qW (σ:=Unit) (ρ:=Bool) (fun (f:Nat) (e:Int) (s:Unit)=>
    match s with
    | _=>
    if (e==d) then
     some (.ret true)
    else
     some (.go ())) c 0 ()) fun _=>
 some false
theorem rI {B:Nat→Prop} {h:List Int} {n:Int} (r:Bool) (d:dS h n=some r) {p:Value} (i:World) (K:∀ c,B c→c<i.heap.size) (y:Bo B i (Sl 1 xM) p h) (Q:xS n):Calls Tryz.prog 102 #[p,xF n] i (bK (.bool r) i):=by
 unfold dS at d
 refine xW (L:=[(0,p),(1,xF n)]) func102 rfl rfl rfl (sc rfl (sc rfl sn)) (fun a F=>?_);have H:=Sep.start K;refine xX (xA 1 F rfl fun a F=>xJ (xG (xX (xA 1 F rfl fun a F=>xJ ?_))));obtain⟨D,d,A⟩:=xV d;refine qG (fun a w=>D= .nx ()∧Sk a 18 []∧Sep [] B i w []) ?_ ?_
 ·
  refine qM ?_;obtain⟨G,I,d⟩:=vY d;refine vT (fun g a w=>∃ (j:Nat) (f:List Int),(j≤h.length∧h.drop j=f)∧f.length=g∧qW G f j ()=some D∧Sk a 18 [(5,xF (j:Int)),(0,p),(1,xF n)]∧Sep [] B i w []) h.length ?_ ?_
  ·
   exact⟨0,h,⟨Nat.zero_le _,rfl⟩,rfl,d,F.su,H⟩
  intro T a w ⟨j,f,e,J,d,F,H⟩
  cases f with
  | nil=>
   replace d:=vX d;have M:=vZ e.1 e.2;have l1:=kW M;refine xG (xX (xA 2 F rfl fun a F=>oL xC F rfl rfl y fun a U F=>xA 1 F rfl fun a F=>xJ (aC F rfl l1 (vU ?_))));refine vV (vV (bC (xH ?_)));exact⟨(kQ d),F.sub sn,H⟩
  | cons V f=>
   subst J;replace e:=qY e.2;have N:=zI e.2.1;obtain⟨R,d,C⟩:=vE d;rw[I] at d;have l1:=zT e.1;refine xG (xX (xA 2 F rfl fun a F=>oL xC F rfl rfl y fun a E F=>xA 1 F rfl fun a F=>xJ (aD F rfl l1 (xT ?_))));refine xH (xG ?_);have W:=k64 (Nat.le_of_lt e.1) E;have O:=bG e.1 E;refine qM (xX (xA 2 F rfl fun a F=>oI xC xI F rfl rfl rfl y N fun a X P F=>olI xN F rfl rfl H.sm P fun a S F=>xA 2 F rfl fun a F=>xJ ?_));refine vK F rfl (fun t=>?_) (fun t=>?_)
   ·
    replace d:=zW t d;refine xX (xA 1 F rfl fun a F=>xJ (xP (zZ (qH (qH ?_)))));replace d:=bQ d C;refine zZ (qH ?_);replace d:=bR d A;refine qH (xR F rfl (xZ F rfl) ?_);obtain rfl:=oj d;exact⟨rfl,H.bl⟩
   replace d:=zV t d;refine xT (zG (xH (oO (xA 1 F rfl fun a F=>kO F rfl rfl rfl O fun a F=>xA 1 F rfl fun a F=>xJ ?_))));replace d:=aB d C;exact⟨_,Nat.lt_succ_self _,j+1,f,⟨e.1,e.2.2⟩,rfl,d,F.su,H⟩
 rintro a w ⟨rfl,F,H⟩
 have d:=oJ A;refine xH (xX (xA 1 F rfl fun a F=>xJ (xP (xR F rfl (xZ F rfl) ?_))));obtain rfl:=oj d;exact⟨rfl,H.bl⟩
def cI (N:Nat) (h:Template) (e:Con) (i:List (List Int)) (j n:Int):Option Bool:=
 xY (ix h.rels e.rel) fun p=>
 kY (σ:=Unit) (
  qW (σ:=Unit) (ρ:=Bool) (fun (I:Nat) (d:(List Int)) (s:Unit)=>
    match s with
    | _=>
    kY (σ:=Bool) (
     xY (ix d j) fun t=>
     if (t==n) then  xY (iG e d) fun y=>
      some (.nx y) else  some (.nx false)) fun A=>
    kY (σ:=Bool×Int) (
     lD (σ:=Bool×Int) (ρ:=(Ctl (Unit) Bool)) (fun(s:Bool×Int)=>
       match s with
       | (f,c)=>
       kY (σ:=Bool) (
        if (decide (c<(d.length:Int))) then  some (.nx f) else  some (.nx false)) fun B=>
       if B then
        xY (ix e.scope c) fun C=>
        xY (ix i C) fun D=>
        xY (ix d c) fun E=>
        xY (dS D E) fun F=>
        xY (ck (c+1)) fun G=>
        some (.go (F,G))
       else
        some (.brk (f,c))) N (A,0)) fun(H,J)=>
    if H then
     some (.ret true)
    else
     some (.go ())) p.tuples 0 ()) fun _=>
 some false
theorem rE {B:Nat→Prop} {N:Nat} {Z:Template} {x1:Con} {x2:List (List Int)} {n i:Int} (r:Bool) (d:cI N Z x1 x2 n i=some r) {R:Value} {p:Value} {t:Value} (e:World) (hN:∀ c,B c→c<e.heap.size) (A0:Bo B e (Pt 2 xL) R Z) (I:Bo B e (Pt 2 qZ) p x1) (A2:Bo B e (Sl 1 (vS 1 xM)) t x2) (bq:xS n) (br:xS i):Calls Tryz.prog 142 #[R,p,t,xF n,xF i] e (bK (.bool r) e):=by
 unfold cI at d
 refine xW (L:=[(0,R),(1,p),(2,t),(3,xF n),(4,xF i)]) func142 rfl rfl rfl (sc rfl (sc rfl (sc rfl (sc rfl (sc rfl sn))))) (fun a F=>?_);have H:=Sep.start hN;refine xX (xA 1 F rfl fun a F=>xJ (xG (xQa H (oM F rfl rfl fun a F=>qN F rfl rfl A0 fun a F=>qF (s':=1) cD F rfl rfl A0 xL.f1 fun a p1 h1 F=>qlS kM F rfl rfl H.q h1 (fun a v3 h2 F=>?_)))));refine oM F rfl rfl fun a F=>qN F rfl rfl I fun a F=>qF (s':=1) tD F rfl rfl I qZ.f0 fun a p2 a9 F=>qlI xN F rfl rfl H.q a9 (fun a i1 F=>?_);obtain⟨M,c1,d⟩:=xB d;refine qI qP oE F rfl rfl rfl h2 c1 fun a J C F=>gS F rfl rfl fun a F=>aF fun w H=>xH (xG (xX (xA 1 F rfl fun a F=>xJ ?_)));obtain⟨o1,d,W⟩:=xV d;refine qG (fun a w=>o1= .nx ()∧Sk a 77 []∧Sep [] B e w []) ?_ ?_
 ·
  refine qM ?_;obtain⟨aa,ab,d⟩:=vY d;refine vT (fun g a w=>∃ (j:Nat) (y:List (List Int)),(j≤M.tuples.length∧M.tuples.drop j=y)∧y.length=g∧qW aa y j ()=some o1∧Sk a 77 [(12,xF (j:Int)),(1,p),(2,t),(3,xF n),(4,xF i),(11,J)]∧Sep [] B e w []) M.tuples.length ?_ ?_
  ·
   exact⟨0,M.tuples,⟨Nat.zero_le _,rfl⟩,rfl,d,F.su,H⟩
  intro g1 a w ⟨j,y,f,ac,d,F,H⟩
  cases y with
  | nil=>
   replace d:=vX d;have q1:=vZ f.1 f.2;have l1:=kW q1;refine xG (xX (xA 2 F rfl fun a F=>oN F rfl rfl C fun a F=>oF (s':=1) fG F rfl rfl C vG.f1 fun a p4 h4 F=>olS zD F rfl rfl H.sm h4 fun a v4 h5 F=>oL xK F rfl rfl h5 fun a i2 F=>xA 1 F rfl fun a F=>vP ?_));refine xH (aC F rfl l1 (vU (vV (vV (bC (xH ?_))))));exact⟨(kQ d),F.sub sn,H⟩
  | cons x5 y=>
   subst ac;replace f:=qY f.2;have y1:=zI f.2.1;obtain⟨bt,d,X⟩:=vE d;rw[ab] at d;have l1:=zT f.1;refine xG (xX (xA 2 F rfl fun a F=>oN F rfl rfl C fun a F=>oF (s':=1) fG F rfl rfl C vG.f1 fun a p5 h6 F=>olS zD F rfl rfl H.sm h6 fun a v5 h7 F=>oL xK F rfl rfl h7 fun a i3 F=>xA 1 F rfl fun a F=>vP ?_));refine xH (aD F rfl l1 (xT (xH (xG ?_))));have j1:=k64 (Nat.le_of_lt f.1) i3;have m1:=bG f.1 i3;refine qM (xX (xA 1 F rfl fun a F=>oN F rfl rfl C fun a F=>oF (s':=1) fG F rfl rfl C vG.f1 fun a p6 h8 F=>olS zD F rfl rfl H.sm h8 fun a v6 h9 F=>xA 1 F rfl fun a F=>oI xK xU F rfl rfl rfl h9 y1 fun a p7 ad F=>olS qE F rfl rfl H.sm ad fun a S K F=>xA 1 F rfl fun a F=>?_));refine xJ (xG ?_);obtain⟨o2,d,ae⟩:=xV d;refine qG (fun a w=>∃ (O:Bool),o2= .nx O∧Sk a 77 [(1,p),(2,t),(3,xF n),(4,xF i),(11,J),(12,xF (j:Int)),(13,S),(14,.bool O)]∧Sep [] B e w []) ?_ ?_
   ·
    refine oO (xA 2 F rfl fun a F=>?_);obtain⟨z2,c2,d⟩:=xB d;refine oI xC xI F rfl rfl rfl K c2 fun a p8 af F=>olI xN F rfl rfl H.sm af fun a i4 F=>xA 3 F rfl fun a F=>?_
    rcases zC (z2==i) with E | E
    ·
     replace d:=zW E d;have F:=F.eb 47 rfl E;refine xA 2 F rfl fun a F=>?_;obtain⟨z3,c3,d⟩:=xB d;refine oK F rfl call175 rfl H (xBz z3 c3 _ aA (H.a I) (H.a K)) fun a w H F=>xA 2 F rfl fun a F=>xJ ?_;exact⟨z3,(kQ d),F.su,H⟩
    replace d:=zV E d;have F:=F.eb 47 rfl E;refine xA 5 F rfl fun a F=>xJ ?_;exact⟨false,(kQ d),F.su,H⟩
   rintro a w ⟨O,rfl,F,H⟩
   have d:=oJ ae;refine xH (xG (xX (xA 1 F rfl fun a F=>xJ ?_)));obtain⟨o3,d,ag⟩:=xV d;refine qG (fun a w=>∃ (T:Bool) (U:Int),o3= .nx (T,U)∧Sk a 77 [(1,p),(2,t),(3,xF n),(4,xF i),(11,J),(12,xF (j:Int)),(14,.bool T)]∧Sep [] B e w []∧xS U) ?_ ?_
   ·
    refine qM ?_;obtain⟨ah,ai,d⟩:=iO d;refine vT (fun g a w=>∃ (D:Bool) (A:Int),lD ah g (D,A)=some o3∧Sk a 77 [(1,p),(2,t),(3,xF n),(4,xF i),(11,J),(12,xF (j:Int)),(13,S),(14,.bool D),(15,xF A)]∧Sep [] B e w []∧xS A) N ?_ ?_
    ·
     exact⟨O,0,d,F.su,H,(show xS (0) by decide)⟩
    intro g2 a w ⟨D,A,d,F,H,i5⟩;obtain⟨bu,t2,bv,d,Y⟩:=dW d;rw[ai] at d;refine xG (xG ?_);obtain⟨o4,d,aj⟩:=xV d;refine qG (fun a w=>∃ (V:Bool),o4= .nx V∧Sk a 77 [(1,p),(2,t),(3,xF n),(4,xF i),(11,J),(12,xF (j:Int)),(13,S),(14,.bool D),(15,xF A),(58,.bool V)]∧Sep [] B e w []) ?_ ?_
    ·
     refine oO (xA 2 F rfl fun a F=>oL xC F rfl rfl K fun a i6 F=>xA 2 F rfl fun a F=>?_)
     rcases zC (decide (A<(x5.length:Int))) with G | G
     ·
      replace d:=zW G d;have F:=F.eb 56 rfl G;refine xA 2 F rfl fun a F=>xJ ?_;exact⟨D,(kQ d),F.su,H⟩
     replace d:=zV G d;have F:=F.eb 56 rfl G;refine xA 2 F rfl fun a F=>xJ ?_;exact⟨false,(kQ d),F.su,H⟩
    rintro a w ⟨V,rfl,F,H⟩
    have d:=oJ aj;refine xH (vK F rfl (fun P=>?_) (fun P=>?_))
    ·
     replace d:=zW P d;refine xT (xH (xG (qM (xQa H (oM F rfl rfl fun a F=>oM F rfl rfl fun a F=>qN F rfl rfl I fun a F=>qF (s':=1) gD F rfl rfl I qZ.f1 fun a p9 ak F=>qlS qE F rfl rfl H.q ak fun a v8 al F=>oM F rfl rfl (fun a F=>?_))))));obtain⟨z4,c4,d⟩:=xB d;refine qI xC xI F rfl rfl rfl al c4 fun a c0 am F=>qlI xN F rfl rfl H.q am (fun a i7 F=>?_);obtain⟨z5,c5,d⟩:=xB d;refine qI xK xU F rfl rfl rfl A2 c5 fun a p12 an F=>qlS qE F rfl rfl H.q an fun a v9 ao F=>oM F rfl rfl fun a F=>oM F rfl rfl (fun a F=>?_);obtain⟨z6,c6,d⟩:=xB d;refine qI xC xI F rfl rfl rfl K c6 fun a p13 aq F=>qlI xN F rfl rfl H.q aq (fun a i8 F=>?_);obtain⟨z7,c7,d⟩:=xB d;refine dQ F rfl call102 rfl (fun w w' h l=>l.through h) (fun w l=>rI z7 c7 w aA ((H.go l).a ao) i8) fun a F=>gS F rfl rfl fun a F=>aF fun w H=>zG (xH (oO (xA 1 F rfl fun a F=>?_)));obtain⟨z8,c8,d⟩:=xB d;refine fF F rfl rfl rfl c8 fun a F=>xA 1 F rfl fun a F=>xJ ?_;replace d:=aB d Y;exact⟨t2,(by omega),z7,z8,d,F.su,H,(bD c8)⟩
    replace d:=zV P d;refine vU (vV (vV ?_));replace d:=rT d Y;refine bC (xH ?_);exact⟨D,A,(kQ d),F.su,H,i5⟩
   rintro a w ⟨T,U,rfl,F,H,i9⟩
   have d:=oJ ag;refine xH (xX (xA 1 F rfl fun a F=>xJ (vK F rfl (fun Q=>?_) (fun Q=>?_))))
   ·
    replace d:=zW Q d;refine xX (xA 1 F rfl fun a F=>xJ (xP (zZ (qH (qH ?_)))));replace d:=bQ d X;refine zZ (qH ?_);replace d:=bR d W;refine qH (xR F rfl (xZ F rfl) ?_);obtain rfl:=oj d;exact⟨rfl,H.bl⟩
   replace d:=zV Q d;refine xT (zG (xH (oO (xA 1 F rfl fun a F=>kO F rfl rfl rfl m1 fun a F=>xA 1 F rfl fun a F=>xJ ?_))));replace d:=aB d X;exact⟨_,Nat.lt_succ_self _,j+1,y,⟨f.1,f.2.2⟩,rfl,d,F.su,H⟩
 rintro a w ⟨rfl,F,H⟩
 have d:=oJ W;refine xH (xX (xA 1 F rfl fun a F=>xJ (xP (xR F rfl (xZ F rfl) ?_))));obtain rfl:=oj d;exact⟨rfl,H.bl⟩
def aE (e:List Int) (f:Int):Option (List Int):=
 kY (σ:=(List Int)) (
  qW (σ:=(List Int)) (ρ:=(List Int)) (fun (j:Nat) (c:Int) (d:(List Int))=>
   if (c != f) then
    xY (ap d ([c])) fun h=>
    some (.go h)
   else
    some (.go d)) e 0 []) fun i=>
 some i
theorem bF {B:Nat→Prop} {i:List Int} {n:Int} (r:(List Int)) (d:aE i n=some r) {A:Value} (j:World) (U:∀ c,B c→c<j.heap.size) (C:Bo B j (Sl 1 xM) A i) (a4:xS n):Calls Tryz.prog 105 #[A,xF n] j (Gv (fun v w'=>∃ (I:Value),v=I∧Sep [] B j w' [rl 1 xM 2 I r])):=by
 unfold aE at d
 refine xW (L:=[(0,A),(1,xF n)]) func105 rfl rfl rfl (sc rfl (sc rfl sn)) (fun a F=>?_);have H:=Sep.start U;refine xX (xA 1 F rfl fun a F=>zR (oR0 (R:=xM) xC xI F rfl H fun a w V H F=>xA 1 F rfl fun a F=>xJ ?_));refine xG (xX (xA 1 F rfl fun a F=>xJ ?_));obtain⟨K,d,P⟩:=xV d;refine qG (fun a w=>∃ (G:List Int) (D:Value),K= .nx G∧Sk a 28 [(5,D)]∧Sep [] B j w [rl 1 xM 2 D G]) ?_ ?_
 ·
  refine qM ?_;obtain⟨Q,S,d⟩:=vY d;refine vT (fun g a w=>∃ (h:Nat) (f p:List Int) (t:Value),(h≤i.length∧i.drop h=f)∧f.length=g∧qW Q f h p=some K∧Sk a 28 [(6,xF (h:Int)),(0,A),(1,xF n),(5,t)]∧Sep [] B j w [rl 1 xM 2 t p]) i.length ?_ ?_
  ·
   exact⟨0,i,[],V,⟨Nat.zero_le _,rfl⟩,rfl,d,F.su,H⟩
  intro g1 a w ⟨h,f,p,t,e,T,d,F,H⟩
  cases f with
  | nil=>
   replace d:=vX d;have W:=vZ e.1 e.2;have l1:=kW W;refine xG (xX (xA 2 F rfl fun a F=>oL xC F rfl rfl C fun a i1 F=>xA 1 F rfl fun a F=>xJ (aC F rfl l1 (vU ?_))));refine vV (vV (bC (xH ?_)));exact⟨p,t,(kQ d),F.su,H⟩
  | cons X f=>
   subst T;replace e:=qY e.2;have M:=zI e.2.1;obtain⟨a5,d,J⟩:=vE d;rw[S] at d;have l1:=zT e.1;refine xG (xX (xA 2 F rfl fun a F=>oL xC F rfl rfl C fun a N F=>xA 1 F rfl fun a F=>xJ (aD F rfl l1 (xT ?_))));refine xH (xG ?_);have j1:=k64 (Nat.le_of_lt e.1) N;have O:=bG e.1 N;refine qM (xX (xA 2 F rfl fun a F=>oI xC xI F rfl rfl rfl C M fun a p1 Y F=>olI xN F rfl rfl H.sm Y fun a i3 F=>xA 2 F rfl fun a F=>xJ ?_));refine vK F rfl (fun E=>?_) (fun E=>?_)
   ·
    replace d:=zW E d;refine oO (xA 3 F rfl fun a F=>oI xC xI F rfl rfl rfl C M fun a p2 Z F=>olI xN F rfl rfl H.sm Z fun a i4 F=>iN (R:=xM) (y:=X) xC xI qQ rfl rfl F rfl rfl H (Eo.int i4) (fun a w v4 H F=>?_));obtain⟨z1,c1,d⟩:=xB d;refine oPL (sz:=1) (R:=xM) (z:=(xF 0)) (bytes:=8) xC (by kernel_rfl) rfl rfl F rfl rfl rfl (H.s [1,0] rfl rfl) c1 fun a w v5 H F=>xA 1 F rfl fun a F=>vP (zG (xH (oO (xA 1 F rfl fun a F=>kO F rfl rfl rfl O fun a F=>xA 1 F rfl fun a F=>xJ ?_))));replace d:=aB d J;exact⟨_,Nat.lt_succ_self _,h+1,f,z1,v5,⟨e.1,e.2.2⟩,rfl,d,F.su,H⟩
   replace d:=zV E d;refine xT (zG (xH (oO (xA 1 F rfl fun a F=>kO F rfl rfl rfl O fun a F=>xA 1 F rfl fun a F=>xJ ?_))));replace d:=aB d J;exact⟨_,Nat.lt_succ_self _,h+1,f,p,t,⟨e.1,e.2.2⟩,rfl,d,F.su,H⟩
 rintro a w ⟨G,D,rfl,F,H⟩
 have d:=oJ P;refine xH (xX (xA 2 F rfl fun a F=>xJ (xP (xR F rfl (xZ F rfl) ?_))));obtain rfl:=oj d;exact⟨_,rfl,D,rfl,H⟩
def bZ (N:Nat) (M:Template) (O:Instance) (e:List (List Int)) (t:Bool):Option ((List ArcStep)×(List (List Int))):=
 kY (σ:=Int) (
  lD (σ:=Int) (ρ:=(List ArcStep)×(List (List Int))) (fun(f:Int)=>
   kY (σ:=Bool) (
    if (decide (f<(e.length:Int))) then  some (.nx t) else  some (.nx false)) fun P=>
   if P then
    xY (ix e f) fun Q=>
    if ((Q.length:Int)==0) then
     some (.ret ([],e))
    else
     xY (ck (f+1)) fun R=>
     some (.go R)
   else
    some (.brk f)) N 0) fun s3=>
 kY (σ:=(List ArcStep)×Int×(List (List Int))) (
  lD (σ:=(List ArcStep)×Int×(List (List Int))) (ρ:=(List ArcStep)×(List (List Int))) (fun(s:(List ArcStep)×Int×(List (List Int)))=>
    match s with
    | (h,y,A)=>
    if (y != (h.length:Int)) then
     kY (σ:=(List ArcStep)×(List (List Int))) (
      qW (σ:=(List ArcStep)×(List (List Int))) (ρ:=(Ctl ((List ArcStep)×Int×(List (List Int))) ((List ArcStep)×(List (List Int))))) (fun (S:Nat) (B:Con) (s:(List ArcStep)×(List (List Int)))=>
        match s with
        | (T,U)=>
        kY (σ:=(List ArcStep)×(List (List Int))) (
         qW (σ:=(List ArcStep)×(List (List Int))) (ρ:=(Ctl ((List ArcStep)×(List (List Int))) (Ctl ((List ArcStep)×Int×(List (List Int))) ((List ArcStep)×(List (List Int)))))) (fun (V:Nat) (c:Int) (s:(List ArcStep)×(List (List Int)))=>
           match s with
           | (W,n)=>
           xY (ix n c) fun X=>
           xY (iR X) fun Y=>
           kY (σ:=(List ArcStep)×(List (List Int))) (
            qW (σ:=(List ArcStep)×(List (List Int))) (ρ:=(Ctl ((List ArcStep)×(List (List Int))) (Ctl ((List ArcStep)×(List (List Int))) (Ctl ((List ArcStep)×Int×(List (List Int))) ((List ArcStep)×(List (List Int))))))) (fun (k3:Nat) (i:Int) (s:(List ArcStep)×(List (List Int)))=>
              match s with
              | (p,d)=>
              xY (cI N M B d (V:Int) i) fun Z=>
              if (!Z) then
               xY (ix d c) fun z6=>
               xY (aE z6 i) fun j=>
               xY (ap p ([(ArcStep.mk c i (S:Int))])) fun C=>
               kY (σ:=Bool) (
                if t then  xY (ix (d.set (c).toNat j) c) fun z9=>
                 some (.nx ((z9.length:Int)==0)) else  some (.nx false)) fun D=>
               if D then
                some (.ret (.ret (.ret (.ret (C,(d.set (c).toNat j))))))
               else
                some (.go (C,(d.set (c).toNat j)))
              else
               some (.go (p,d))) Y 0 (W,n)) fun(E,F)=>
           some (.go (E,F))) B.scope 0 (T,U)) fun(G,H)=>
        some (.go (G,H))) O.cons 0 (h,A)) fun(I,J)=>
     some (.go (I,(h.length:Int),J))
    else
     some (.brk (h,y,A))) N ([],(-1),e)) fun(K,a2,L)=>
 some (K,L)
theorem wA {B:Nat→Prop} {N:Nat} {x0:Template} {V:Instance} {O:List (List Int)} {i:Bool} (r:(List ArcStep)×(List (List Int))) (d:bZ N x0 V O i=some r) {j:Value} {n:Value} {f:Value} {p:List Nat} (h:World) (hN:∀ c,B c→c<h.heap.size) (S0:Sep p B h h [rw N0 1 (vS 1 xM) 46 f O]) (A0:Bo B h (Pt 2 xL) j x0) (W:Bo B h (Pt 2 xO) n V):Calls Tryz.prog 132 #[j,n,f,.bool i] h (Gv (fun v w'=>∃ (be:Value),v=be∧Sep p B h w' [rl 3 qR 166 be r.1,rw N0 1 (vS 1 xM) 46 f r.2])):=by
 unfold bZ at d
 refine xW (L:=[(0,j),(1,n),(2,f),(3,.bool i)]) func132 rfl rfl rfl (sc rfl (sc rfl (sc rfl (sc rfl sn)))) (fun a F=>?_);have H:=S0;refine xX (xA 1 F rfl fun a F=>zR (oR0 (R:=qR) bP lL F rfl H fun a w I H F=>xA 1 F rfl fun a F=>xJ ?_));refine xG (xX (xA 1 F rfl fun a F=>xJ ?_));obtain⟨o1,d,bf⟩:=xV d;refine qG (fun a w=>∃ (s1:Int),o1= .nx s1∧Sk a 126 [(0,j),(1,n),(2,f),(3,.bool i),(9,I)]∧Sep p B h w [rl 3 qR 166 I ([]),rw N0 1 (vS 1 xM) 46 f O]∧xS s1) ?_ ?_
 ·
  refine qM ?_;obtain⟨fl1,hf1,d⟩:=iO d;refine vT (fun g a w=>∃ (P:Int),lD fl1 g P=some o1∧Sk a 126 [(0,j),(1,n),(2,f),(3,.bool i),(9,I),(10,xF P)]∧Sep p B h w [rl 3 qR 166 I ([]),rw N0 1 (vS 1 xM) 46 f O]∧xS P) N ?_ ?_
  ·
   exact⟨0,d,F.su,H,(show xS (0) by decide)⟩
  intro g1 a w ⟨P,d,F,H,i1⟩;obtain⟨el,t1,em,d,aq⟩:=dW d;rw[hf1] at d;refine xG (xG ?_);obtain⟨o2,d,ca⟩:=xV d;refine qG (fun a w=>∃ (s3:Bool),o2= .nx s3∧Sk a 126 [(0,j),(1,n),(2,f),(3,.bool i),(9,I),(10,xF P),(25,.bool s3)]∧Sep p B h w [rl 3 qR 166 I ([]),rw N0 1 (vS 1 xM) 46 f O]) ?_ ?_
  ·
   refine oO (xA 2 F rfl fun a F=>oL xK F rfl rfl (H.r 1 rfl) fun a i2 F=>xA 2 F rfl fun a F=>?_)
   rcases zC (decide (P<(O.length:Int))) with Y | Y
   ·
    replace d:=zW Y d;have F:=F.eb 23 rfl Y;refine xA 2 F rfl fun a F=>xJ ?_;exact⟨i,(kQ d),F.su,H⟩
   replace d:=zV Y d;have F:=F.eb 23 rfl Y;refine xA 2 F rfl fun a F=>xJ ?_;exact⟨false,(kQ d),F.su,H⟩
  rintro a w ⟨s3,rfl,F,H⟩
  have d:=oJ ca;refine xH (vK F rfl (fun ar=>?_) (fun ar=>?_))
  ·
   replace d:=zW ar d;refine xT (xH (xG (qM (xX (xA 2 F rfl fun a F=>?_)))));obtain⟨z1,c1,d⟩:=xB d;refine oI xK xU F rfl rfl rfl (H.r 1 rfl) c1 fun a p1 h1 F=>olS qE F rfl rfl (Sm.refl _ _) h1 fun a v4 cb F=>oL xC F rfl rfl cb fun a i3 F=>xA 1 F rfl fun a F=>xJ (vK F rfl (fun au=>?_) (fun au=>?_))
   ·
    replace d:=zW au d;refine xX (xA 2 F rfl fun a F=>xJ (xP (zZ (qH (qH ?_)))));replace d:=bQ d aq;refine zZ (qH ?_);replace d:=bR d bf;refine qH (xR F rfl (xZ F rfl) ?_);obtain rfl:=oj d;exact⟨_,rfl,I,rfl,H⟩
   replace d:=zV au d;refine xT (zG (xH (oO (xA 1 F rfl fun a F=>?_))));obtain⟨z2,c2,d⟩:=xB d;refine fF F rfl rfl rfl c2 fun a F=>xA 1 F rfl fun a F=>xJ ?_;replace d:=aB d aq;exact⟨t1,(by omega),z2,d,F.su,H,(bD c2)⟩
  replace d:=zV ar d;refine vU (vV (vV ?_));replace d:=rT d aq;refine bC (xH ?_);exact⟨P,(kQ d),F.su,H,i1⟩
 rintro a w ⟨s1,rfl,F,H,i4⟩
 have d:=oJ bf;refine xH (xG (xX (xA 1 F rfl fun a F=>xJ ?_)));obtain⟨o3,d,bg⟩:=xV d;refine qG (fun a w=>∃ (s4:List ArcStep) (v5:Value) (s5:Int) (s6:List (List Int)),o3= .nx (s4,s5,s6)∧Sk a 126 [(2,f),(9,v5)]∧Sep p B h w [rl 3 qR 166 v5 s4,rw N0 1 (vS 1 xM) 46 f s6]∧xS s5) ?_ ?_
 ·
  refine qM ?_;obtain⟨cc,cd,d⟩:=iO d;refine vT (fun g a w=>∃ (t:List ArcStep) (v6:Value) (s8:Int) (s9:List (List Int)),lD cc g (t,s8,s9)=some o3∧Sk a 126 [(0,j),(1,n),(2,f),(3,.bool i),(9,v6),(11,xF s8)]∧Sep p B h w [rl 3 qR 166 v6 t,rw N0 1 (vS 1 xM) 46 f s9]∧xS s8) N ?_ ?_
  ·
   exact⟨[],I,(-1),O,d,F.su,H,(show xS (-1) by decide)⟩
  intro g2 a w ⟨t,v6,s8,s9,d,F,H,i5⟩;obtain⟨en,t2,eo,d,aw⟩:=dW d;rw[cd] at d;refine xG (xX (xA 2 F rfl fun a F=>oL bP F rfl rfl (H.l 0 rfl) fun a i6 F=>xA 1 F rfl fun a F=>xJ (vK F rfl (fun ax=>?_) (fun ax=>?_))))
  ·
   replace d:=zW ax d;refine xT (xH (qM (xX (xA 1 F rfl fun a F=>oL bP F rfl rfl (H.l 0 rfl) fun a i7 F=>xA 1 F rfl fun a F=>xJ (xG ?_)))));refine oO (xA 1 F rfl fun a F=>xJ ?_);obtain⟨o4,d,bh⟩:=xV d;refine qG (fun a w=>∃ (ac:List ArcStep) (v7:Value) (ad:List (List Int)),o4= .nx (ac,ad)∧Sk a 126 [(0,j),(1,n),(2,f),(3,.bool i),(9,v7),(11,xF (t.length:Int))]∧Sep p B h w [rl 3 qR 166 v7 ac,rw N0 1 (vS 1 xM) 46 f ad]) ?_ ?_
   ·
    refine qM ?_;obtain⟨ce,cf,d⟩:=vY d;refine vT (fun g a w=>∃ (C:Nat) (Q:List Con) (Z:List ArcStep) (v8:Value) (a0:List (List Int)),(C≤V.cons.length∧V.cons.drop C=Q)∧Q.length=g∧qW ce Q C (Z,a0)=some o4∧Sk a 126 [(12,xF (C:Int)),(0,j),(1,n),(2,f),(3,.bool i),(9,v8),(11,xF (t.length:Int))]∧Sep p B h w [rl 3 qR 166 v8 Z,rw N0 1 (vS 1 xM) 46 f a0]) V.cons.length ?_ ?_
    ·
     exact⟨0,V.cons,t,v6,s9,⟨Nat.zero_le _,rfl⟩,rfl,d,F.su,H⟩
    intro g3 a w ⟨C,Q,Z,v8,a0,D,cg,d,F,H⟩
    cases Q with
    | nil=>
     replace d:=vX d;have q1:=vZ D.1 D.2;have l1:=kW q1;refine xG (xX (xA 2 F rfl fun a F=>oN F rfl rfl W fun a F=>oF (s':=1) bU F rfl rfl W xO.f1 fun a p2 h2 F=>olS vR F rfl rfl H.sm h2 fun a v9 h3 F=>oL oY F rfl rfl h3 fun a i8 F=>xA 1 F rfl fun a F=>vP ?_));refine xH (aC F rfl l1 (vU (vV (vV (bC (xH ?_))))));exact⟨Z,v8,a0,(kQ d),F.su,H⟩
    | cons x4 Q=>
     subst cg;replace D:=qY D.2;have y1:=zI D.2.1;obtain⟨ep,d,bi⟩:=vE d;rw[cf] at d;have l1:=zT D.1;refine xG (xX (xA 2 F rfl fun a F=>oN F rfl rfl W fun a F=>oF (s':=1) bU F rfl rfl W xO.f1 fun a p3 h4 F=>olS vR F rfl rfl H.sm h4 fun a er h5 F=>oL oY F rfl rfl h5 fun a i9 F=>xA 1 F rfl fun a F=>vP ?_));refine xH (aD F rfl l1 (xT (xH (xG ?_))));have j1:=k64 (Nat.le_of_lt D.1) i9;have m1:=bG D.1 i9;refine qM (xX (xA 1 F rfl fun a F=>oN F rfl rfl W fun a F=>oF (s':=1) bU F rfl rfl W xO.f1 fun a p4 h6 F=>olS vR F rfl rfl H.sm h6 fun a es h7 F=>xA 1 F rfl fun a F=>oI oY zA F rfl rfl rfl h7 y1 fun a p5 T F=>xA 1 F rfl fun a F=>vP ?_));refine xH (xX (xA 1 F rfl fun a F=>xJ ?_));obtain⟨o5,d,bj⟩:=xV d;refine qG (fun a w=>∃ (ae:List ArcStep) (af:Value) (ag:List (List Int)),o5= .nx (ae,ag)∧Sk a 126 [(0,j),(1,n),(2,f),(3,.bool i),(9,af),(11,xF (t.length:Int)),(12,xF (C:Int))]∧Sep p B h w [rl 3 qR 166 af ae,rw N0 1 (vS 1 xM) 46 f ag]) ?_ ?_
     ·
      refine qM ?_;obtain⟨ch,ci,d⟩:=vY d;refine vT (fun g a w=>∃ (G:Nat) (U:List Int) (a1:List ArcStep) (a2:Value) (a3:List (List Int)),(G≤x4.scope.length∧x4.scope.drop G=U)∧U.length=g∧qW ch U G (a1,a3)=some o5∧Sk a 126 [(14,xF (G:Int)),(0,j),(1,n),(2,f),(3,.bool i),(9,a2),(11,xF (t.length:Int)),(12,xF (C:Int)),(13,p5)]∧Sep p B h w [rl 3 qR 166 a2 a1,rw N0 1 (vS 1 xM) 46 f a3]) x4.scope.length ?_ ?_
      ·
       exact⟨0,x4.scope,Z,v8,a0,⟨Nat.zero_le _,rfl⟩,rfl,d,F.su,H⟩
      intro g4 a w ⟨G,U,a1,a2,a3,E,cj,d,F,H⟩
      cases U with
      | nil=>
       replace d:=vX d;have q2:=vZ E.1 E.2;have l2:=kW q2;refine xG (xX (xA 2 F rfl fun a F=>oN F rfl rfl T fun a F=>oF (s':=1) gD F rfl rfl T qZ.f1 fun a p6 h9 F=>olS qE F rfl rfl H.sm h9 fun a et cl F=>oL xC F rfl rfl cl fun a eu F=>xA 1 F rfl fun a F=>vP ?_));refine xH (aC F rfl l2 (vU (vV (vV (bC (xH ?_))))));exact⟨a1,a2,a3,(kQ d),F.su,H⟩
      | cons x5 U=>
       subst cj;replace E:=qY E.2;have y2:=zI E.2.1;obtain⟨ew,d,bm⟩:=vE d;rw[ci] at d;have l2:=zT E.1;refine xG (xX (xA 2 F rfl fun a F=>oN F rfl rfl T fun a F=>oF (s':=1) gD F rfl rfl T qZ.f1 fun a p7 cm F=>olS qE F rfl rfl H.sm cm fun a ex cn F=>oL xC F rfl rfl cn fun a bn F=>xA 1 F rfl fun a F=>vP ?_));refine xH (aD F rfl l2 (xT (xH (xG ?_))));have j2:=k64 (Nat.le_of_lt E.1) bn;have m2:=bG E.1 bn;refine qM (xX (xA 1 F rfl fun a F=>oN F rfl rfl T fun a F=>oF (s':=1) gD F rfl rfl T qZ.f1 fun a p8 co F=>olS qE F rfl rfl H.sm co fun a ey cp F=>xA 1 F rfl fun a F=>oI xC xI F rfl rfl rfl cp y2 fun a p9 cq F=>olI xN F rfl rfl H.sm cq fun a cr F=>xA 1 F rfl fun a F=>?_));refine zR (xA 2 F rfl fun a F=>?_);obtain⟨z3,c3,d⟩:=xB d;refine oI xK xU F rfl rfl rfl (H.r 1 rfl) c3 fun a ez cs F=>olS qE F rfl rfl (Sm.refl _ _) cs (fun a f4 ct F=>?_);obtain⟨X,c4,d⟩:=xB d;refine oG F rfl call43 rfl (nD X c4 _ aA ct) (fun a vv w ⟨ay,f5,S⟩ F=>?_);subst vv;have H:=H.r1 S n0;refine xA 1 F rfl fun a F=>zR (xA 1 F rfl fun a F=>xJ ?_);obtain⟨o6,d,bp⟩:=xV d;refine qG (fun a w=>∃ (ah:List ArcStep) (ai:Value) (aj:List (List Int)),o6= .nx (ah,aj)∧Sk a 126 [(0,j),(1,n),(2,f),(3,.bool i),(9,ai),(11,xF (t.length:Int)),(12,xF (C:Int)),(13,p5),(14,xF (G:Int))]∧Sep p B h w [rl 3 qR 166 ai ah,rw N0 1 (vS 1 xM) 46 f aj]) ?_ ?_
       ·
        refine qM ?_;obtain⟨cu,cx,d⟩:=vY d;refine vT (fun g a w=>∃ (J:Nat) (K:List Int) (a4:List ArcStep) (a5:Value) (M:List (List Int)),(J≤X.length∧X.drop J=K)∧K.length=g∧qW cu K J (a4,M)=some o6∧Sk a 126 [(17,xF (J:Int)),(0,j),(1,n),(2,f),(3,.bool i),(9,a5),(11,xF (t.length:Int)),(12,xF (C:Int)),(13,p5),(14,xF (G:Int)),(15,xF x5),(16,ay)]∧Sep p B h w [rl 1 xM 2 ay X,rl 3 qR 166 a5 a4,rw N0 1 (vS 1 xM) 46 f M]) X.length ?_ ?_
        ·
         exact⟨0,X,a1,a2,a3,⟨Nat.zero_le _,rfl⟩,rfl,d,F.su,H⟩
        intro g5 a w ⟨J,K,a4,a5,M,A,cy,d,F,H⟩
        cases K with
        | nil=>
         replace d:=vX d;have q3:=vZ A.1 A.2;have l3:=kW q3;refine xG (xX (xA 2 F rfl fun a F=>oL xC F rfl rfl (H.l 0 rfl) fun a f6 F=>xA 1 F rfl fun a F=>xJ (aC F rfl l3 (vU ?_))));refine vV (vV (bC (xH ?_)));exact⟨a4,a5,M,(kQ d),F.su,(H.s [1,2] rfl rfl)⟩
        | cons x6 K=>
         subst cy;replace A:=qY A.2;have y3:=zI A.2.1;obtain⟨f7,d,az⟩:=vE d;rw[cx] at d;have l3:=zT A.1;refine xG (xX (xA 2 F rfl fun a F=>oL xC F rfl rfl (H.l 0 rfl) fun a bq F=>xA 1 F rfl fun a F=>xJ (aD F rfl l3 (xT ?_))));refine xH (xG ?_);have j3:=k64 (Nat.le_of_lt A.1) bq;have m3:=bG A.1 bq;refine qM (xX (xA 6 F rfl fun a F=>oI xC xI F rfl rfl rfl (H.l 0 rfl) y3 fun a f8 cz F=>olI xN F rfl rfl (Sm.refl _ _) cz (fun a d0 F=>?_)));obtain⟨z5,c5,d⟩:=xB d;refine oK F rfl call142 rfl H (rE z5 c5 _ aA (H.a A0) (H.a T) (H.r 2 rfl) j2 d0) fun a w H F=>xA 1 F rfl fun a F=>xJ (vK F rfl (fun b0=>?_) (fun b0=>?_))
         ·
          replace d:=zW b0 d;refine xG ?_;obtain⟨z6,c6,d⟩:=xB d;obtain⟨z7,c7,d⟩:=xB d;obtain⟨w1,rfl⟩:∃ x,x=w:=⟨_,rfl⟩;have f9:=H.sm;obtain⟨X1,N1,g6,e1,H,br,fa⟩:=H.fza;have bt:=g6.ld;refine lU H fun w H=>qV 0 rfl (qO F rfl rfl fun a F=>qV 1 rfl (qO F rfl rfl fun a F=>qV 2 rfl (qO F rfl rfl fun a F=>qV 3 rfl (qO F rfl rfl fun a F=>qV 6 rfl (qO F rfl rfl (fun a F=>?_))))));refine qV 7 rfl (qO F rfl rfl fun a F=>qJ 8 rfl (vI xC xI F rfl rfl rfl bt y3 fun a fb d1 F=>qJ 9 rfl (vlI xN F rfl rfl H.v d1 fun a d2 F=>kT H 4 rfl (oI xK xU F rfl rfl rfl (H.r 1 rfl) c6 fun a fc d3 F=>xJ ⟨⟨_,H⟩,?_⟩))));refine kT H 5 rfl (olS qE F rfl rfl (Sm.refl _ _) d3 fun a fd d4 F=>xJ ⟨⟨_,H⟩,?_⟩);refine kT H 10 rfl (oG F rfl jO rfl (bF z7 c7 _ aA d4 d2) (fun a vv w ⟨fe,ff,S⟩ F=>?_));subst vv;have H:=H.r1 S n0;refine xJ ⟨⟨_,H⟩,?_⟩;refine kT H 11 rfl (oRi xK xU F rfl rfl rfl H 2 rfl c6 fun a fg fh d5 F=>xJ ⟨⟨_,H⟩,?_⟩);refine kT H 12 rfl (oSc xU F rfl rfl rfl (H.s [2,0,1] rfl rfl) d5 (gX c6) n0 (fun e q=>(Eo.sl q.ld)) ((H.s [2,0,1] rfl rfl).l 1 rfl).one rfl fun w H=>xJ ⟨⟨_,H⟩,?_⟩);refine zN (xH (xX (xA 4 F rfl fun a F=>oI xC xI F rfl rfl rfl bt y3 fun a fi d6 F=>olI xN F rfl rfl H.sm d6 fun a d7 F=>xA 1 F rfl fun a F=>?_)));refine aX nS iQ (fun w=>by simp [xI];rfl) F rfl rfl rfl rfl rfl (oc rfl (oc rfl (oc rfl on))) rfl rfl fun a F=>iN (R:=qR) (y:=(ArcStep.mk x5 x6 (C:Int))) bP lL iQ rfl rfl F rfl rfl H (Eo.agg (qR.m cr d7 j1)) (fun a w fj H F=>?_);obtain⟨z8,c8,d⟩:=xB d;refine oPL (sz:=3) (R:=qR) (z:=(.agg #[xF 0,xF 0,xF 0])) (bytes:=24) bP (by kernel_rfl) rfl rfl F rfl rfl rfl (H.s [2,0,1] rfl rfl) c8 fun a w ak H F=>xA 1 F rfl fun a F=>xJ (xG ?_);obtain⟨o7,d,d8⟩:=xV d;refine qG (fun a w=>∃ (b1:Bool),o7= .nx b1∧Sk a 126 [(0,j),(1,n),(2,f),(3,.bool i),(9,ak),(11,xF (t.length:Int)),(12,xF (C:Int)),(13,p5),(14,xF (G:Int)),(15,xF x5),(16,ay),(17,xF (J:Int)),(123,.bool b1)]∧Sep X1 N1 w1 w [rl 3 qR 166 ak z8,rw N0 1 (vS 1 xM) 46 f (M.set (x5).toNat z7)]) ?_ ?_
          ·
           refine oO (xA 2 F rfl fun a F=>?_)
           rcases zC i with a6 | a6
           ·
            replace d:=zW a6 d;have F:=F.eb 116 rfl a6;refine xA 2 F rfl fun a F=>?_;obtain⟨z9,c9,d⟩:=xB d;refine oI xK xU F rfl rfl rfl (H.r 1 rfl) c9 fun a fk d9 F=>olS qE F rfl rfl (Sm.refl _ _) d9 fun a fl da F=>oL xC F rfl rfl da fun a fm F=>xA 2 F rfl fun a F=>xJ ?_;exact⟨((z9.length:Int)==0),(kQ d),F.su,H⟩
           replace d:=zV a6 d;have F:=F.eb 116 rfl a6;refine xA 7 F rfl fun a F=>xJ ?_;exact⟨false,(kQ d),F.su,H⟩
          rintro a w ⟨b1,rfl,F,H⟩
          have d:=oJ d8;refine xH (vK F rfl (fun b2=>?_) (fun b2=>?_))
          ·
           replace d:=zW b2 d;refine xX (xA 2 F rfl fun a F=>xJ (xP (zZ (qH (qH ?_)))));replace d:=bQ d az;refine zZ (qH ?_);replace d:=bR d bp;refine zZ (qH (qH ?_));replace d:=bQ d bm;refine zZ (qH ?_);replace d:=bR d bj;refine zZ (qH (qH ?_));replace d:=bQ d bi;refine zZ (qH ?_);replace d:=bR d bh;refine zZ (qH ?_);replace d:=bQ d aw;refine zZ (qH ?_);replace d:=bR d bg;refine qH ?_;have H:=(br.1 H (Ns.all ⟨n0,⟨n0,trivial⟩⟩));refine xR F rfl (xZ F rfl) ?_;obtain rfl:=oj d;exact⟨_,rfl,ak,rfl,(H.s [1,2] rfl rfl)⟩
          replace d:=zV b2 d;refine xT (zG (xH (oO (xA 1 F rfl fun a F=>kO F rfl rfl rfl m3 fun a F=>xA 1 F rfl fun a F=>xJ ?_))));replace d:=aB d az;exact⟨_,Nat.lt_succ_self _,J+1,K,z8,ak,(M.set (x5).toNat z7),⟨A.1,A.2.2⟩,rfl,d,F.su,(br.1 H (Ns.all ⟨n0,⟨n0,trivial⟩⟩))⟩
         replace d:=zV b0 d;refine xT (zG (xH (oO (xA 1 F rfl fun a F=>kO F rfl rfl rfl m3 fun a F=>xA 1 F rfl fun a F=>xJ ?_))));replace d:=aB d az;exact⟨_,Nat.lt_succ_self _,J+1,K,a4,a5,M,⟨A.1,A.2.2⟩,rfl,d,F.su,H⟩
       rintro a w ⟨ah,ai,aj,rfl,F,H⟩
       have d:=oJ bp;refine zG (xH (oO (xA 1 F rfl fun a F=>kO F rfl rfl rfl m2 fun a F=>xA 1 F rfl fun a F=>xJ ?_)));replace d:=aB d bm;exact⟨_,Nat.lt_succ_self _,G+1,U,ah,ai,aj,⟨E.1,E.2.2⟩,rfl,d,F.su,H⟩
     rintro a w ⟨ae,af,ag,rfl,F,H⟩
     have d:=oJ bj;refine zG (xH (oO (xA 1 F rfl fun a F=>kO F rfl rfl rfl m1 fun a F=>xA 1 F rfl fun a F=>xJ ?_)));replace d:=aB d bi;exact⟨_,Nat.lt_succ_self _,C+1,Q,ae,af,ag,⟨D.1,D.2.2⟩,rfl,d,F.su,H⟩
   rintro a w ⟨ac,v7,ad,rfl,F,H⟩
   have d:=oJ bh;refine zG (xH ?_);replace d:=aB d aw;exact⟨t2,(by omega),ac,v7,(t.length:Int),ad,d,F.su,H,i7⟩
  replace d:=zV ax d;refine vU (vV (vV ?_));replace d:=rT d aw;refine bC (xH ?_);exact⟨t,v6,s8,s9,(kQ d),F.su,H,i5⟩
 rintro a w ⟨s4,v5,s5,s6,rfl,F,H,fn⟩
 have d:=oJ bg;refine xH (xX (xA 2 F rfl fun a F=>xJ (xP (xR F rfl (xZ F rfl) ?_))));obtain rfl:=oj d;exact⟨_,rfl,v5,rfl,H⟩
def fV (f:Template) (h:Instance) (i j:Int) (n:List Line) (p:List Int) (t:Bool) (c:List (List Int)):Option Int:=
 kY (σ:=Unit) (
  qW (σ:=Unit) (ρ:=Int) (fun (d:Nat) (e:(List Int)) (s:Unit)=>
    match s with
    | _=>
    if ((e.length:Int)==0) then
     some (.ret ((d:Int)))
    else
     some (.go ())) c 0 ()) fun _=>
 some ((-1))
theorem tA {B:Nat→Prop} {O:Template} {P:Instance} {p t:Int} {C:List Line} {D:List Int} {E:Bool} {y:List (List Int)} (r:Int) (d:fV O P p t C D E y=some r) {j:Nat} {G:Value} {I:Value} {h:Value} {i:Value} {J:Value} {K:List Nat} (f:World) (hN:∀ c,B c→c<f.heap.size) (S0:Sep K B f f [bx j [G,I,xF p,xF t,h,i,.bool E] 126,rl 4 qS 45 h C,rl 1 xM 2 i D]) (a3:Bo B f (Pt 2 xL) G O) (a4:Bo B f (Pt 2 xO) I P) (a5:xS p) (a6:xS t) (N:Bo B f (Sl 1 (vS 1 xM)) J y):Calls Tryz.prog 133 #[vA j,J] f (Gv (fun v w'=>v=xF r∧Sep K B f w' [bx j [G,I,xF p,xF t,h,i,.bool E] 126,rl 4 qS 45 h C,rl 1 xM 2 i D]∧xS r)):=by
 unfold fV at d
 refine xW (L:=[(0,vA j),(1,J)]) func133 rfl rfl rfl (sc rfl (sc rfl sn)) (fun a F=>?_);have H:=S0;refine xX (xA 1 F rfl fun a F=>xJ (xG (xX (xA 1 F rfl fun a F=>xJ ?_))));obtain⟨S,d,Q⟩:=xV d;refine qG (fun a w=>S= .nx ()∧Sk a 19 [(0,vA j)]∧Sep K B f w [bx j [G,I,xF p,xF t,h,i,.bool E] 126,rl 4 qS 45 h C,rl 1 xM 2 i D]) ?_ ?_
 ·
  refine qM ?_;obtain⟨U,V,d⟩:=vY d;refine vT (fun g a w=>∃ (A:Nat) (n:List (List Int)),(A≤y.length∧y.drop A=n)∧n.length=g∧qW U n A ()=some S∧Sk a 19 [(5,xF (A:Int)),(0,vA j),(1,J)]∧Sep K B f w [bx j [G,I,xF p,xF t,h,i,.bool E] 126,rl 4 qS 45 h C,rl 1 xM 2 i D]) y.length ?_ ?_
  ·
   exact⟨0,y,⟨Nat.zero_le _,rfl⟩,rfl,d,F.su,H⟩
  intro g1 a w ⟨A,n,e,W,d,F,H⟩
  cases n with
  | nil=>
   replace d:=vX d;have X:=vZ e.1 e.2;have l1:=kW X;refine xG (xX (xA 2 F rfl fun a F=>oL xK F rfl rfl N fun a i1 F=>xA 1 F rfl fun a F=>xJ (aC F rfl l1 (vU ?_))));refine vV (vV (bC (xH ?_)));exact⟨(kQ d),F.su,H⟩
  | cons x2 n=>
   subst W;replace e:=qY e.2;have Y:=zI e.2.1;obtain⟨a7,d,R⟩:=vE d;rw[V] at d;have l1:=zT e.1;refine xG (xX (xA 2 F rfl fun a F=>oL xK F rfl rfl N fun a T F=>xA 1 F rfl fun a F=>xJ (aD F rfl l1 (xT ?_))));refine xH (xG ?_);have Z:=k64 (Nat.le_of_lt e.1) T;have m1:=bG e.1 T;refine qM (xX (xA 2 F rfl fun a F=>oI xK xU F rfl rfl rfl N Y fun a a8 h1 F=>olS qE F rfl rfl H.sm h1 fun a v2 h2 F=>oL xC F rfl rfl h2 fun a i3 F=>xA 1 F rfl fun a F=>xJ ?_));refine vK F rfl (fun M=>?_) (fun M=>?_)
   ·
    replace d:=zW M d;refine xX (xA 2 F rfl fun a F=>xJ (xP (zZ (qH (qH ?_)))));replace d:=bQ d R;refine zZ (qH ?_);replace d:=bR d Q;refine qH (xR F rfl (xZ F rfl) ?_);obtain rfl:=oj d;exact⟨_,rfl,rfl,H,Z⟩
   replace d:=zV M d;refine xT (zG (xH (oO (xA 1 F rfl fun a F=>kO F rfl rfl rfl m1 fun a F=>xA 1 F rfl fun a F=>xJ ?_))));replace d:=aB d R;exact⟨_,Nat.lt_succ_self _,A+1,n,⟨e.1,e.2.2⟩,rfl,d,F.su,H⟩
 rintro a w ⟨rfl,F,H⟩
 have d:=oJ Q;refine xH (xX (xA 1 F rfl fun a F=>xJ (xP (xR F rfl (xZ F rfl) ?_))));obtain rfl:=oj d;exact⟨_,rfl,rfl,H,(show xS (-1) by decide)⟩
def eF (n:Template) (p:Instance) (t y:Int) (A:List Line) (B:List Int) (C:Bool) (d:List (List Int)):Option Int:=
 kY (σ:=Int) (
  qW (σ:=Int) (ρ:=Int) (fun (f:Nat) (e:(List Int)) (c:Int)=>
   kY (σ:=Bool) (
    if (decide (1<(e.length:Int))) then  if (decide (c<0)) then  some (.nx true) else  xY (ix d c) fun h=>
      some (.nx (decide ((e.length:Int)<(h.length:Int)))) else  some (.nx false)) fun i=>
   if i then
    some (.go (f:Int))
   else
    some (.go c)) d 0 (-1)) fun j=>
 some j
theorem tI {B:Nat→Prop} {T:Template} {U:Instance} {y A:Int} {C:List Line} {D:List Int} {E:Bool} {J:List (List Int)} (r:Int) (d:eF T U y A C D E J=some r) {j:Nat} {G:Value} {I:Value} {h:Value} {i:Value} {N:Value} {O:List Nat} (f:World) (hN:∀ c,B c→c<f.heap.size) (S0:Sep O B f f [bx j [G,I,xF y,xF A,h,i,.bool E] 126,rl 4 qS 45 h C,rl 1 xM 2 i D]) (aj:Bo B f (Pt 2 xL) G T) (ak:Bo B f (Pt 2 xO) I U) (al:xS y) (am:xS A) (P:Bo B f (Sl 1 (vS 1 xM)) N J):Calls Tryz.prog 134 #[vA j,N] f (Gv (fun v w'=>v=xF r∧Sep O B f w' [bx j [G,I,xF y,xF A,h,i,.bool E] 126,rl 4 qS 45 h C,rl 1 xM 2 i D]∧xS r)):=by
 unfold eF at d
 refine xW (L:=[(0,vA j),(1,N)]) func134 rfl rfl rfl (sc rfl (sc rfl sn)) (fun a F=>?_);have H:=S0;refine xX (xA 1 F rfl fun a F=>zR (xA 1 F rfl fun a F=>xJ (xG ?_)));refine xX (xA 1 F rfl fun a F=>xJ ?_);obtain⟨W,d,a2⟩:=xV d;refine qG (fun a w=>∃ (Q:Int),W= .nx Q∧Sk a 38 [(0,vA j),(5,xF Q)]∧Sep O B f w [bx j [G,I,xF y,xF A,h,i,.bool E] 126,rl 4 qS 45 h C,rl 1 xM 2 i D]∧xS Q) ?_ ?_
 ·
  refine qM ?_;obtain⟨a3,a4,d⟩:=vY d;refine vT (fun g a w=>∃ (n:Nat) (t:List (List Int)) (p:Int),(n≤J.length∧J.drop n=t)∧t.length=g∧qW a3 t n p=some W∧Sk a 38 [(6,xF (n:Int)),(0,vA j),(1,N),(5,xF p)]∧Sep O B f w [bx j [G,I,xF y,xF A,h,i,.bool E] 126,rl 4 qS 45 h C,rl 1 xM 2 i D]∧xS p) J.length ?_ ?_
  ·
   exact⟨0,J,(-1),⟨Nat.zero_le _,rfl⟩,rfl,d,F.su,H,(show xS (-1) by decide)⟩
  intro g1 a w ⟨n,t,p,e,a5,d,F,H,X⟩
  cases t with
  | nil=>
   replace d:=vX d;have q1:=vZ e.1 e.2;have l1:=kW q1;refine xG (xX (xA 2 F rfl fun a F=>oL xK F rfl rfl P fun a i2 F=>xA 1 F rfl fun a F=>xJ (aC F rfl l1 (vU ?_))));refine vV (vV (bC (xH ?_)));exact⟨p,(kQ d),F.su,H,X⟩
  | cons Y t=>
   subst a5;replace e:=qY e.2;have Z:=zI e.2.1;obtain⟨an,d,V⟩:=vE d;rw[a4] at d;have l1:=zT e.1;refine xG (xX (xA 2 F rfl fun a F=>oL xK F rfl rfl P fun a i3 F=>xA 1 F rfl fun a F=>xJ (aD F rfl l1 (xT ?_))));refine xH (xG ?_);have j1:=k64 (Nat.le_of_lt e.1) i3;have m1:=bG e.1 i3;refine qM (xG ?_);obtain⟨o2,d,a6⟩:=xV d;refine qG (fun a w=>∃ (S:Bool),o2= .nx S∧Sk a 38 [(0,vA j),(1,N),(5,xF p),(6,xF (n:Int)),(35,.bool S)]∧Sep O B f w [bx j [G,I,xF y,xF A,h,i,.bool E] 126,rl 4 qS 45 h C,rl 1 xM 2 i D]) ?_ ?_
   ·
    refine xQa H (oM F rfl rfl fun a F=>oM F rfl rfl fun a F=>qI xK xU F rfl rfl rfl P Z fun a p1 h1 F=>qlS qE F rfl rfl H.q h1 fun a v2 h2 F=>qL xC F rfl rfl h2 fun a i4 F=>zH F rfl (fun w l=>xGc F rfl rfl) fun a F=>oM F rfl rfl (fun a F=>?_))
    rcases zC (decide (1<(Y.length:Int))) with K | K
    ·
     replace d:=zW K d;have F:=F.eb 19 rfl K;refine oM F rfl rfl fun a F=>zH F rfl (fun w l=>tP F rfl rfl) fun a F=>oM F rfl rfl (fun a F=>?_)
     rcases zC (decide (p<0)) with M | M
     ·
      replace d:=zW M d;have F:=F.eb 22 rfl M;refine oV F rfl rfl fun a F=>oV F rfl rfl fun a F=>oV F rfl rfl fun a F=>oV F rfl rfl fun a F=>oV F rfl rfl fun a F=>oV F rfl rfl fun a F=>oV F rfl rfl fun a F=>oV F rfl rfl fun a F=>oV F rfl rfl fun a F=>oV F rfl rfl fun a F=>oV F rfl rfl (fun a F=>?_);refine bH F rfl rfl rfl fun a F=>bH F rfl rfl rfl fun a F=>aF fun w H=>xH ?_;exact⟨true,(kQ d),F.su,H⟩
     replace d:=zV M d;have F:=F.eb 22 rfl M;refine oM F rfl rfl fun a F=>oM F rfl rfl fun a F=>qI xK xU F rfl rfl rfl P Z fun a p2 h3 F=>qlS qE F rfl rfl H.q h3 fun a v3 h4 F=>qL xC F rfl rfl h4 fun a i5 F=>oM F rfl rfl fun a F=>oM F rfl rfl (fun a F=>?_);obtain⟨z1,c1,d⟩:=xB d;refine qI xK xU F rfl rfl rfl P c1 fun a p3 h5 F=>qlS qE F rfl rfl H.q h5 fun a v4 h6 F=>qL xC F rfl rfl h6 fun a i6 F=>zH F rfl (fun w l=>tP F rfl rfl) fun a F=>cG F rfl rfl rfl fun a F=>bH F rfl rfl rfl fun a F=>aF fun w H=>xH ?_;exact⟨(decide ((Y.length:Int)<(z1.length:Int))),(kQ d),F.su,H⟩
    replace d:=zV K d;have F:=F.eb 19 rfl K;refine oV F rfl rfl fun a F=>oV F rfl rfl fun a F=>oV F rfl rfl fun a F=>oV F rfl rfl fun a F=>oV F rfl rfl fun a F=>oV F rfl rfl fun a F=>oV F rfl rfl fun a F=>oV F rfl rfl fun a F=>oV F rfl rfl fun a F=>oV F rfl rfl fun a F=>oV F rfl rfl (fun a F=>?_);refine oV F rfl rfl fun a F=>oV F rfl rfl fun a F=>oV F rfl rfl fun a F=>oV F rfl rfl fun a F=>cG F rfl rfl rfl fun a F=>aF fun w H=>xH ?_;exact⟨false,(kQ d),F.su,H⟩
   rintro a w ⟨S,rfl,F,H⟩
   have d:=oJ a6;refine xH (vK F rfl (fun R=>?_) (fun R=>?_))
   ·
    replace d:=zW R d;refine oO (xA 2 F rfl fun a F=>vP (zG (xH (oO (xA 1 F rfl fun a F=>kO F rfl rfl rfl m1 fun a F=>xA 1 F rfl fun a F=>vP ?_)))));refine xH ?_;replace d:=aB d V;exact⟨_,Nat.lt_succ_self _,n+1,t,(n:Int),⟨e.1,e.2.2⟩,rfl,d,F.su,H,j1⟩
   replace d:=zV R d;refine xT (zG (xH (oO (xA 1 F rfl fun a F=>kO F rfl rfl rfl m1 fun a F=>xA 1 F rfl fun a F=>xJ ?_))));replace d:=aB d V;exact⟨_,Nat.lt_succ_self _,n+1,t,p,⟨e.1,e.2.2⟩,rfl,d,F.su,H,X⟩
 rintro a w ⟨Q,rfl,F,H,i7⟩
 have d:=oJ a2;refine xH (xX (xA 2 F rfl fun a F=>xJ (xP (xR F rfl (xZ F rfl) ?_))));obtain rfl:=oj d;exact⟨_,rfl,rfl,H,i7⟩
def eZ (c:List (List Int)):Option (List (List Int)):=
 kY (σ:=(List (List Int))) (
  qW (σ:=(List (List Int))) (ρ:=(List (List Int))) (fun (j:Nat) (d:(List Int)) (e:(List (List Int)))=>
   xY (iR d) fun f=>
   xY (ap e ([f])) fun h=>
   some (.go h)) c 0 []) fun i=>
 some i
theorem rZ {B:Nat→Prop} {h:List (List Int)} (r:(List (List Int))) (d:eZ h=some r) {n:Value} (i:World) (T:∀ c,B c→c<i.heap.size) (C:Bo B i (Sl 1 (vS 1 xM)) n h):Calls Tryz.prog 103 #[n] i (Gv (fun v w'=>∃ (E:Value),v=E∧Sep [] B i w' [rl 1 (vS 1 xM) 46 E r])):=by
 unfold eZ at d
 refine xW (L:=[(0,n)]) func103 rfl rfl rfl (sc rfl sn) (fun a F=>?_);have H:=Sep.start T;refine xX (xA 1 F rfl fun a F=>zR (oR0 (R:=(vS 1 xM)) xK xU F rfl H fun a w U H F=>xA 1 F rfl fun a F=>xJ ?_));refine xG (xX (xA 1 F rfl fun a F=>xJ ?_));obtain⟨G,d,K⟩:=xV d;refine qG (fun a w=>∃ (D:List (List Int)) (p:Value),G= .nx D∧Sk a 21 [(3,p)]∧Sep [] B i w [rl 1 (vS 1 xM) 46 p D]) ?_ ?_
 ·
  refine qM ?_;obtain⟨M,N,d⟩:=vY d;refine vT (fun g a w=>∃ (j:Nat) (f t:List (List Int)) (A:Value),(j≤h.length∧h.drop j=f)∧f.length=g∧qW M f j t=some G∧Sk a 21 [(4,xF (j:Int)),(0,n),(3,A)]∧Sep [] B i w [rl 1 (vS 1 xM) 46 A t]) h.length ?_ ?_
  ·
   exact⟨0,h,[],U,⟨Nat.zero_le _,rfl⟩,rfl,d,F.su,H⟩
  intro g1 a w ⟨j,f,t,A,e,O,d,F,H⟩
  cases f with
  | nil=>
   replace d:=vX d;have V:=vZ e.1 e.2;have l1:=kW V;refine xG (xX (xA 2 F rfl fun a F=>oL xK F rfl rfl C fun a i1 F=>xA 1 F rfl fun a F=>xJ (aC F rfl l1 (vU ?_))));refine vV (vV (bC (xH ?_)));exact⟨t,A,(kQ d),F.su,H⟩
  | cons x1 f=>
   subst O;replace e:=qY e.2;have W:=zI e.2.1;obtain⟨a4,d,P⟩:=vE d;rw[N] at d;have l1:=zT e.1;refine xG (xX (xA 2 F rfl fun a F=>oL xK F rfl rfl C fun a I F=>xA 1 F rfl fun a F=>xJ (aD F rfl l1 (xT ?_))));refine xH (xG ?_);have j1:=k64 (Nat.le_of_lt e.1) I;have X:=bG e.1 I;refine qM (oO (xA 3 F rfl fun a F=>oI xK xU F rfl rfl rfl C W fun a p1 Y F=>olS qE F rfl rfl H.sm Y (fun a v4 Z F=>?_)));obtain⟨J,c1,d⟩:=xB d;refine oG F rfl call43 rfl (nD J c1 _ aA (H.a Z)) (fun a vv w ⟨v5,a5,S⟩ F=>?_);subst vv;have H:=H.r1 S n0;have H:=H.os;refine gB (R:=(vS 1 xM)) (y:=J) xK xU cC rfl rfl F rfl rfl H El.sl (fun a w v6 H F=>?_);obtain⟨z2,Q,d⟩:=xB d;refine oPL (sz:=1) (R:=(vS 1 xM)) (z:=(vH)) (bytes:=24) xK (by kernel_rfl) rfl rfl F rfl rfl rfl (H.s [1,0] rfl rfl) Q fun a w v7 H F=>xA 1 F rfl fun a F=>vP (zG (xH (oO (xA 1 F rfl fun a F=>kO F rfl rfl rfl X fun a F=>xA 1 F rfl fun a F=>xJ ?_))));replace d:=aB d P;exact⟨_,Nat.lt_succ_self _,j+1,f,z2,v7,⟨e.1,e.2.2⟩,rfl,d,F.su,H⟩
 rintro a w ⟨D,p,rfl,F,H⟩
 have d:=oJ K;refine xH (xX (xA 2 F rfl fun a F=>xJ (xP (xR F rfl (xZ F rfl) ?_))));obtain rfl:=oj d;exact⟨_,rfl,p,rfl,H⟩
def aP:Nat→Template→Instance→Int→Int→(List Line)→(List Int)→Bool→(List (List Int))→Option (Bool×Int×(List Line)×(List Int)×Bool×(List (List Int)))
  | 0,_,_,_,_,_,_,_,_=>none
  | N+1,n,p,t,H,I,J,K,T=>
  kY (σ:=(List (List Int))×Int×(List Line)×(List Int)×Bool) (
   lD (σ:=(List (List Int))×Int×(List Line)×(List Int)×Bool) (ρ:=Bool×Int×(List Line)×(List Int)×Bool×(List (List Int))) (fun(s:(List (List Int))×Int×(List Line)×(List Int)×Bool)=>
     match s with
     | (D,A,E,e,h)=>
     if (A==t) then
      some (.ret (true,A,E,e,true,D))
     else
      xY (ck (A+1)) fun i=>
      xY (bZ N n p D true) fun c=>
      kY (σ:=(List Line)) (
       qW (σ:=(List Line)) (ρ:=(Ctl ((List (List Int))×Int×(List Line)×(List Int)×Bool) (Bool×Int×(List Line)×(List Int)×Bool×(List (List Int))))) (fun (k1:Nat) (B:ArcStep) (U:(List Line))=>
        xY (ap U ([(Line.mk 2 B.var B.value B.con)])) fun V=>
        some (.go V)) c.1 0 E) fun j=>
      xY (fV n p t i j e h c.2) fun F=>
      if (decide (0≤F)) then
       xY (ap j ([(Line.mk 3 F 0 0)])) fun W=>
       some (.ret (false,i,W,e,h,c.2))
      else
       xY (eF n p t i j e h c.2) fun f=>
       if (decide (f<0)) then
        kY (σ:=(List Int)) (
         qW (σ:=(List Int)) (ρ:=(Ctl ((List (List Int))×Int×(List Line)×(List Int)×Bool) (Bool×Int×(List Line)×(List Int)×Bool×(List (List Int))))) (fun (k2:Nat) (X Y:(List Int))=>
          xY (ix X 0) fun Z=>
          xY (ap Y ([Z])) fun z8=>
          some (.go z8)) c.2 0 e) fun s9=>
        some (.ret (true,i,j,s9,h,c.2))
       else
        xY (ix c.2 f) fun G=>
        xY (ix G 0) fun y=>
        xY (ap j ([(Line.mk 1 f y 0)])) fun L=>
        xY (eZ c.2) fun C=>
        xY (ix C f) fun a2=>
        xY (aP N n p t i L e h (C.set (f).toNat ([y]))) fun d=>
        if d.1 then
         some (.ret (true,d.2.1,d.2.2.1,d.2.2.2.1,d.2.2.2.2.1,c.2))
        else
         xY (aE G y) fun M=>
         some (.go ((c.2.set (f).toNat M),d.2.1,d.2.2.1,d.2.2.2.1,d.2.2.2.2.1))) N (T,H,I,J,K)) fun(O,P,Q,R,S)=>
  some (false,P,Q,R,S,O)
theorem rW:∀ (N:Nat) {B:Nat→Prop} {am:Template} {an:Instance} {i a4:Int} {ad:List Line} {ae:List Int} {af:Bool} {x1:List (List Int)} (r:Bool×Int×(List Line)×(List Int)×Bool×(List (List Int))) (d:aP N am an i a4 ad ae af x1=some r) {f:Nat} {n:Value} {p:Value} {ao:Value} {aq:Value} {j:Value} {W:List Nat} (E:World) (hN:∀ c,B c→c<E.heap.size) (S0:Sep W B E E [bx f [n,p,xF i,xF a4,ao,aq,.bool af] 126,rl 4 qS 45 ao ad,rl 1 xM 2 aq ae,rw N0 1 (vS 1 xM) 46 j x1]) (ab:Bo B E (Pt 2 xL) n am) (ac:Bo B E (Pt 2 xO) p an) (al:xS i) (br:xS a4),Calls Tryz.prog 95 #[vA f,j] E (Gv (fun v w'=>∃ (bt bu:Value),v= .bool r.1∧Sep W B E w' [bx f [n,p,xF i,xF r.2.1,bt,bu,.bool r.2.2.2.2.1] 126,rl 4 qS 45 bt r.2.2.1,rl 1 xM 2 bu r.2.2.2.1,rw N0 1 (vS 1 xM) 46 j r.2.2.2.2.2]∧xS r.2.1)):=by
  intro N
  induction N with
  | zero=>intro B am an i a4 ad ae af x1 r d;unfold aP at d;cases d
  | succ N ih=>
  intro B am an i a4 ad ae af x1 r d f n p ao aq j W E hN S0 ab ac al br;rw[aP] at d;refine xW (L:=[(0,vA f),(1,j)]) func95 rfl rfl rfl (sc rfl (sc rfl sn)) (fun a F=>?_);have H:=S0;refine xX (xA 1 F rfl fun a F=>xJ ?_);obtain⟨o1,d,ag⟩:=xV d;refine qG (fun a w=>∃ (s1:List (List Int)) (s2:Int) (s3:List Line) (v2:Value) (s4:List Int) (v3:Value) (s5:Bool),o1= .nx (s1,s2,s3,s4,s5)∧Sk a 151 [(0,vA f),(1,j),(4,.bool false)]∧Sep W B E w [bx f [n,p,xF i,xF s2,v2,v3,.bool s5] 126,rl 4 qS 45 v2 s3,rl 1 xM 2 v3 s4,rw N0 1 (vS 1 xM) 46 j s1]∧xS s2) ?_ ?_
  ·
   refine qM ?_;obtain⟨ci,cj,d⟩:=iO d;refine vT (fun g a w=>∃ (s6:List (List Int)) (s7:Int) (s8:List Line) (X:Value) (D:List Int) (h:Value) (C:Bool),lD ci g (s6,s7,s8,D,C)=some o1∧Sk a 151 [(0,vA f),(1,j)]∧Sep W B E w [bx f [n,p,xF i,xF s7,X,h,.bool C] 126,rl 4 qS 45 X s8,rl 1 xM 2 h D,rw N0 1 (vS 1 xM) 46 j s6]∧xS s7) N ?_ ?_
   ·
    exact⟨x1,a4,ad,ao,ae,aq,af,d,F.su,H,br⟩
   intro g1 a w ⟨s6,s7,s8,X,D,h,C,d,F,H,i1⟩;obtain⟨f5,t1,f6,d,ah⟩:=dW d;rw[cj] at d;refine qM (xG (xG (xQa H (oM F rfl rfl fun a F=>eC F rfl rfl fun a F=>zH F rfl (fun w l=>oD xGl F rfl rfl) fun a F=>qB xN F rfl rfl (H.qb 0 rfl) rfl fun a F=>oM F rfl rfl fun a F=>eC F rfl rfl fun a F=>zH F rfl (fun w l=>oD xRm F rfl rfl) (fun a F=>?_)))));refine qB xN F rfl rfl (H.qb 0 rfl) rfl fun a F=>zH F rfl (fun w l=>xBe F rfl rfl) fun a F=>aF fun w H=>xH (vK F rfl (fun b6=>?_) (fun b6=>?_))
   ·
    replace d:=zW b6 d;refine xX (xA 1 F rfl fun a F=>zB F rfl rfl fun a F=>oQ xLm F rfl rfl rfl fun a F=>oW sizeOf4 F rfl rfl rfl H rfl rfl rfl fun w H=>zR (xA 1 F rfl fun a F=>?_));refine xJ (xP (qH (zZ (qH ?_))));replace d:=bQ d ah;refine zZ (qH ?_);replace d:=bR d ag;refine xR F rfl (xZ F rfl) ?_;obtain rfl:=oj d;exact⟨_,rfl,X,h,rfl,H,i1⟩
   replace d:=zV b6 d;refine xT (xH (xX (xA 1 F rfl fun a F=>zB F rfl rfl fun a F=>oQ xGl F rfl rfl rfl fun a F=>oB xN F rfl rfl (H.b 0 rfl) rfl (fun a F=>?_))));obtain⟨I,c1,d⟩:=xB d;refine fF F rfl rfl rfl c1 fun a F=>zB F rfl rfl fun a F=>oQ xGl F rfl rfl rfl fun a F=>oW xI F rfl rfl rfl H rfl rfl rfl fun w H=>xJ (xG ?_);obtain⟨A,c2,d⟩:=xB d;obtain⟨w1,rfl⟩:∃ x,x=w:=⟨_,rfl⟩;have f7:=H.sm;obtain⟨X1,N1,g2,e1,H,cl,f8⟩:=H.fza;have K1:=g2.bk;refine lU H fun w H=>qV 0 rfl (qO F rfl rfl fun a F=>qJ 1 rfl (kK F rfl rfl fun a F=>qJ 2 rfl (qT F rfl (fun w l=>oD xSk F rfl rfl) fun a F=>qJ 3 rfl (vB isAgg62 F rfl rfl (K1.v H.sm) rfl fun a F=>qV 4 rfl (qO F rfl rfl (fun a F=>?_))))));refine qJ 5 rfl (kK F rfl rfl fun a F=>qJ 6 rfl (qT F rfl (fun w l=>oD xSd F rfl rfl) fun a F=>qJ 7 rfl (vB isAgg63 F rfl rfl (K1.v H.sm) rfl fun a F=>qV 8 rfl (qO F rfl rfl fun a F=>kT H 9 rfl ?_))));obtain⟨X2,K2,cm⟩:=Sep.lend (K:=[rw N0 1 (vS 1 xM) 46 j s6]) (L:=[rl 4 qS 45 X s8,rl 1 xM 2 h D]) (H.s [2,0,1] rfl rfl);refine oG F rfl call132 rfl (wA A c2 _ H.hN K2 (H.u (e1 ab)) (H.u (e1 ac))) (fun a J w ⟨v6,f9,S⟩ F=>?_);subst J;have H:Sep X1 N1 w1 w [rl 3 qR 166 v6 A.1,rw N0 1 (vS 1 xM) 46 j A.2,rl 4 qS 45 X s8,rl 1 xM 2 h D]:=cm S;refine xJ ⟨⟨_,H⟩,?_⟩;refine qV 10 rfl (kA F rfl rfl fun a F=>zN (xH (xG (xX (xA 1 F rfl fun a F=>xJ ?_)))));have H:=(cl.1 H (Ns.all ⟨n0,⟨n0,⟨n0,⟨n0,trivial⟩⟩⟩⟩));obtain⟨o2,d,cn⟩:=xV d;refine qG (fun a w=>∃ (M:List Line) (t:Value),o2= .nx M∧Sk a 151 [(0,vA f),(1,j)]∧Sep W B E w [bx f [n,p,xF i,xF I,t,h,.bool C] 126,rw N0 1 (vS 1 xM) 46 j A.2,rl 4 qS 45 t M,rl 1 xM 2 h D]) ?_ ?_
   ·
    refine qM ?_;obtain⟨co,cp,d⟩:=vY d;refine vT (fun g a w=>∃ (Y:Nat) (Z:List ArcStep) (ai:List Line) (v8:Value),(Y≤A.1.length∧A.1.drop Y=Z)∧Z.length=g∧qW co Z Y ai=some o2∧Sk a 151 [(6,xF (Y:Int)),(0,vA f),(1,j),(5,v6)]∧Sep W B E w [bx f [n,p,xF i,xF I,v8,h,.bool C] 126,rl 3 qR 166 v6 A.1,rw N0 1 (vS 1 xM) 46 j A.2,rl 4 qS 45 v8 ai,rl 1 xM 2 h D]) A.1.length ?_ ?_
    ·
     exact⟨0,A.1,s8,X,⟨Nat.zero_le _,rfl⟩,rfl,d,F.su,H⟩
    intro g3 a w ⟨Y,Z,ai,v8,O,cq,d,F,H⟩
    cases Z with
    | nil=>
     replace d:=vX d;have q1:=vZ O.1 O.2;have l1:=kW q1;refine xG (xX (xA 2 F rfl fun a F=>oL bP F rfl rfl (H.l 1 rfl) fun a i2 F=>xA 1 F rfl fun a F=>xJ (aC F rfl l1 (vU ?_))));refine vV (vV (bC (xH ?_)));exact⟨ai,v8,(kQ d),F.su,(H.s [0,2,3,4] rfl rfl)⟩
    | cons T Z=>
     subst cq;replace O:=qY O.2;have y1:=zI O.2.1;obtain⟨fa,d,cr⟩:=vE d;rw[cp] at d;have l1:=zT O.1;refine xG (xX (xA 2 F rfl fun a F=>oL bP F rfl rfl (H.l 1 rfl) fun a i3 F=>xA 1 F rfl fun a F=>xJ (aD F rfl l1 (xT ?_))));refine xH (xG ?_);have j1:=k64 (Nat.le_of_lt O.1) i3;have m1:=bG O.1 i3;refine qM ?_;obtain⟨z3,c3,d⟩:=xB d;obtain⟨w2,rfl⟩:∃ x,x=w:=⟨_,rfl⟩;have fb:=H.sm;obtain⟨X3,N2,g4,e2,H,cs,fc⟩:=(H.s [1,0,2,3,4] rfl rfl).fza;have h1:=g4.ld;refine lU H fun w H=>dp (fun G=>∀ (v9:Value) (a:Act) (w:World),Sk a 151 [(0,vA f),(1,j),(5,v6),(6,xF (Y:Int)),(47,vA f),(51,v8),(68,v9)]→Sep X3 N2 w2 w [rl 4 qS 45 v9 ([(Line.mk 2 T.var T.value T.con)]),bx f [n,p,xF i,xF I,v8,h,.bool C] 126,rw N0 1 (vS 1 xM) 46 j A.2,rl 4 qS 45 v8 ai,rl 1 xM 2 h D]→∀ ls,ls = #[true,true,true,true,true,true,true,true,true,true,true,true,true,true,true,true,true,true,true,true,true,true,false,false,false,false]→G 4 ls a w) ?_ (fun H1=>?_)
     ·
      intro v9 a w F H ls b7;subst b7;refine kT H 22 rfl (oPL (sz:=4) (R:=qS) (z:=(.agg #[xF 0,xF 0,xF 0,xF 0])) (bytes:=32) qD (by kernel_rfl) rfl rfl F rfl rfl rfl (H.s [3,0,1,2,4] rfl rfl) c3 fun a w ct H F=>xJ ⟨⟨_,H⟩,?_⟩);refine qJ 23 rfl (kK F rfl rfl fun a F=>qJ 24 rfl (qT F rfl (fun w l=>oD rD F rfl rfl) fun a F=>kT H 25 rfl (oW sizeOf32 F rfl rfl rfl (H.s [1,0,2,3] rfl rfl) ((H.s [1,0,2,3] rfl rfl).l 1 rfl).one rfl rfl fun w H=>xJ ⟨⟨_,H⟩,?_⟩)));refine zN (zG (xH (oO (xA 1 F rfl fun a F=>kO F rfl rfl rfl m1 fun a F=>xA 1 F rfl fun a F=>xJ ?_))));replace d:=aB d cr;exact⟨_,Nat.lt_succ_self _,Y+1,Z,z3,ct,⟨O.1,O.2.2⟩,rfl,d,F.su,((cs.1 H (Ns.all ⟨n0,⟨n0,⟨n0,⟨n0,trivial⟩⟩⟩⟩)).s [1,0,3,2,4] rfl rfl)⟩
     refine qV 0 rfl (qO F rfl rfl fun a F=>qV 1 rfl (qO F rfl rfl fun a F=>qJ 2 rfl (kK F rfl rfl fun a F=>qJ 3 rfl (qT F rfl (fun w l=>oD rD F rfl rfl) fun a F=>qV 5 rfl (qO F rfl rfl fun a F=>qV 6 rfl ?_)))));refine qO F rfl rfl fun a F=>qJ 7 rfl (vI bP lL F rfl rfl rfl h1 y1 fun a p1 h2 F=>qJ 8 rfl (vF (s':=1) sX F rfl rfl h2 qR.f0 fun a p2 h3 F=>qJ 9 rfl (vlI xN F rfl rfl H.v h3 fun a i4 F=>qV 10 rfl (qO F rfl rfl fun a F=>qV 11 rfl (qO F rfl rfl (fun a F=>?_))))));refine qJ 12 rfl (vI bP lL F rfl rfl rfl h1 y1 fun a p3 h4 F=>qJ 13 rfl (vF (s':=1) yX F rfl rfl h4 qR.f1 fun a p4 h5 F=>qJ 14 rfl (vlI xN F rfl rfl H.v h5 fun a i5 F=>qV 15 rfl (qO F rfl rfl fun a F=>qV 16 rfl (qO F rfl rfl fun a F=>qJ 17 rfl ?_)))));refine vI bP lL F rfl rfl rfl h1 y1 fun a p5 h6 F=>qJ 18 rfl (vF (s':=1) yV F rfl rfl h6 qR.f2 fun a p6 h7 F=>qJ 19 rfl (vlI xN F rfl rfl H.v h7 fun a i6 F=>qJ 20 rfl (qT F rfl (fun w l=>pF fB kC (fun w=>by simp [xI];rfl) F rfl rfl rfl rfl (oc rfl (oc rfl (oc rfl (oc rfl on)))) rfl rfl) fun a F=>aT [4,21] (by kernel_rfl) (by simp) ⟨⟨_,rfl,?_⟩,⟨_,rfl,?_⟩,trivial⟩)))
     ·
      refine aM H (oB pH F rfl rfl (H.b 0 rfl) rfl fun a F=>xJ ⟨⟨_,H⟩,?_⟩);refine kT H 21 rfl (iN (R:=qS) (y:=(Line.mk 2 T.var T.value T.con)) qD vD kC rfl rfl F rfl rfl H (Eo.agg (qS.m (show xS (2) by decide) i4 i5 i6)) fun a w cu H F=>xJ ⟨⟨_,H⟩,?_⟩);exact H1 cu _ _ (F.su) H _ (by kernel_rfl)
     refine aM H (iN (R:=qS) (y:=(Line.mk 2 T.var T.value T.con)) qD vD kC rfl rfl F rfl rfl H (Eo.agg (qS.m (show xS (2) by decide) i4 i5 i6)) fun a w cx H F=>xJ ⟨⟨_,H⟩,?_⟩);refine kT H 4 rfl (oB pH F rfl rfl (H.b 1 rfl) rfl fun a F=>xJ ⟨⟨_,H⟩,?_⟩);exact H1 cx _ _ (F.su) H _ (by kernel_rfl)
   rintro a w ⟨M,t,rfl,F,H⟩
   have d:=oJ cn;refine xH (xG (xX (xA 2 F rfl fun a F=>?_)));obtain⟨w3,rfl⟩:∃ x,x=w:=⟨_,rfl⟩;have fd:=H.sm;obtain⟨X4,N3,g5,e3,H,ar,fe⟩:=(H.s [1,0,2,3] rfl rfl).fza;have U:=g5.rd;obtain⟨z4,c4,d⟩:=xB d;obtain⟨X5,K3,cy⟩:=Sep.lend (K:=[bx f [n,p,xF i,xF I,t,h,.bool C] 126,rl 4 qS 45 t M,rl 1 xM 2 h D]) (L:=[]) H;refine oG F rfl call133 rfl (tA z4 c4 _ H.hN K3 (H.u (e3 ab)) (H.u (e3 ac)) al (bD c1) (H.u U)) (fun a J w ⟨ff,S,i7⟩ F=>?_);subst J;have H:Sep X4 N3 w3 w [bx f [n,p,xF i,xF I,t,h,.bool C] 126,rl 4 qS 45 t M,rl 1 xM 2 h D]:=cy S;refine xA 1 F rfl fun a F=>zR (xA 2 F rfl fun a F=>xJ (vK F rfl (fun b8=>?_) (fun b8=>?_)))
   ·
    replace d:=zW b8 d;refine xX (xA 2 F rfl fun a F=>zB F rfl rfl fun a F=>oQ rD F rfl rfl rfl fun a F=>oB pH F rfl rfl (H.b 0 rfl) rfl fun a F=>xA 1 F rfl fun a F=>aX fB kC (fun w=>by simp [xI];rfl) F rfl rfl rfl rfl rfl (oc rfl (oc rfl on)) rfl rfl fun a F=>iN (R:=qS) (y:=(Line.mk 3 z4 0 0)) qD vD kC rfl rfl F rfl rfl H (Eo.agg (qS.m (show xS (3) by decide) i7 (show xS 0 by decide) (show xS 0 by decide))) (fun a w fg H F=>?_));obtain⟨z5,c5,d⟩:=xB d;refine oPL (sz:=4) (R:=qS) (z:=(.agg #[xF 0,xF 0,xF 0,xF 0])) (bytes:=32) qD (by kernel_rfl) rfl rfl F rfl rfl rfl (H.s [2,0,1,3] rfl rfl) c5 fun a w cz H F=>zB F rfl rfl fun a F=>oQ rD F rfl rfl rfl fun a F=>oW sizeOf32 F rfl rfl rfl (H.s [1,0,2] rfl rfl) ((H.s [1,0,2] rfl rfl).l 1 rfl).one rfl rfl fun w H=>zR (xA 1 F rfl fun a F=>xJ ?_);refine xP (qH (zZ (qH ?_)));replace d:=bQ d ah;refine zZ (qH ?_);replace d:=bR d ag;have H:=(ar.1 H (Ns.all ⟨n0,⟨n0,⟨n0,trivial⟩⟩⟩));refine xR F rfl (xZ F rfl) ?_;obtain rfl:=oj d;exact⟨_,rfl,cz,h,rfl,(H.s [1,2,3,0] rfl rfl),(bD c1)⟩
   replace d:=zV b8 d;refine xT (xH (xX (xA 2 F rfl fun a F=>?_)));obtain⟨z6,c6,d⟩:=xB d;obtain⟨X6,K4,d0⟩:=Sep.lend (K:=[bx f [n,p,xF i,xF I,t,h,.bool C] 126,rl 4 qS 45 t M,rl 1 xM 2 h D]) (L:=[]) H;refine oG F rfl call134 rfl (tI z6 c6 _ H.hN K4 (H.u (e3 ab)) (H.u (e3 ac)) al (bD c1) (H.u U)) (fun a J w ⟨fh,S,i8⟩ F=>?_);subst J;have H:Sep X4 N3 w3 w [bx f [n,p,xF i,xF I,t,h,.bool C] 126,rl 4 qS 45 t M,rl 1 xM 2 h D]:=d0 S;refine xA 1 F rfl fun a F=>xJ (xG (xX (xA 2 F rfl fun a F=>xJ (vK F rfl (fun b9=>?_) (fun b9=>?_)))))
   ·
    replace d:=zW b9 d;refine xG (xX (xA 1 F rfl fun a F=>xJ ?_));obtain⟨o3,d,d1⟩:=xV d;refine qG (fun a w=>∃ (ba:List Int) (au:Value),o3= .nx ba∧Sk a 151 [(0,vA f),(1,j)]∧Sep X4 N3 w3 w [bx f [n,p,xF i,xF I,t,au,.bool C] 126,rl 4 qS 45 t M,rl 1 xM 2 au ba]) ?_ ?_
    ·
     refine qM ?_;obtain⟨d2,d3,d⟩:=vY d;refine vT (fun g a w=>∃ (k2:Nat) (t3:List (List Int)) (aj:List Int) (V:Value),(k2≤A.2.length∧A.2.drop k2=t3)∧t3.length=g∧qW d2 t3 k2 aj=some o3∧Sk a 151 [(9,xF (k2:Int)),(0,vA f),(1,j)]∧Sep X4 N3 w3 w [bx f [n,p,xF i,xF I,t,V,.bool C] 126,rl 4 qS 45 t M,rl 1 xM 2 V aj]) A.2.length ?_ ?_
     ·
      exact⟨0,A.2,D,h,⟨Nat.zero_le _,rfl⟩,rfl,d,F.su,H⟩
     intro g6 a w ⟨k2,t3,aj,V,P,d4,d,F,H⟩
     cases t3 with
     | nil=>
      replace d:=vX d;have q2:=vZ P.1 P.2;have l2:=kW q2;refine xG (xX (xA 2 F rfl fun a F=>oL xK F rfl rfl U fun a i9 F=>xA 1 F rfl fun a F=>xJ (aC F rfl l2 (vU ?_))));refine vV (vV (bC (xH ?_)));exact⟨aj,V,(kQ d),F.su,H⟩
     | cons x3 t3=>
      subst d4;replace P:=qY P.2;have y2:=zI P.2.1;obtain⟨fi,d,d5⟩:=vE d;rw[d3] at d;have l2:=zT P.1;refine xG (xX (xA 2 F rfl fun a F=>oL xK F rfl rfl U fun a bv F=>xA 1 F rfl fun a F=>xJ (aD F rfl l2 (xT ?_))));refine xH (xG ?_);have j2:=k64 (Nat.le_of_lt P.1) bv;have m2:=bG P.1 bv;refine qM ?_;obtain⟨z7,c7,d⟩:=xB d;obtain⟨z8,c8,d⟩:=xB d;refine lU H fun w H=>dp (fun G=>∀ (bb:Value) (a:Act) (w:World),Sk a 151 [(0,vA f),(1,j),(9,xF (k2:Int)),(99,vA f),(103,V),(110,bb)]→Sep X4 N3 w3 w [rl 1 xM 2 bb ([z7]),bx f [n,p,xF i,xF I,t,V,.bool C] 126,rl 4 qS 45 t M,rl 1 xM 2 V aj]→∀ ls,ls = #[true,true,true,true,true,true,true,true,true,true,true,true,false,false,false,false]→G 4 ls a w) ?_ (fun H2=>?_)
      ·
       intro bb a w F H ls b7;subst b7;refine kT H 12 rfl (oPL (sz:=1) (R:=xM) (z:=(xF 0)) (bytes:=8) xC (by kernel_rfl) rfl rfl F rfl rfl rfl (H.s [3,0,1,2] rfl rfl) c8 fun a w d6 H F=>xJ ⟨⟨_,H⟩,?_⟩);refine qJ 13 rfl (kK F rfl rfl fun a F=>qJ 14 rfl (qT F rfl (fun w l=>oD xLk F rfl rfl) fun a F=>kT H 15 rfl (oW xU F rfl rfl rfl (H.s [1,0,2] rfl rfl) ((H.s [1,0,2] rfl rfl).l 1 rfl).one rfl rfl fun w H=>xJ ⟨⟨_,H⟩,?_⟩)));refine zN (zG (xH (oO (xA 1 F rfl fun a F=>kO F rfl rfl rfl m2 fun a F=>xA 1 F rfl fun a F=>xJ ?_))));replace d:=aB d d5;exact⟨_,Nat.lt_succ_self _,k2+1,t3,z8,d6,⟨P.1,P.2.2⟩,rfl,d,F.su,(H.s [0,2,1] rfl rfl)⟩
      refine qV 0 rfl (qO F rfl rfl fun a F=>qV 1 rfl (qO F rfl rfl fun a F=>qJ 2 rfl (kK F rfl rfl fun a F=>qJ 3 rfl (qT F rfl (fun w l=>oD xLk F rfl rfl) fun a F=>qV 5 rfl (qO F rfl rfl fun a F=>qV 6 rfl ?_)))));refine qO F rfl rfl fun a F=>qJ 7 rfl (vI xK xU F rfl rfl rfl U y2 fun a p7 h9 F=>qJ 8 rfl (vlS qE F rfl rfl H.v h9 fun a fj d7 F=>qJ 9 rfl (vI xC xI F rfl rfl rfl d7 c7 fun a p8 d8 F=>qJ 10 rfl (vlI xN F rfl rfl H.v d8 fun a c0 F=>aT [4,11] (by kernel_rfl) (by simp) ⟨⟨_,rfl,?_⟩,⟨_,rfl,?_⟩,trivial⟩))))
      ·
       refine aM H (oB qE F rfl rfl (H.b 0 rfl) rfl fun a F=>xJ ⟨⟨_,H⟩,?_⟩);refine kT H 11 rfl (iN (R:=xM) (y:=z7) xC xI qQ rfl rfl F rfl rfl H (Eo.int c0) fun a w d9 H F=>xJ ⟨⟨_,H⟩,?_⟩);exact H2 d9 _ _ (F.su) H _ (by kernel_rfl)
      refine aM H (iN (R:=xM) (y:=z7) xC xI qQ rfl rfl F rfl rfl H (Eo.int c0) fun a w da H F=>xJ ⟨⟨_,H⟩,?_⟩);refine kT H 4 rfl (oB qE F rfl rfl (H.b 1 rfl) rfl fun a F=>xJ ⟨⟨_,H⟩,?_⟩);exact H2 da _ _ (F.su) H _ (by kernel_rfl)
    rintro a w ⟨ba,au,rfl,F,H⟩
    have d:=oJ d1;refine xH (xX (xA 1 F rfl fun a F=>xJ (xP (qH (zZ (qH ?_))))));replace d:=bQ d ah;refine zZ (qH ?_);replace d:=bR d ag;have H:=(ar.1 H (Ns.all ⟨n0,⟨n0,⟨n0,trivial⟩⟩⟩));refine xR F rfl (xZ F rfl) ?_;obtain rfl:=oj d;exact⟨_,rfl,t,au,rfl,(H.s [1,2,3,0] rfl rfl),(bD c1)⟩
   replace d:=zV b9 d;refine xT (xH (xX (xA 2 F rfl fun a F=>?_)));obtain⟨z9,c9,d⟩:=xB d;refine oI xK xU F rfl rfl rfl U c9 fun a p9 db F=>olS qE F rfl rfl H.sm db (fun a fk dc F=>?_);obtain⟨bc,dd,d⟩:=xB d;refine oI xC xI F rfl rfl rfl dc dd fun a fl de F=>olI xN F rfl rfl H.sm de fun a be F=>xA 1 F rfl fun a F=>zR (xA 2 F rfl fun a F=>zB F rfl rfl fun a F=>oQ rD F rfl rfl rfl (fun a F=>?_));refine oB pH F rfl rfl (H.b 0 rfl) rfl fun a F=>xA 2 F rfl fun a F=>aX fB kC (fun w=>by simp [xI];rfl) F rfl rfl rfl rfl rfl (oc rfl (oc rfl (oc rfl on))) rfl rfl fun a F=>iN (R:=qS) (y:=(Line.mk 1 z6 bc 0)) qD vD kC rfl rfl F rfl rfl H (Eo.agg (qS.m (show xS (1) by decide) i8 be (show xS 0 by decide))) (fun a w fm H F=>?_);obtain⟨df,dg,d⟩:=xB d;refine oPL (sz:=4) (R:=qS) (z:=(.agg #[xF 0,xF 0,xF 0,xF 0])) (bytes:=32) qD (by kernel_rfl) rfl rfl F rfl rfl rfl (H.s [2,0,1,3] rfl rfl) dg fun a w v24 H F=>zB F rfl rfl fun a F=>oQ rD F rfl rfl rfl fun a F=>oW sizeOf32 F rfl rfl rfl (H.s [1,0,2] rfl rfl) ((H.s [1,0,2] rfl rfl).l 1 rfl).one rfl rfl fun w H=>zR (xA 1 F rfl fun a F=>?_);obtain⟨z12,dh,d⟩:=xB d;refine oG F rfl call103 rfl (rZ z12 dh _ aA (H.a U)) (fun a J w ⟨v25,fn,S⟩ F=>?_);subst J;have H:=H.r1 S n0;refine xA 1 F rfl fun a F=>zR (xA 3 F rfl fun a F=>iN (R:=xM) (y:=bc) xC xI qQ rfl rfl F rfl rfl H (Eo.int be) (fun a w fo H F=>?_));obtain⟨fp,c13,d⟩:=xB d;refine oRl xK xU F rfl rfl rfl H 1 rfl c13 (fun a fq fs di F=>?_);have H:=(H.s [1,0,2,3,4] rfl rfl).lw;refine oSc xU F rfl rfl rfl H di (gX c13) n0 (fun e q=>(Eo.sl q.ld)) (H.l 1 rfl).one rfl fun w H=>xJ (xG (xX (xA 2 F rfl fun a F=>?_)));obtain⟨Q,dj,d⟩:=xB d;obtain⟨X7,K5,dk⟩:=Sep.lend (K:=[bx f [n,p,xF i,xF I,v24,h,.bool C] 126,rl 4 qS 45 v24 df,rl 1 xM 2 h D,rw N0 1 (vS 1 xM) 46 v25 (z12.set (z6).toNat ([bc]))]) (L:=[]) (H.s [1,2,3,0] rfl rfl);refine oG F rfl call95 rfl (ih Q dj _ H.hN K5 (H.u (e3 ab)) (H.u (e3 ac)) al (bD c1)) (fun a J w ⟨aw,ax,ft,S,i13⟩ F=>?_);subst J;have H:Sep X4 N3 w3 w [bx f [n,p,xF i,xF Q.2.1,aw,ax,.bool Q.2.2.2.2.1] 126,rl 4 qS 45 aw Q.2.2.1,rl 1 xM 2 ax Q.2.2.2.1,rw N0 1 (vS 1 xM) 46 v25 Q.2.2.2.2.2]:=dk S;refine xJ (vK F rfl (fun bf=>?_) (fun bf=>?_))
   ·
    replace d:=zW bf d;refine xX (xA 1 F rfl fun a F=>xJ (xP (qH (zZ (qH ?_)))));replace d:=bQ d ah;refine zZ (qH ?_);replace d:=bR d ag;have H:=(ar.1 H (Ns.all ⟨n0,⟨n0,⟨n0,⟨n0,trivial⟩⟩⟩⟩));refine xR F rfl (xZ F rfl) ?_;obtain rfl:=oj d;exact⟨_,rfl,aw,ax,rfl,(H.s [1,2,3,0] rfl rfl),i13⟩
   replace d:=zV bf d;refine xT (xH (oO (xA 4 F rfl fun a F=>oI xK xU F rfl rfl rfl U c9 fun a fu dl F=>olS qE F rfl rfl H.sm dl fun a fv dm F=>xA 1 F rfl fun a F=>?_)));obtain⟨z15,dq,d⟩:=xB d;refine oG F rfl jO rfl (bF z15 dq _ aA (H.a dm) be) (fun a J w ⟨fw,fy,S⟩ F=>?_);subst J;have H:=H.r1 S n0;have H:=(ar.1 H (Ns.all ⟨n0,⟨n0,⟨n0,⟨n0,⟨n0,trivial⟩⟩⟩⟩⟩));refine oRi xK xU F rfl rfl rfl H 0 rfl c9 fun a g0 h18 dr F=>oSc xU F rfl rfl rfl H dr (gX c9) n0 (fun e q=>(Eo.sl q.ld)) (H.l 1 rfl).one rfl fun w H=>vP (zG (xH ?_));replace d:=aB d ah;exact⟨t1,(by omega),(A.2.set (z6).toNat z15),Q.2.1,Q.2.2.1,aw,Q.2.2.2.1,ax,Q.2.2.2.2.1,d,F.su,(H.s [1,2,3,0] rfl rfl),i13⟩
  rintro a w ⟨s1,s2,s3,v2,s4,v3,s5,rfl,F,H,ds⟩
  have d:=oJ ag;refine xUo (xR F rfl (xZ F rfl) ?_);obtain rfl:=oj d;exact⟨_,rfl,v2,v3,rfl,H,ds⟩
theorem sW {B:Nat→Prop} {N:Nat} {p:Template} {t:Instance} {e f:Int} {y:List Line} {A:List Int} {C:Bool} {H:List (List Int)} (r:Bool×Int×(List Line)×(List Int)×Bool×(List (List Int))) (O:aP N p t e f y A C H=some r) {j:Nat} {h:Value} {i:Value} {D:Value} {E:Value} {n:Value} {I:List Nat} (d:World) (P:∀ c,B c→c<d.heap.size) (S0:Sep I B d d [bx j [h,i,xF e,xF f,D,E,.bool C] 126,rl 4 qS 45 D y,rl 1 xM 2 E A,rw N0 1 (vS 1 xM) 46 n H]) (J:Bo B d (Pt 2 xL) h p) (K:Bo B d (Pt 2 xO) i t) (L:xS e) (M:xS f):Calls Tryz.prog 95 #[vA j,n] d (Gv (fun v w'=>∃ (F G:Value),v= .bool r.1∧Sep I B d w' [bx j [h,i,xF e,xF r.2.1,F,G,.bool r.2.2.2.2.1] 126,rl 4 qS 45 F r.2.2.1,rl 1 xM 2 G r.2.2.2.1,rw N0 1 (vS 1 xM) 46 n r.2.2.2.2.2]∧xS r.2.1)):=
  rW N r O d P S0 J K L M
def nJ (N:Nat) (d:Template) (e:Instance) (h:List (List Int)) (f:Int):Option ((Template×Instance×Int×Int×(List Line)×(List Int)×Bool)×Int×(List (List Int))):=
 xY (aP N d e f 0 ([]) ([]) false h) fun c=>
 if c.2.2.2.2.1 then
  some ((d,e,f,c.2.1,c.2.2.1,c.2.2.2.1,c.2.2.2.2.1),7,c.2.2.2.2.2)
 else
  if c.1 then
   some ((d,e,f,c.2.1,c.2.2.1,c.2.2.2.1,c.2.2.2.2.1),0,c.2.2.2.2.2)
  else
   some ((d,e,f,c.2.1,c.2.2.1,c.2.2.2.1,c.2.2.2.2.1),6,c.2.2.2.2.2)
theorem xEx {B:Nat→Prop} {N:Nat} {U:Template} {V:Instance} {I:List (List Int)} {i:Int} (r:(Template×Instance×Int×Int×(List Line)×(List Int)×Bool)×Int×(List (List Int))) (d:nJ N U V I i=some r) {f:Value} {h:Value} {j:Value} {J:List Nat} (e:World) (hN:∀ c,B c→c<e.heap.size) (S0:Sep J B e e [rw N0 1 (vS 1 xM) 46 j I]) (p:Bo B e (Pt 2 xL) f U) (t:Bo B e (Pt 2 xO) h V) (D:xS i):Calls Tryz.prog 61 #[f,h,j,xF i] e (Gv (fun v w'=>∃ (O:Nat) (P Q R T:Value),v= .tuple #[vA O,xF r.2.1]∧Sep J B e w' [bx O [P,Q,xF r.1.2.2.1,xF r.1.2.2.2.1,R,T,.bool r.1.2.2.2.2.2.2] 126,rl 4 qS 45 R r.1.2.2.2.2.1,rl 1 xM 2 T r.1.2.2.2.2.2.1,rw N0 1 (vS 1 xM) 46 j r.2.2]∧Bo B e (Pt 2 xL) P r.1.1∧Bo B e (Pt 2 xO) Q r.1.2.1∧xS r.1.2.2.1∧xS r.1.2.2.2.1∧xS r.2.1)):=by
 unfold nJ at d
 refine xW (L:=[(0,f),(1,h),(2,j),(3,xF i)]) func61 rfl rfl rfl (sc rfl (sc rfl (sc rfl (sc rfl sn)))) (fun a F=>?_);have H:=S0;refine xX (xA 2 F rfl fun a F=>zR (xA 3 F rfl fun a F=>?_));refine aX underlying126 zeroValue126 (fun w=>by simp [xI,sizeOf32,sizeOf4,xU,sizeOf62,sizeOf63];rfl) F rfl rfl rfl rfl rfl (oc (H.a p).pone (oc (H.a t).pone (oc rfl on))) rfl rfl fun a F=>oX F rfl rfl rfl H fun a w y H F=>xA 1 F rfl fun a F=>zR (xA 2 F rfl fun a F=>?_);have H:=H.nl 4 qS 45;have H:=H.nl 1 xM 2;obtain⟨n,X,d⟩:=xB d;obtain⟨Z,K1,W⟩:=Sep.lend (K:=[bx y [f,h,xF i,xF 0,vH,vH,.bool false] 126,rl 4 qS 45 vH ([]),rl 1 xM 2 vH ([]),rw N0 1 (vS 1 xM) 46 j I]) (L:=[]) (H.s [2,1,0,3] rfl rfl);refine oG F rfl call95 rfl (sW n X _ H.hN K1 (H.u p) (H.u t) D (show xS 0 by decide)) (fun a Y w ⟨A,C,a0,S,M⟩ F=>?_);subst Y;have H:Sep J B e w [bx y [f,h,xF i,xF n.2.1,A,C,.bool n.2.2.2.2.1] 126,rl 4 qS 45 A n.2.2.1,rl 1 xM 2 C n.2.2.2.1,rw N0 1 (vS 1 xM) 46 j n.2.2.2.2.2]:=W S;refine xA 1 F rfl fun a F=>xJ (xG (qM (xX (xA 1 F rfl fun a F=>zB F rfl rfl fun a F=>oQ xLm F rfl rfl rfl fun a F=>oB isAgg4 F rfl rfl (H.b 0 rfl) rfl (fun a F=>?_)))));refine xA 1 F rfl fun a F=>xJ (vK F rfl (fun E=>?_) (fun E=>?_))
 ·
  replace d:=zW E d;refine xX (xA 3 F rfl fun a F=>xJ (xP (zZ (qH (zS F rfl (xZ F rfl) (xZ F rfl) ?_)))));obtain rfl:=oj d;exact⟨_,rfl,y,f,h,A,C,rfl,H,p,t,D,M,(show xS (7) by decide)⟩
 replace d:=zV E d;refine xX (xA 2 F rfl fun a F=>xJ (vK F rfl (fun G=>?_) (fun G=>?_)))
 ·
  replace d:=zW G d;refine xX (xA 3 F rfl fun a F=>xJ (xP (zZ (qH (zS F rfl (xZ F rfl) (xZ F rfl) ?_)))));obtain rfl:=oj d;exact⟨_,rfl,y,f,h,A,C,rfl,H,p,t,D,M,(show xS (0) by decide)⟩
 replace d:=zV G d;refine xT (zG (xH (xX (xA 3 F rfl fun a F=>xJ (xP ?_)))));refine zS F rfl (xZ F rfl) (xZ F rfl) ?_;obtain rfl:=oj d;exact⟨_,rfl,y,f,h,A,C,rfl,H,p,t,D,M,(show xS (6) by decide)⟩
def mP (N:Nat) (d:Template) (e:Instance) (f:Int):Option ((List Line)×Int):=
 xY (fL d e) fun h=>
 xY (nJ N d e h f) fun c=>
 if (c.2.1==7) then
  some ([],c.2.1)
 else
  if (c.2.1==0) then
   some ([],6)
  else
   if (decide (4000<(c.1.2.2.2.2.1.length:Int))) then
    some ([],3)
   else
    some (c.1.2.2.2.2.1,0)
theorem xAk {B:Nat→Prop} {N:Nat} {D:Template} {E:Instance} {h:Int} (r:(List Line)×Int) (d:mP N D E h=some r) {p:Value} {t:Value} (f:World) (W:∀ c,B c→c<f.heap.size) (G:Bo B f (Pt 2 xL) p D) (I:Bo B f (Pt 2 xO) t E) (T:xS h):Calls Tryz.prog 27 #[p,t,xF h] f (Gv (fun v w'=>∃ (C:Value),v= .tuple #[C,xF r.2]∧Sep [] B f w' [rl 4 qS 45 C r.1]∧xS r.2)):=by
 unfold mP at d
 refine xW (L:=[(0,p),(1,t),(2,xF h)]) func27 rfl rfl rfl (sc rfl (sc rfl (sc rfl sn))) (fun a F=>?_);have H:=Sep.start W;refine xX (xA 2 F rfl fun a F=>zR (xA 3 F rfl fun a F=>?_));refine xA 1 F rfl fun a F=>?_;obtain⟨J,X,d⟩:=xB d;refine oG F rfl call62 rfl (tQ J X _ aA (H.a G) (H.a I)) (fun a y w ⟨M,a5,S⟩ F=>?_);subst y;have H:=H.r1 S n0;refine xA 1 F rfl fun a F=>?_;obtain⟨e,Y,d⟩:=xB d;have H:=H.lw;obtain⟨X1,K1,U⟩:=Sep.lend (K:=[rw N0 1 (vS 1 xM) 46 M J]) (L:=[]) H;refine oG F rfl call61 rfl (xEx e Y _ H.hN K1 (H.u G) (H.u I) T) (fun a y w ⟨Z,v3,v4,A,O,a6,S,P,Q,i1,i2,V⟩ F=>?_);subst y;have P:=H.dn P;have Q:=H.dn Q;have H:Sep [] B f w [bx Z [v3,v4,xF e.1.2.2.1,xF e.1.2.2.2.1,A,O,.bool e.1.2.2.2.2.2.2] 126,rl 4 qS 45 A e.1.2.2.2.2.1,rl 1 xM 2 O e.1.2.2.2.2.2.1,rw N0 1 (vS 1 xM) 46 M e.2.2]:=U S;refine xA 5 F rfl fun a F=>xJ (xG (qM (xX ?_)));refine xA 3 F rfl fun a F=>xJ (vK F rfl (fun i=>?_) (fun i=>?_))
 ·
  replace d:=zW i d;refine xX (oR0 (R:=qS) qD vD F rfl H fun a w v7 H F=>xA 3 F rfl fun a F=>xJ (xP (zZ (qH ?_))));refine zS F rfl (xZ F rfl) (xZ F rfl) ?_;obtain rfl:=oj d;exact⟨_,rfl,v7,rfl,(H.s [0] rfl rfl),V⟩
 replace d:=zV i d;refine xX (xA 3 F rfl fun a F=>xJ (vK F rfl (fun j=>?_) (fun j=>?_)))
 ·
  replace d:=zW j d;refine xX (oR0 (R:=qS) qD vD F rfl H fun a w v8 H F=>xA 2 F rfl fun a F=>xJ (xP (zZ (qH (zS F rfl (xZ F rfl) (xZ F rfl) ?_)))));obtain rfl:=oj d;exact⟨_,rfl,v8,rfl,(H.s [0] rfl rfl),(show xS (6) by decide)⟩
 replace d:=zV j d;refine xX (xA 1 F rfl fun a F=>zB F rfl rfl fun a F=>oQ rD F rfl rfl rfl fun a F=>oB pH F rfl rfl (H.b 0 rfl) rfl fun a F=>oL qD F rfl rfl (H.l 1 rfl) fun a i3 F=>xA 2 F rfl fun a F=>xJ ?_);refine vK F rfl (fun n=>?_) (fun n=>?_)
 ·
  replace d:=zW n d;refine xX (oR0 (R:=qS) qD vD F rfl H fun a w v9 H F=>xA 2 F rfl fun a F=>xJ (xP (zZ (qH (zS F rfl (xZ F rfl) (xZ F rfl) ?_)))));obtain rfl:=oj d;exact⟨_,rfl,v9,rfl,(H.s [0] rfl rfl),(show xS (3) by decide)⟩
 replace d:=zV n d;refine xT (zG (xH (xX (xA 1 F rfl fun a F=>zB F rfl rfl fun a F=>oQ rD F rfl rfl rfl fun a F=>oB pH F rfl rfl (H.b 0 rfl) rfl fun a F=>xA 2 F rfl fun a F=>?_))));refine xJ (xP (zS F rfl (xZ F rfl) (xZ F rfl) ?_));obtain rfl:=oj d;exact⟨_,rfl,A,rfl,(H.s [1] rfl rfl),(show xS (0) by decide)⟩
def eE (N:Nat) (c:Template) (d:Instance) (e:Int):Option ((List Line)×Int):=
 xY (jA (Template.mk c.size c.rels) (Instance.mk d.vars d.cons) e) fun f=>
 if (f != 0) then
  some ([],f)
 else
  xY (mP N (Template.mk c.size c.rels) (Instance.mk d.vars d.cons) e) fun h=>
  some (h.1,h.2)
theorem tK {B:Nat→Prop} {N:Nat} {t:Template} {y:Instance} {f:Int} (r:(List Line)×Int) (d:eE N t y f=some r) {i:Value} {j:Value} (e:World) (I:∀ c,B c→c<e.heap.size) (J:Bo B e (aY 2 xL) i t) (K:Bo B e (aY 2 xO) j y) (n:xS f):Calls Tryz.prog 6 #[i,j,xF f] e (Gv (fun v w'=>∃ (p:Value),v= .tuple #[p,xF r.2]∧Sep [] B e w' [rl 4 qS 45 p r.1]∧xS r.2)):=by
 unfold eE at d
 refine xW (L:=[(0,i),(1,j),(2,xF f)]) func6 rfl rfl rfl (sc rfl (sc rfl (sc rfl sn))) (fun a F=>?_);have H:=Sep.start I;refine xX ?_;obtain⟨Z,rfl,A,C⟩:=xL.o J;refine oX F rfl rfl rfl H (fun a w b1 H F=>?_);obtain⟨X,rfl,D,E⟩:=xO.o K;refine oX F rfl rfl rfl H fun a w b2 H F=>xA 2 F rfl fun a F=>xJ (xG (xX (xA 1 F rfl fun a F=>?_)));obtain⟨M,O,d⟩:=xB d;refine oKI F rfl call26 rfl H (xAx M O _ aA (xL.b (H.g 1 rfl).bk A (H.a C)) (xO.b (H.g 0 rfl).bk D (H.a E)) n) fun a w H G F=>xA 1 F rfl fun a F=>zR (xA 2 F rfl fun a F=>xJ (vK F rfl (fun h=>?_) (fun h=>?_)))
 ·
  replace d:=zW h d;refine xX (oR0 (R:=qS) qD vD F rfl H fun a w P H F=>xA 3 F rfl fun a F=>xJ (xP (qH (zS F rfl (xZ F rfl) (xZ F rfl) ?_))));obtain rfl:=oj d;exact⟨_,rfl,P,rfl,(H.s [0] rfl rfl),G⟩
 replace d:=zV h d;refine xT (xH (xX (xA 1 F rfl fun a F=>?_)));obtain⟨Q,T,d⟩:=xB d;refine oG F rfl call27 rfl (xAk Q T _ aA (xL.b (H.g 1 rfl).bk A (H.a C)) (xO.b (H.g 0 rfl).bk D (H.a E)) n) (fun a U w ⟨V,Y,S,W⟩ F=>?_);subst U;have H:=H.r1 S n0;refine xA 4 F rfl fun a F=>xJ (xP (zS F rfl (xZ F rfl) (xZ F rfl) ?_));obtain rfl:=oj d;exact⟨_,rfl,V,rfl,(H.s [0] rfl rfl),W⟩
def nI (d:List UInt8) (e:Int):Option Int:=
 xY (jF d) fun c=>
 xY (oR c.1 c.2.1 c.2.2 e) fun f=>
 some f.1
theorem xFb {B:Nat→Prop} {t:List UInt8} {f:Int} (r:Int) (d:nI t f=some r) {h:Value} (e:World) (G:∀ c,B c→c<e.heap.size) (I:Bo B e (Sl 1 eQ) h t) (C:xS f):Calls Tryz.prog 7 #[h,xF f] e (lI r e):=by
 unfold nI at d
 refine xW (L:=[(0,h),(1,xF f)]) func7 rfl rfl rfl (sc rfl (sc rfl sn)) (fun a F=>?_);have H:=Sep.start G;refine xX (xA 1 F rfl fun a F=>zR (xA 1 F rfl fun a F=>?_));obtain⟨i,J,d⟩:=xB d;refine oG F rfl call23 rfl (uC i J _ H.hN (H.u I)) (fun a j w ⟨y,A,O,S,n,D⟩ F=>?_);subst j;have n:=H.dn n;have H:=H.r1 S n0;refine xA 1 F rfl fun a F=>?_;obtain⟨p,M,d⟩:=xB d;obtain⟨Q,K1,E⟩:=Sep.lend (K:=[bx y [A,xF i.2.1,.int .u64 i.2.2] 118]) (L:=[]) H;refine oG F rfl kZ rfl (qK p M _ H.hN K1 (H.u n) D C) (fun a j w ⟨P,S,N,R⟩ F=>?_);subst j;have H:Sep [] B e w [bx y [A,xF p.2.1,.int .u64 p.2.2] 118]:=E S;refine xA 1 F rfl fun a F=>xJ (xP (xR F rfl (xZ F rfl) ?_));obtain rfl:=oj d;exact⟨⟨rfl,H.bl⟩,N⟩
def iD (c:Template) (d:Instance) (e:List Line):Option Int:=
 xY (gQ c d) fun f=>
 if (!f) then
  some 1
 else
  if (decide (4000<(e.length:Int))) then
   some 3
  else
   some 0
theorem tG {B:Nat→Prop} {p:Template} {t:Instance} {y:List Line} (r:Int) (d:iD p t y=some r) {i:Value} {j:Value} {n:Value} (e:World) (A:∀ c,B c→c<e.heap.size) (C:Bo B e (Pt 2 xL) i p) (D:Bo B e (Pt 2 xO) j t) (E:Bo B e (Sl 4 qS) n y):Calls Tryz.prog 31 #[i,j,n] e (lI r e):=by
 unfold iD at d
 refine xW (L:=[(0,i),(1,j),(2,n)]) func31 rfl rfl rfl (sc rfl (sc rfl (sc rfl sn))) (fun a F=>?_);have H:=Sep.start A;refine xX (xA 1 F rfl fun a F=>xJ (xG (xX (xA 2 F rfl fun a F=>?_))));obtain⟨G,I,d⟩:=xB d;refine oK F rfl call24 rfl H (nZ G I _ aA (H.a C) (H.a D)) fun a w H F=>xA 1 F rfl fun a F=>xJ (vK F rfl (fun f=>?_) (fun f=>?_))
 ·
  replace d:=zW f d;refine xX (xA 1 F rfl fun a F=>xJ (xP (qH (xR F rfl (xZ F rfl) ?_))));obtain rfl:=oj d;exact⟨⟨rfl,H.bl⟩,(show xS (1) by decide)⟩
 replace d:=zV f d;refine xT (xH (xG (xX (xA 1 F rfl fun a F=>oL qD F rfl rfl E fun a J F=>xA 1 F rfl fun a F=>xJ (vK F rfl (fun h=>?_) (fun h=>?_))))))
 ·
  replace d:=zW h d;refine xX (xA 1 F rfl fun a F=>xJ (xP (qH (xR F rfl (xZ F rfl) ?_))));obtain rfl:=oj d;exact⟨⟨rfl,H.bl⟩,(show xS (3) by decide)⟩
 replace d:=zV h d;refine xT (xH (xX (xA 1 F rfl fun a F=>xJ (xP (xR F rfl (xZ F rfl) ?_)))));obtain rfl:=oj d;exact⟨⟨rfl,H.bl⟩,(show xS (0) by decide)⟩
def nA (c:Template) (d:Instance):Option (Template×Instance×(List l08Level)):=
 xY (fL c d) fun e=>
 some ((c,d,[(l08Level.mk e (Literal.mk 0 0))]))
theorem xBq {B:Nat→Prop} {C:Template} {D:Instance} (r:(Template×Instance×(List l08Level))) (e:nA C D=some r) {f:Value} {h:Value} (d:World) (J:∀ c,B c→c<d.heap.size) (i:Bo B d (Pt 2 xL) f C) (j:Bo B d (Pt 2 xO) h D):Calls Tryz.prog 67 #[f,h] d (Gv (fun v w'=>∃ (n:Nat) (p t A:Value),v=vA n∧Sep [] B d w' [bx n [p,t,A] 86,rl 3 vM 90 A r.2.2]∧Bo B d (Pt 2 xL) p r.1∧Bo B d (Pt 2 xO) t r.2.1)):=by
 unfold nA at e
 refine xW (L:=[(0,f),(1,h)]) func67 rfl rfl rfl (sc rfl (sc rfl sn)) (fun a F=>?_);have H:=Sep.start J;refine xX (xA 1 F rfl fun a F=>zR (xA 4 F rfl fun a F=>?_));obtain⟨E,K,e⟩:=xB e;refine oG F rfl call62 rfl (tQ E K _ aA (H.a i) (H.a j)) (fun a M w ⟨G,O,S⟩ F=>?_);subst M;have H:=H.r1 S n0;refine uA (cs:=#[G,xF 0,xF 0]) (qs:=[(0,[G])]) pQ iF (fun w=>by simp [kF,kR];rfl) F rfl rfl rfl rfl rfl ⟨(jM (H.l 0 rfl).one),rfl,Nat.le_of_ble_eq_true rfl,trivial⟩ rfl (fun a F=>?_);have H:=(vM.w (show xS 0 by decide) (show xS 0 by decide) H);refine gB (R:=vM) (y:=(l08Level.mk E (Literal.mk 0 0))) bL lF iF rfl rfl F rfl rfl H El.agg fun a w I H F=>aX underlying86 zeroValue86 (fun w=>by simp [sizeOf62,sizeOf63,sizeOf84];rfl) F rfl rfl rfl rfl rfl (oc (H.a i).pone (oc (H.a j).pone (oc (H.l 0 rfl).one on))) rfl rfl fun a F=>oX F rfl rfl rfl H fun a w N H F=>xA 1 F rfl fun a F=>xJ (xP (xR F rfl (xZ F rfl) ?_));obtain rfl:=oj e;exact⟨_,rfl,N,f,h,I,rfl,H,i,j⟩
def eS (c:Int):Option (ByteArray×Int):=
 if (c==1) then
  some ((kL [99,104,111,111,115,101]),2)
 else
  if (c==2) then
   some ((kL [114,101,109,111,118,101]),3)
  else
   if (c==3) then
    some ((kL [101,109,112,116,121]),1)
   else
    some ((kL []),0)
theorem xBw {B:Nat→Prop} {e:Int} (r:ByteArray×Int) (d:eS e=some r)  (j:World) (n:∀ c,B c→c<j.heap.size) (p:xS e):Calls Tryz.prog 140 #[xF e] j (Gv (fun v w'=>v= .tuple #[.string r.1,xF r.2]∧Sep [] B j w' []∧r.1.size≤maxLen∧xS r.2)):=by
 unfold eS at d
 refine xW (L:=[(0,xF e)]) func140 rfl rfl rfl (sc rfl sn) (fun a F=>?_);have H:=Sep.start n;refine xX (xA 2 F rfl fun a F=>xJ (xG (xX (xA 1 F rfl fun a F=>vP ?_))));refine xH (qM (xX (xA 2 F rfl fun a F=>xJ (vK F rfl (fun f=>?_) (fun f=>?_)))))
 ·
  replace d:=zW f d;refine xX (xA 2 F rfl fun a F=>xJ (xP (zZ (qH (zS F rfl (xZ F rfl) (xZ F rfl) ?_)))));obtain rfl:=oj d;exact⟨_,rfl,rfl,H,(by decide),(show xS (2) by decide)⟩
 replace d:=zV f d;refine xX (xA 2 F rfl fun a F=>xJ (vK F rfl (fun h=>?_) (fun h=>?_)))
 ·
  replace d:=zW h d;refine xX (xA 2 F rfl fun a F=>xJ (xP (zZ (qH (zS F rfl (xZ F rfl) (xZ F rfl) ?_)))));obtain rfl:=oj d;exact⟨_,rfl,rfl,H,(by decide),(show xS (3) by decide)⟩
 replace d:=zV h d;refine xX (xA 2 F rfl fun a F=>xJ (vK F rfl (fun i=>?_) (fun i=>?_)))
 ·
  replace d:=zW i d;refine xX (xA 2 F rfl fun a F=>xJ (xP (zZ (qH (zS F rfl (xZ F rfl) (xZ F rfl) ?_)))));obtain rfl:=oj d;exact⟨_,rfl,rfl,H,(by decide),(show xS (1) by decide)⟩
 replace d:=zV i d;refine xT (zG (xH (xX (xA 2 F rfl fun a F=>xJ (xP (zS F rfl (xZ F rfl) (xZ F rfl) ?_))))));obtain rfl:=oj d;exact⟨_,rfl,rfl,H,(by decide),(show xS (0) by decide)⟩
def jZ (c:Line):Option (List Int):=
 some ([c.var,c.value,c.con])
theorem yP {B:Nat→Prop} {e:Line} (r:(List Int)) (j:jZ e=some r) {h:Value} (f:World) (n:∀ c,B c→c<f.heap.size) (d:Bo B f (Pt 4 qS) h e):Calls Tryz.prog 141 #[h] f (Gv (fun v w'=>∃ (i:Value),v=i∧Sep [] B f w' [rl 1 xM 2 i r])):=by
 unfold jZ at j
 refine xW (L:=[(0,h)]) func141 rfl rfl rfl (sc rfl sn) (fun a F=>?_);have H:=Sep.start n;refine xX (xA 1 F rfl fun a F=>xJ (xG (lU H fun w H=>qV 0 rfl (qO F rfl rfl fun a F=>qJ 1 rfl (vN F rfl rfl d (fun a F=>?_))))));refine qJ 2 rfl (vF (s':=1) gR F rfl rfl d qS.f1 fun a G p F=>qJ 3 rfl (vlI xN F rfl rfl H.v p fun a t F=>qV 4 rfl (qO F rfl rfl fun a F=>qJ 5 rfl (vN F rfl rfl d fun a F=>qJ 6 rfl (vF (s':=1) mN F rfl rfl d qS.f2 fun a I y F=>qJ 7 rfl ?_)))));refine vlI xN F rfl rfl H.v y fun a A F=>qV 8 rfl (qO F rfl rfl fun a F=>qJ 9 rfl (vN F rfl rfl d fun a F=>qJ 10 rfl (vF (s':=1) tV F rfl rfl d qS.f3 fun a J C F=>qJ 11 rfl (vlI xN F rfl rfl H.v C fun a D F=>kT H 12 rfl (oRI (xs:=[.tmp 6,.tmp 10,.tmp 14]) (l:=[e.var,e.value,e.con]) xC xI qQ rfl F rfl rfl rfl rfl rfl rfl (by simp only[List.forall_mem_cons,List.not_mem_nil,false_implies,implies_true,and_true];exact⟨t,A,D⟩) H (fun a w E H F=>?_))))));refine xJ ⟨⟨_,H⟩,?_⟩;refine qV 13 rfl (kA F rfl rfl fun a F=>zN (xH (xP (xR F rfl (xZ F rfl) ?_))));obtain rfl:=oj j;exact⟨_,rfl,E,rfl,H⟩
def mI (c:Line):Option Bool:=
 xY (eS c.kind) fun d=>
 xY (jZ c) fun h=>
 kY (σ:=Unit) (
  eJ (σ:=Unit) (ρ:=Bool) (fun (e:Nat) (s:Unit)=>
    match s with
    | _=>
    kY (σ:=Bool) (
     xY (ix h (e:Int)) fun f=>
     xY (bE f 0 999) fun i=>
     if (!i) then  some (.nx true) else  if (decide (d.2≤(e:Int))) then  some (.nx (f != 0)) else  some (.nx false)) fun j=>
    if j then
     some (.ret false)
    else
     some (.go ())) (3:Int).toNat 0 ()) fun _=>
 some ((decide (0<d.2)))
theorem xCu {B:Nat→Prop} {J:Line} (r:Bool) (d:mI J=some r) {y:Value} (e:World) (T:∀ c,B c→c<e.heap.size) (A:Bo B e (Pt 4 qS) y J):Calls Tryz.prog 101 #[y] e (bK (.bool r) e):=by
 unfold mI at d
 refine xW (L:=[(0,y)]) func101 rfl rfl rfl (sc rfl sn) (fun a F=>?_);have H:=Sep.start T;refine xX (xA 1 F rfl fun a F=>zR (xA 1 F rfl fun a F=>oN F rfl rfl A fun a F=>oF (s':=1) sR F rfl rfl A qS.f0 fun a p1 U F=>olI xN F rfl rfl H.sm U (fun a V F=>?_)));obtain⟨j,W,d⟩:=xB d;refine oG F rfl call140 rfl (xBw j W _ aA V) (fun a C w ⟨a5,S,a6,i2⟩ F=>?_);subst C;have H:=H.r0 S;refine xA 5 F rfl fun a F=>zR (xA 1 F rfl fun a F=>?_);obtain⟨D,X,d⟩:=xB d;refine oG F rfl call141 rfl (yP D X _ aA (H.a A)) (fun a C w ⟨p,a7,S⟩ F=>?_);subst C;have H:=H.r1 S n0;refine xA 1 F rfl fun a F=>xJ (xG (xX (xA 1 F rfl fun a F=>xJ ?_)));obtain⟨K,d,G⟩:=xV d;refine qG (fun a w=>K= .nx ()∧Sk a 41 [(4,xF j.2)]∧Sep [] B e w []) ?_ ?_
 ·
  refine qM ?_;obtain⟨P,Q,d⟩:=gW d;refine vT (fun g a w=>∃ (f:Nat),f+g=(3:Int).toNat∧eJ P g f ()=some K∧Sk a 41 [(6,xF (f:Int)),(4,xF j.2),(5,p)]∧Sep [] B e w [rl 1 xM 2 p D]) (3:Int).toNat ?_ ?_
  ·
   exact⟨0,(Nat.zero_add _),d,F.su,H⟩
  intro M a w ⟨f,n,d,F,H⟩
  cases M with
  | zero=>
   replace d:=fJ d;have l1:=mF n;refine xG (xX (xA 2 F rfl fun a F=>xJ (aC F rfl l1 (vU (vV (vV ?_))))));refine bC (xH ?_);exact⟨(kQ d),F.su,(H.s [] rfl rfl)⟩
  | succ M=>
   obtain⟨a8,d,I⟩:=fI d;rw[Q] at d;have l1:=iX n;refine xG (xX (xA 2 F rfl fun a F=>xJ (aD F rfl l1 (xT (xH (xG ?_))))));have j1:=xDz n (show xS (3) by decide);have Y:=pK n (show xS (3) by decide);refine qM (xG ?_);obtain⟨Z,d,R⟩:=xV d;refine qG (fun a w=>∃ (E:Bool),Z= .nx E∧Sk a 41 [(4,xF j.2),(5,p),(6,xF (f:Int)),(38,.bool E)]∧Sep [] B e w [rl 1 xM 2 p D]) ?_ ?_
   ·
    refine oO (xA 2 F rfl fun a F=>?_);obtain⟨z3,N,d⟩:=xB d;refine oI xC xI F rfl rfl rfl (H.l 0 rfl) N fun a p2 h2 F=>olI xN F rfl rfl (Sm.refl _ _) h2 (fun a i3 F=>?_);obtain⟨O,c4,d⟩:=xB d;refine oK F rfl iW rfl H (cU O c4 _ aA i3 (show xS (0) by decide) (show xS (999) by decide)) fun a w H F=>xA 2 F rfl fun a F=>?_
    rcases zC (!O) with h | h
    ·
     replace d:=zW h d;have F:=F.eb 27 rfl h;refine xA 11 F rfl fun a F=>?_;refine xJ ?_;exact⟨true,(kQ d),F.su,H⟩
    replace d:=zV h d;have F:=F.eb 27 rfl h;refine xA 4 F rfl fun a F=>?_
    rcases zC (decide (j.2≤(f:Int))) with i | i
    ·
     replace d:=zW i d;have F:=F.eb 31 rfl i;refine xA 2 F rfl fun a F=>oI xC xI F rfl rfl rfl (H.l 0 rfl) N fun a p3 h3 F=>olI xN F rfl rfl (Sm.refl _ _) h3 fun a i4 F=>xA 3 F rfl fun a F=>xJ ?_;exact⟨(z3 != 0),(kQ d),F.su,H⟩
    replace d:=zV i d;have F:=F.eb 31 rfl i;refine xA 7 F rfl fun a F=>xJ ?_;exact⟨false,(kQ d),F.su,H⟩
   rintro a w ⟨E,rfl,F,H⟩
   have d:=oJ R;refine xH (vK F rfl (fun t=>?_) (fun t=>?_))
   ·
    replace d:=zW t d;refine xX (xA 1 F rfl fun a F=>xJ (xP (zZ (qH (qH ?_)))));replace d:=bQ d I;refine zZ (qH ?_);replace d:=bR d G;refine qH (xR F rfl (xZ F rfl) ?_);obtain rfl:=oj d;exact⟨rfl,H.bl⟩
   replace d:=zV t d;refine xT (zG (xH (oO (xA 1 F rfl fun a F=>kO F rfl rfl rfl Y fun a F=>xA 1 F rfl fun a F=>xJ ?_))));replace d:=aB d I;exact⟨_,Nat.lt_succ_self _,f+1,(by omega),d,F.su,H⟩
 rintro a w ⟨rfl,F,H⟩
 have d:=oJ G;refine xH (xX (xA 3 F rfl fun a F=>xJ (xP (xR F rfl (xZ F rfl) ?_))));obtain rfl:=oj d;exact⟨rfl,H.bl⟩
def iC (N:Nat) (h:Template) (d:Instance) (e:List (List Int)) (c:ArcStep):Option Bool:=
 kY (σ:=Bool) (
  xY (ck (d.vars - 1)) fun i=>
  xY (bE c.var 0 i) fun j=>
  if (!j) then  some (.nx true) else  xY (ck ((d.cons.length:Int) - 1)) fun n=>
   xY (bE c.con 0 n) fun p=>
   if (!p) then  some (.nx true) else  xY (ix e c.var) fun t=>
    xY (dS t c.value) fun y=>
    some (.nx (!y))) fun A=>
 if A then
  some false
 else
  xY (ix d.cons c.con) fun f=>
  kY (σ:=Unit) (
   qW (σ:=Unit) (ρ:=Bool) (fun (B:Nat) (C:Int) (s:Unit)=>
     match s with
     | _=>
     kY (σ:=Bool) (
      if (C==c.var) then  xY (cI N h f e (B:Int) c.value) fun D=>
       some (.nx (!D)) else  some (.nx false)) fun E=>
     if E then
      some (.ret true)
     else
      some (.go ())) f.scope 0 ()) fun _=>
  some false
theorem xCa {B:Nat→Prop} {N:Nat} {T:Template} {U:Instance} {V:List (List Int)} {O:ArcStep} (r:Bool) (d:iC N T U V O=some r) {t:Value} {I:Value} {y:Value} {A:Value} (f:World) (hN:∀ c,B c→c<f.heap.size) (A0:Bo B f (Pt 2 xL) t T) (C:Bo B f (Pt 2 xO) I U) (W:Bo B f (Sl 1 (vS 1 xM)) y V) (e:Bo B f (Pt 3 qR) A O):Calls Tryz.prog 104 #[t,I,y,A] f (bK (.bool r) f):=by
 unfold iC at d
 refine xW (L:=[(0,t),(1,I),(2,y),(3,A)]) func104 rfl rfl rfl (sc rfl (sc rfl (sc rfl (sc rfl sn)))) (fun a F=>?_);have H:=Sep.start hN;refine xX (xA 1 F rfl fun a F=>xJ (xG (xG ?_)));obtain⟨o1,d,a6⟩:=xV d;refine qG (fun a w=>∃ (P:Bool),o1= .nx P∧Sk a 93 [(0,t),(1,I),(2,y),(3,A),(50,.bool P)]∧Sep [] B f w []) ?_ ?_
 ·
  refine xQa H (oM F rfl rfl fun a F=>qN F rfl rfl e fun a F=>qF (s':=1) sX F rfl rfl e qR.f0 fun a p1 h1 F=>qlI xN F rfl rfl H.q h1 fun a i1 F=>oM F rfl rfl fun a F=>qN F rfl rfl C fun a F=>qF (s':=1) gP F rfl rfl C xO.f0 fun a p2 h2 F=>qlI xN F rfl rfl H.q h2 (fun a i2 F=>?_));obtain⟨z1,X,d⟩:=xB d;refine zH F rfl (fun w l=>nU F rfl rfl X) (fun a F=>?_);obtain⟨Y,c2,d⟩:=xB d;refine dQ F rfl iW rfl (fun w w' h l=>l.through h) (fun w l=>cU Y c2 w aA i1 (show xS (0) by decide) (bD X)) fun a F=>gU F rfl rfl fun a F=>oM F rfl rfl (fun a F=>?_)
  rcases zC (!Y) with D | D
  ·
   replace d:=zW D d;have F:=F.eb 22 rfl D;refine oV F rfl rfl fun a F=>oV F rfl rfl fun a F=>oV F rfl rfl fun a F=>oV F rfl rfl fun a F=>oV F rfl rfl fun a F=>oV F rfl rfl fun a F=>oV F rfl rfl fun a F=>oV F rfl rfl fun a F=>oV F rfl rfl fun a F=>oV F rfl rfl fun a F=>oV F rfl rfl (fun a F=>?_);refine oV F rfl rfl fun a F=>bH F rfl rfl rfl fun a F=>oM F rfl rfl fun a F=>oV F rfl rfl fun a F=>oV F rfl rfl fun a F=>oV F rfl rfl fun a F=>oV F rfl rfl fun a F=>oV F rfl rfl fun a F=>oV F rfl rfl fun a F=>oV F rfl rfl fun a F=>oV F rfl rfl (fun a F=>?_);refine oV F rfl rfl fun a F=>oV F rfl rfl fun a F=>oV F rfl rfl fun a F=>oV F rfl rfl fun a F=>oV F rfl rfl fun a F=>bH F rfl rfl rfl fun a F=>aF fun w H=>xH ?_;exact⟨true,(kQ d),F.su,H⟩
  replace d:=zV D d;have F:=F.eb 22 rfl D;refine oM F rfl rfl fun a F=>qN F rfl rfl e fun a F=>qF (s':=1) yV F rfl rfl e qR.f2 fun a bm h3 F=>qlI xN F rfl rfl H.q h3 fun a i3 F=>oM F rfl rfl fun a F=>qN F rfl rfl C fun a F=>qF (s':=1) bU F rfl rfl C xO.f1 fun a p3 h4 F=>qlS vR F rfl rfl H.q h4 fun a v4 h5 F=>qL oY F rfl rfl h5 (fun a i4 F=>?_);obtain⟨z3,Z,d⟩:=xB d;refine zH F rfl (fun w l=>nU F rfl rfl Z) (fun a F=>?_);obtain⟨z4,c4,d⟩:=xB d;refine dQ F rfl iW rfl (fun w w' h l=>l.through h) (fun w l=>cU z4 c4 w aA i3 (show xS (0) by decide) (bD Z)) fun a F=>gU F rfl rfl fun a F=>cG F rfl rfl rfl fun a F=>oM F rfl rfl (fun a F=>?_)
  rcases zC (!z4) with E | E
  ·
   replace d:=zW E d;have F:=F.eb 36 rfl E;refine oV F rfl rfl fun a F=>oV F rfl rfl fun a F=>oV F rfl rfl fun a F=>oV F rfl rfl fun a F=>oV F rfl rfl fun a F=>oV F rfl rfl fun a F=>oV F rfl rfl fun a F=>oV F rfl rfl fun a F=>oV F rfl rfl fun a F=>oV F rfl rfl fun a F=>oV F rfl rfl (fun a F=>?_);refine oV F rfl rfl fun a F=>oV F rfl rfl fun a F=>bH F rfl rfl rfl fun a F=>aF fun w H=>xH ?_;exact⟨true,(kQ d),F.su,H⟩
  replace d:=zV E d;have F:=F.eb 36 rfl E;refine oM F rfl rfl fun a F=>oM F rfl rfl fun a F=>qN F rfl rfl e fun a F=>qF (s':=1) sX F rfl rfl e qR.f0 fun a p4 h6 F=>qlI xN F rfl rfl H.q h6 (fun a i5 F=>?_);obtain⟨z5,c5,d⟩:=xB d;refine qI xK xU F rfl rfl rfl W c5 fun a p5 h7 F=>qlS qE F rfl rfl H.q h7 fun a v5 h8 F=>oM F rfl rfl fun a F=>qN F rfl rfl e fun a F=>qF (s':=1) yX F rfl rfl e qR.f1 fun a p6 h9 F=>qlI xN F rfl rfl H.q h9 (fun a i6 F=>?_);obtain⟨z6,c6,d⟩:=xB d;refine dQ F rfl call102 rfl (fun w w' h l=>l.through h) (fun w l=>rI z6 c6 w aA ((H.go l).a h8) i6) fun a F=>gU F rfl rfl fun a F=>cG F rfl rfl rfl fun a F=>aF fun w H=>xH ?_;exact⟨(!z6),(kQ d),F.su,H⟩
 rintro a w ⟨P,rfl,F,H⟩
 have d:=oJ a6;refine xH (vK F rfl (fun K=>?_) (fun K=>?_))
 ·
  replace d:=zW K d;refine xX (xA 1 F rfl fun a F=>xJ (xP (qH (xR F rfl (xZ F rfl) ?_))));obtain rfl:=oj d;exact⟨rfl,H.bl⟩
 replace d:=zV K d;refine xT (xH (xG (xQa H (oM F rfl rfl fun a F=>qN F rfl rfl C fun a F=>qF (s':=1) bU F rfl rfl C xO.f1 fun a p7 a7 F=>qlS vR F rfl rfl H.q a7 fun a v6 a8 F=>oM F rfl rfl fun a F=>qN F rfl rfl e fun a F=>qF (s':=1) yV F rfl rfl e qR.f2 (fun a p8 a9 F=>?_)))));refine qlI xN F rfl rfl H.q a9 (fun a i7 F=>?_);obtain⟨J,c7,d⟩:=xB d;refine qI oY zA F rfl rfl rfl a8 c7 fun a p9 j F=>gS F rfl rfl fun a F=>aF fun w H=>xH (xG (xX (xA 1 F rfl fun a F=>xJ ?_)));obtain⟨o2,d,R⟩:=xV d;refine qG (fun a w=>o2= .nx ()∧Sk a 93 []∧Sep [] B f w []) ?_ ?_
 ·
  refine qM ?_;obtain⟨aa,ab,d⟩:=vY d;refine vT (fun g a w=>∃ (n:Nat) (p:List Int),(n≤J.scope.length∧J.scope.drop n=p)∧p.length=g∧qW aa p n ()=some o2∧Sk a 93 [(10,xF (n:Int)),(0,t),(2,y),(3,A),(9,p9)]∧Sep [] B f w []) J.scope.length ?_ ?_
  ·
   exact⟨0,J.scope,⟨Nat.zero_le _,rfl⟩,rfl,d,F.su,H⟩
  intro g1 a w ⟨n,p,i,ac,d,F,H⟩
  cases p with
  | nil=>
   replace d:=vX d;have q1:=vZ i.1 i.2;have l1:=kW q1;refine xG (xX (xA 2 F rfl fun a F=>oN F rfl rfl j fun a F=>oF (s':=1) gD F rfl rfl j qZ.f1 fun a bn ad F=>olS qE F rfl rfl H.sm ad fun a v7 ae F=>oL xC F rfl rfl ae fun a i8 F=>xA 1 F rfl fun a F=>vP ?_));refine xH (aC F rfl l1 (vU (vV (vV (bC (xH ?_))))));exact⟨(kQ d),F.sub sn,H⟩
  | cons x4 p=>
   subst ac;replace i:=qY i.2;have y1:=zI i.2.1;obtain⟨bp,d,S⟩:=vE d;rw[ab] at d;have l1:=zT i.1;refine xG (xX (xA 2 F rfl fun a F=>oN F rfl rfl j fun a F=>oF (s':=1) gD F rfl rfl j qZ.f1 fun a bq af F=>olS qE F rfl rfl H.sm af fun a v8 ag F=>oL xC F rfl rfl ag fun a i9 F=>xA 1 F rfl fun a F=>vP ?_));refine xH (aD F rfl l1 (xT (xH (xG ?_))));have j1:=k64 (Nat.le_of_lt i.1) i9;have m1:=bG i.1 i9;refine qM (xG ?_);obtain⟨o3,d,ah⟩:=xV d;refine qG (fun a w=>∃ (Q:Bool),o3= .nx Q∧Sk a 93 [(0,t),(2,y),(3,A),(9,p9),(10,xF (n:Int)),(92,.bool Q)]∧Sep [] B f w []) ?_ ?_
   ·
    refine xQa H (oM F rfl rfl fun a F=>qN F rfl rfl j fun a F=>qF (s':=1) gD F rfl rfl j qZ.f1 fun a br ai F=>qlS qE F rfl rfl H.q ai fun a v9 aj F=>oM F rfl rfl fun a F=>qI xC xI F rfl rfl rfl aj y1 fun a bt ak F=>qlI xN F rfl rfl H.q ak fun a bu F=>oM F rfl rfl fun a F=>qN F rfl rfl e fun a F=>qF (s':=1) sX F rfl rfl e qR.f0 (fun a bv al F=>?_));refine qlI xN F rfl rfl H.q al fun a c0 F=>zH F rfl (fun w l=>xBe F rfl rfl) fun a F=>oM F rfl rfl (fun a F=>?_)
    rcases zC (x4==O.var) with G | G
    ·
     replace d:=zW G d;have F:=F.eb 81 rfl G;refine oM F rfl rfl fun a F=>oM F rfl rfl fun a F=>oM F rfl rfl fun a F=>oM F rfl rfl fun a F=>oM F rfl rfl fun a F=>qN F rfl rfl e fun a F=>qF (s':=1) yX F rfl rfl e qR.f1 fun a c1 am F=>qlI xN F rfl rfl H.q am (fun a an F=>?_);obtain⟨z8,c8,d⟩:=xB d;refine dQ F rfl call142 rfl (fun w w' h l=>l.through h) (fun w l=>rE z8 c8 w aA ((H.go l).a A0) ((H.go l).a j) ((H.go l).a W) j1 an) fun a F=>gU F rfl rfl fun a F=>bH F rfl rfl rfl fun a F=>aF fun w H=>xH ?_;exact⟨(!z8),(kQ d),F.su,H⟩
    replace d:=zV G d;have F:=F.eb 81 rfl G;refine oV F rfl rfl fun a F=>oV F rfl rfl fun a F=>oV F rfl rfl fun a F=>oV F rfl rfl fun a F=>oV F rfl rfl fun a F=>oV F rfl rfl fun a F=>oV F rfl rfl fun a F=>oV F rfl rfl fun a F=>oV F rfl rfl fun a F=>oV F rfl rfl fun a F=>cG F rfl rfl rfl (fun a F=>?_);refine aF fun w H=>xH ?_;exact⟨false,(kQ d),F.su,H⟩
   rintro a w ⟨Q,rfl,F,H⟩
   have d:=oJ ah;refine xH (vK F rfl (fun M=>?_) (fun M=>?_))
   ·
    replace d:=zW M d;refine xX (xA 1 F rfl fun a F=>xJ (xP (zZ (qH (qH ?_)))));replace d:=bQ d S;refine zZ (qH ?_);replace d:=bR d R;refine qH (xR F rfl (xZ F rfl) ?_);obtain rfl:=oj d;exact⟨rfl,H.bl⟩
   replace d:=zV M d;refine xT (zG (xH (oO (xA 1 F rfl fun a F=>kO F rfl rfl rfl m1 fun a F=>xA 1 F rfl fun a F=>xJ ?_))));replace d:=aB d S;exact⟨_,Nat.lt_succ_self _,n+1,p,⟨i.1,i.2.2⟩,rfl,d,F.su,H⟩
 rintro a w ⟨rfl,F,H⟩
 have d:=oJ R;refine xH (xX (xA 1 F rfl fun a F=>xJ (xP (xR F rfl (xZ F rfl) ?_))));obtain rfl:=oj d;exact⟨rfl,H.bl⟩
def cK (N:Nat) (y:Template) (n:Instance) (d:List l08Level) (c:Line):Option (Bool×(List l08Level)):=
 kY (σ:=Bool) (
  if ((d.length:Int)==0) then  some (.nx true) else  xY (mI c) fun D=>
   if (!D) then  some (.nx true) else  some (.nx (decide (n.vars≤c.var)))) fun E=>
 if E then
  some (false,d)
 else
  xY (ck ((d.length:Int) - 1)) fun j=>
  xY (ix d j) fun e=>
  xY (ix e.domains c.var) fun f=>
  if (c.kind==1) then
   kY (σ:=Bool) (
    xY (dS f c.value) fun F=>
    if (!F) then  some (.nx true) else  some (.nx (decide ((f.length:Int)<2)))) fun G=>
   if G then
    some (false,d)
   else
    xY (eZ e.domains) fun t=>
    xY (ix t c.var) fun J=>
    xY (ap d ([(l08Level.mk (t.set (c.var).toNat ([c.value])) (Literal.mk c.var c.value))])) fun H=>
    some (true,H)
  else
   if (c.kind==2) then
    xY (iC N y n e.domains (ArcStep.mk c.var c.value c.con)) fun I=>
    if (!I) then
     some (false,d)
    else
     xY (aE f c.value) fun A=>
     some (true,(d.set (j).toNat (l08Level.mk (e.domains.set (c.var).toNat A) e.chosen)))
   else
    if (decide (0<(f.length:Int))) then
     some (false,d)
    else
     xY (sl d 0 j) fun h=>
     if (decide (1<(d.length:Int))) then
      xY (ck ((d.length:Int) - 2)) fun p=>
      xY (ix h p) fun i=>
      xY (ix i.domains e.chosen.var) fun B=>
      xY (aE B e.chosen.value) fun C=>
      some (true,(h.set (p).toNat (l08Level.mk (i.domains.set (e.chosen.var).toNat C) i.chosen)))
     else
      some (true,h)
theorem uE {B:Nat→Prop} {N:Nat} {ao:Template} {a7:Instance} {C:List l08Level} {e:Line} (r:Bool×(List l08Level)) (d:cK N ao a7 C e=some r) {n:Nat} {E:Value} {I:Value} {j:Value} {v1:Value} {P:List Nat} (t:World) (hN:∀ c,B c→c<t.heap.size) (S0:Sep P B t t [bx n [E,I,j] 86,rl 3 vM 90 j C]) (b9:Bo B t (Pt 2 xL) E ao) (a6:Bo B t (Pt 2 xO) I a7) (f:Bo B t (Pt 4 qS) v1 e):Calls Tryz.prog 68 #[vA n,v1] t (Gv (fun v w'=>∃ (ar:Value),v= .bool r.1∧Sep P B t w' [bx n [E,I,ar] 86,rl 3 vM 90 ar r.2])):=by
 unfold cK at d
 refine xW (L:=[(0,vA n),(1,v1)]) func68 rfl rfl rfl (sc rfl (sc rfl sn)) (fun a F=>?_);have H:=S0;refine xX (xA 1 F rfl fun a F=>zR (xA 1 F rfl fun a F=>zB F rfl rfl fun a F=>oQ rN F rfl rfl rfl fun a F=>oB iH F rfl rfl (H.b 0 rfl) rfl (fun a F=>?_)));refine oL bL F rfl rfl (H.l 1 rfl) fun a i1 F=>xA 1 F rfl fun a F=>xJ (xG (xG ?_));obtain⟨o1,d,be⟩:=xV d;refine qG (fun a w=>∃ (s1:Bool),o1= .nx s1∧Sk a 197 [(0,vA n),(1,v1),(5,xF (C.length:Int)),(37,.bool s1)]∧Sep P B t w [bx n [E,I,j] 86,rl 3 vM 90 j C]) ?_ ?_
 ·
  refine xQa H (oM F rfl rfl fun a F=>zH F rfl (fun w l=>xBe F rfl rfl) fun a F=>oM F rfl rfl (fun a F=>?_))
  rcases zC ((C.length:Int)==0) with U | U
  ·
   replace d:=zW U d;have F:=F.eb 19 rfl U;refine oV F rfl rfl fun a F=>oV F rfl rfl fun a F=>oV F rfl rfl fun a F=>bH F rfl rfl rfl fun a F=>oM F rfl rfl fun a F=>oV F rfl rfl fun a F=>oV F rfl rfl fun a F=>oV F rfl rfl fun a F=>oV F rfl rfl fun a F=>oV F rfl rfl fun a F=>oV F rfl rfl (fun a F=>?_);refine oV F rfl rfl fun a F=>oV F rfl rfl fun a F=>oV F rfl rfl fun a F=>oV F rfl rfl fun a F=>oV F rfl rfl fun a F=>oV F rfl rfl fun a F=>bH F rfl rfl rfl fun a F=>aF fun w H=>xH ?_;exact⟨true,(kQ d),F.su,H⟩
  replace d:=zV U d;have F:=F.eb 19 rfl U;refine oM F rfl rfl (fun a F=>?_);obtain⟨z1,c1,d⟩:=xB d;refine dQ F rfl call101 rfl (fun w w' h l=>l.through h) (fun w l=>xCu z1 c1 w aA ((H.go l).a f)) fun a F=>gU F rfl rfl fun a F=>cG F rfl rfl rfl fun a F=>oM F rfl rfl (fun a F=>?_)
  rcases zC (!z1) with V | V
  ·
   replace d:=zW V d;have F:=F.eb 24 rfl V;refine oV F rfl rfl fun a F=>oV F rfl rfl fun a F=>oV F rfl rfl fun a F=>oV F rfl rfl fun a F=>oV F rfl rfl fun a F=>oV F rfl rfl fun a F=>oV F rfl rfl fun a F=>oV F rfl rfl fun a F=>oV F rfl rfl fun a F=>oV F rfl rfl fun a F=>oV F rfl rfl (fun a F=>?_);refine oV F rfl rfl fun a F=>bH F rfl rfl rfl fun a F=>aF fun w H=>xH ?_;exact⟨true,(kQ d),F.su,H⟩
  replace d:=zV V d;have F:=F.eb 24 rfl V;refine oM F rfl rfl fun a F=>qN F rfl rfl f fun a F=>qF (s':=1) gR F rfl rfl f qS.f1 fun a p1 h1 F=>qlI xN F rfl rfl H.q h1 fun a df F=>oM F rfl rfl fun a F=>eC F rfl rfl fun a F=>zH F rfl (fun w l=>oD xOt F rfl rfl) fun a F=>qB isAgg63 F rfl rfl (H.qb 0 rfl) rfl fun a F=>qN F rfl rfl a6 fun a F=>qF (s':=1) gP F rfl rfl a6 xO.f0 fun a p2 h2 F=>qlI xN F rfl rfl H.q h2 (fun a i2 F=>?_);refine zH F rfl (fun w l=>xLx F rfl rfl) fun a F=>cG F rfl rfl rfl fun a F=>aF fun w H=>xH ?_;exact⟨(decide (a7.vars≤e.var)),(kQ d),F.su,H⟩
 rintro a w ⟨s1,rfl,F,H⟩
 have d:=oJ be;refine xH (vK F rfl (fun a9=>?_) (fun a9=>?_))
 ·
  replace d:=zW a9 d;refine xX (xA 1 F rfl fun a F=>xJ (xP (qH (xR F rfl (xZ F rfl) ?_))));obtain rfl:=oj d;exact⟨_,rfl,j,rfl,H⟩
 replace d:=zV a9 d;refine xT (xH (xX (xA 1 F rfl fun a F=>zB F rfl rfl fun a F=>oQ rN F rfl rfl rfl fun a F=>oB iH F rfl rfl (H.b 0 rfl) rfl fun a F=>xA 1 F rfl fun a F=>?_)));obtain⟨z2,c2,d⟩:=xB d;refine gY F rfl rfl rfl c2 (fun a F=>?_);obtain⟨Q,K,d⟩:=xB d;refine oRl bL lF F rfl rfl rfl H 1 rfl K (fun a p3 h3 bf F=>?_);obtain⟨g1,dg,c4,M,rfl⟩:=bf;obtain⟨W,hl49,H⟩:=Sep.focL (H.s [1,0] rfl rfl) (aN K);refine xA 1 F rfl fun a F=>xJ (xG ?_);obtain⟨z4,D,d⟩:=xB d;refine lU H fun w H=>qV 0 rfl (qO F rfl rfl fun a F=>qJ 1 rfl (kK F rfl rfl fun a F=>qJ 2 rfl (qT F rfl (fun w l=>oD wV F rfl rfl) fun a F=>qV 4 rfl (qO F rfl rfl fun a F=>qJ 5 rfl (vN F rfl rfl f (fun a F=>?_))))));refine qJ 6 rfl (vF (s':=1) gR F rfl rfl f qS.f1 fun a p4 h4 F=>qJ 7 rfl (vlI xN F rfl rfl H.v h4 fun a i3 F=>kT H 3 rfl (oLH zD F rfl rfl H 1 rfl M (lz hl49) fun a F=>xJ ⟨⟨_,H⟩,?_⟩)));refine kT H 8 rfl (oRo xK xU F rfl rfl rfl H 0 rfl D fun a dh h5 bg F=>xJ ⟨⟨_,H⟩,?_⟩);refine kT H 9 rfl (xQr qE F rfl rfl H bg (aN D) fun a au H F=>xJ ⟨⟨_,H⟩,?_⟩);refine qV 10 rfl (kA F rfl rfl fun a F=>zN (xH (xG (xX (xA 1 F rfl fun a F=>oN F rfl rfl f fun a F=>oF (s':=1) sR F rfl rfl f qS.f0 fun a p5 h6 F=>olI xN F rfl rfl H.sm h6 (fun a i4 F=>?_))))));refine xJ (qM (xX (xA 2 F rfl fun a F=>xJ (vK F rfl (fun aa=>?_) (fun aa=>?_)))))
 ·
  replace d:=zW aa d;refine xG (xG ?_);obtain⟨o2,d,bh⟩:=xV d;refine qG (fun a w=>∃ (s2:Bool),o2= .nx s2∧Sk a 197 [(0,vA n),(1,v1),(6,(.pointer (some ⟨g1,(z2).toNat*3,none⟩))),(116,.bool s2)]∧Sep P B t w [okn (sz:=1) (R:=xM) W Q.domains (e.var).toNat au,rl 3 RLH 90 j ((C.map .inl).set (z2).toNat (.inr (W,Q.chosen))),bx n [E,I,j] 86]) ?_ ?_
  ·
   refine oO (xA 2 F rfl fun a F=>oN F rfl rfl f fun a F=>oF (s':=1) mN F rfl rfl f qS.f2 fun a p6 h7 F=>olI xN F rfl rfl H.sm h7 (fun a i5 F=>?_));obtain⟨z5,c6,d⟩:=xB d;refine oK F rfl call102 rfl H (rI z5 c6 _ aA (H.oce 0 rfl (aN D)) i5) fun a w H F=>xA 2 F rfl fun a F=>?_
   rcases zC (!z5) with X | X
   ·
    replace d:=zW X d;have F:=F.eb 112 rfl X;refine xA 4 F rfl fun a F=>xJ ?_;exact⟨true,(kQ d),F.su,H⟩
   replace d:=zV X d;have F:=F.eb 112 rfl X;refine xA 1 F rfl fun a F=>oL xC F rfl rfl (H.oce 0 rfl (aN D)) fun a i6 F=>xA 2 F rfl fun a F=>xJ ?_;exact⟨(decide ((z4.length:Int)<2)),(kQ d),F.su,H⟩
  rintro a w ⟨s2,rfl,F,H⟩
  have d:=oJ bh;refine xH (vK F rfl (fun ab=>?_) (fun ab=>?_))
  ·
   replace d:=zW ab d;refine xG ?_;have H:=H.ocw;have H:=Sep.unfocL0 hl49 (aN K) H;refine oO (xA 1 F rfl fun a F=>xJ (xP (qH (zZ (qH (xR F rfl (xZ F rfl) ?_))))));obtain rfl:=oj d;exact⟨_,rfl,j,rfl,(H.s [1,0] rfl rfl)⟩
  replace d:=zV ab d;refine xT (xH (xX (xA 1 F rfl fun a F=>zB F rfl rfl fun a F=>oQ wV F rfl rfl rfl fun a F=>oLH zD F rfl rfl H 1 rfl M (lz hl49) (fun a F=>?_))));obtain⟨z6,c7,d⟩:=xB d;refine oG F rfl call103 rfl (rZ z6 c7 _ aA (H.ocr 0 rfl)) (fun a p w ⟨T,di,S⟩ F=>?_);subst p;have H:=H.r1 S n0;refine xA 1 F rfl fun a F=>xJ (xG ?_);have H:=(H.s [1,0,2,3] rfl rfl).ocw;have H:=Sep.unfocL0 hl49 (aN K) (H.s [0,2,1,3] rfl rfl);obtain⟨z7,c8,d⟩:=xB d;refine lU H fun w H=>qV 0 rfl (qO F rfl rfl fun a F=>qV 1 rfl (qO F rfl rfl fun a F=>qJ 2 rfl (vN F rfl rfl f fun a F=>qJ 3 rfl (vF (s':=1) gR F rfl rfl f qS.f1 fun a p7 h8 F=>qJ 4 rfl (vlI xN F rfl rfl H.v h8 (fun a i7 F=>?_))))));refine qV 5 rfl (qO F rfl rfl fun a F=>qJ 6 rfl (vN F rfl rfl f fun a F=>qJ 7 rfl (vF (s':=1) mN F rfl rfl f qS.f2 fun a p8 h9 F=>qJ 8 rfl (vlI xN F rfl rfl H.v h9 fun a i8 F=>kT H 9 rfl (iN (R:=xM) (y:=e.value) xC xI qQ rfl rfl F rfl rfl H (Eo.int i8) fun a w v3 H F=>vP ?_)))));refine xH ⟨⟨_,H⟩,?_⟩;refine kT H 10 rfl (oRl xK xU F rfl rfl rfl H 2 rfl c8 fun a p9 dj bi F=>xJ ⟨⟨_,H⟩,?_⟩);refine kT H 11 rfl (oSl xU F rfl rfl rfl (H.s [2,0,1,3] rfl rfl) bi (gX c8) rfl fun w H=>xJ ⟨⟨_,H⟩,?_⟩);refine zN (xH ?_);obtain⟨z8,c9,d⟩:=xB d;refine lU H fun w H=>dp (fun G=>∀ (v4:Value) (a:Act) (w:World),Sk a 197 [(0,vA n),(133,vA n),(137,j),(149,v4)]→Sep P B t w [rl 3 vM 90 v4 ([(l08Level.mk (z6.set (e.var).toNat ([e.value])) (Literal.mk e.var e.value))]),rl 3 vM 90 j C,bx n [E,I,j] 86]→∀ A,A = #[true,true,true,true,true,true,true,true,true,true,true,true,true,true,true,true,true,false,false,false,false]→G 4 A a w) ?_ (fun H1=>?_)
  ·
   intro v4 a w F H A Y;subst Y;refine kT H 17 rfl (oPL (sz:=3) (R:=vM) (z:=(.agg #[vH,xF 0,xF 0])) (bytes:=40) bL (by kernel_rfl) rfl rfl F rfl rfl rfl (H.s [1,0,2] rfl rfl) c9 fun a w v5 H F=>xJ ⟨⟨_,H⟩,?_⟩);refine qJ 18 rfl (kK F rfl rfl fun a F=>qJ 19 rfl (qT F rfl (fun w l=>oD rN F rfl rfl) fun a F=>kT H 20 rfl (oW sizeOf84 F rfl rfl rfl (H.s [1,0] rfl rfl) ((H.s [1,0] rfl rfl).l 1 rfl).one rfl rfl fun w H=>xJ ⟨⟨_,H⟩,?_⟩)));refine zN (zG (xH (xX (xA 1 F rfl fun a F=>xJ (xP (xR F rfl (xZ F rfl) ?_))))));obtain rfl:=oj d;exact⟨_,rfl,v5,rfl,H⟩
  refine dp (fun G=>∀ (a:Act) (w:World),Sk a 197 [(0,vA n),(133,vA n),(137,j),(148,(.agg #[T,xF e.var,xF e.value]))]→Sep P B t w [rl 1 (vS 1 xM) 46 T (z6.set (e.var).toNat ([e.value])),rl 3 vM 90 j C,bx n [E,I,j] 86]→xS e.var→xS e.value→∀ A,A = #[true,true,true,true,true,true,true,true,true,true,true,true,true,true,true,true,false,false,false,false,false]→G 5 A a w) ?_ (fun H2=>?_)
  ·
   intro a w F H i9 bj A Y;subst Y;refine kT H 16 rfl ?_;have H:=(vM.w i9 bj H);refine gB (R:=vM) (y:=(l08Level.mk (z6.set (e.var).toNat ([e.value])) (Literal.mk e.var e.value))) bL lF iF rfl rfl F rfl rfl H El.agg fun a w v6 H F=>xJ ⟨⟨_,H⟩,?_⟩;exact H1 v6 _ _ (F.su) H _ (by kernel_rfl)
  refine qV 0 rfl (qO F rfl rfl fun a F=>qV 1 rfl (qO F rfl rfl fun a F=>qJ 2 rfl (kK F rfl rfl fun a F=>qJ 3 rfl (qT F rfl (fun w l=>oD rN F rfl rfl) fun a F=>qV 5 rfl (qO F rfl rfl fun a F=>qV 6 rfl ?_)))));refine qO F rfl rfl fun a F=>qJ 7 rfl (vN F rfl rfl f fun a F=>qJ 8 rfl (vF (s':=1) gR F rfl rfl f qS.f1 fun a dk bm F=>qJ 9 rfl (vlI xN F rfl rfl H.v bm fun a ac F=>qV 10 rfl (qO F rfl rfl fun a F=>qJ 11 rfl (vN F rfl rfl f (fun a F=>?_))))));refine qJ 12 rfl (vF (s':=1) mN F rfl rfl f qS.f2 fun a dl bn F=>qJ 13 rfl (vlI xN F rfl rfl H.v bn fun a ad F=>qJ 14 rfl (qT F rfl (fun w l=>pF pV kP (fun w=>by simp [xI];rfl) F rfl rfl rfl rfl (oc rfl (oc rfl on)) rfl rfl) fun a F=>aT [4,15] (by kernel_rfl) (by simp) ⟨⟨_,rfl,?_⟩,⟨_,rfl,?_⟩,trivial⟩)))
  ·
   refine aM H (oB iH F rfl rfl (H.b 2 rfl) rfl fun a F=>xJ ⟨⟨_,H⟩,?_⟩);refine kT H 15 rfl (uA (cs:=#[T,xF e.var,xF e.value]) (qs:=[(0,[T]),(1,[xF e.var,xF e.value])]) pQ iF (fun w=>by simp [kF,kR];rfl) F rfl rfl rfl rfl rfl ⟨(jM (H.l 0 rfl).one),rfl,Nat.le_of_ble_eq_true rfl,⟨rfl,rfl,Nat.le_of_ble_eq_true rfl,trivial⟩⟩ rfl fun a F=>xJ ⟨⟨_,H⟩,?_⟩);exact H2 _ _ (F.su) H ac ad _ (by kernel_rfl)
  refine aM H (uA (cs:=#[T,xF e.var,xF e.value]) (qs:=[(0,[T]),(1,[xF e.var,xF e.value])]) pQ iF (fun w=>by simp [kF,kR];rfl) F rfl rfl rfl rfl rfl ⟨(jM (H.l 0 rfl).one),rfl,Nat.le_of_ble_eq_true rfl,⟨rfl,rfl,Nat.le_of_ble_eq_true rfl,trivial⟩⟩ rfl fun a F=>xJ ⟨⟨_,H⟩,?_⟩);refine aT [4,16] (by kernel_rfl) (by simp) ⟨⟨_,rfl,?_⟩,⟨_,rfl,?_⟩,trivial⟩
  ·
   refine aM H (oB iH F rfl rfl (H.b 2 rfl) rfl fun a F=>xJ ⟨⟨_,H⟩,?_⟩);exact H2 _ _ (F.su) H ac ad _ (by kernel_rfl)
  refine aM H ?_;have H:=(vM.w ac ad H);refine gB (R:=vM) (y:=(l08Level.mk (z6.set (e.var).toNat ([e.value])) (Literal.mk e.var e.value))) bL lF iF rfl rfl F rfl rfl H El.agg fun a w v7 H F=>xJ ⟨⟨_,H⟩,?_⟩;refine kT H 4 rfl (oB iH F rfl rfl (H.b 2 rfl) rfl fun a F=>xJ ⟨⟨_,H⟩,?_⟩);exact H1 v7 _ _ (F.su) H _ (by kernel_rfl)
 replace d:=zV aa d;refine xX (xA 2 F rfl fun a F=>xJ (vK F rfl (fun ae=>?_) (fun ae=>?_)))
 ·
  replace d:=zW ae d;refine xG (lU H fun w H=>qV 0 rfl (qO F rfl rfl fun a F=>qJ 1 rfl (vN F rfl rfl f fun a F=>qJ 2 rfl (vF (s':=1) gR F rfl rfl f qS.f1 fun a dm bp F=>qJ 3 rfl (vlI xN F rfl rfl H.v bp fun a bq F=>qV 4 rfl ?_)))));refine qO F rfl rfl fun a F=>qJ 5 rfl (vN F rfl rfl f fun a F=>qJ 6 rfl (vF (s':=1) mN F rfl rfl f qS.f2 fun a dq br F=>qJ 7 rfl (vlI xN F rfl rfl H.v br fun a bt F=>qV 8 rfl (qO F rfl rfl fun a F=>qJ 9 rfl (vN F rfl rfl f (fun a F=>?_))))));refine qJ 10 rfl (vF (s':=1) tV F rfl rfl f qS.f3 fun a dr bu F=>qJ 11 rfl (vlI xN F rfl rfl H.v bu fun a bv F=>qJ 12 rfl (qT F rfl (fun w l=>pF nS iQ (fun w=>by simp [xI];rfl) F rfl rfl rfl rfl (oc rfl (oc rfl (oc rfl on))) rfl rfl) fun a F=>kT H 13 rfl (oA iQ F rfl rfl H fun a w b1 H F=>xJ ⟨⟨_,H⟩,?_⟩))));refine kT H 14 rfl (gN (vs:=[xF e.var,xF e.value,xF e.con]) lL F rfl rfl rfl H (oc rfl (oc rfl (oc rfl on))) rfl rfl fun w H=>xJ ⟨⟨_,H⟩,?_⟩);refine zN (xH (xG (xG ?_)));obtain⟨z9,c0,d⟩:=xB d;obtain⟨w1,rfl⟩:∃ x,x=w:=⟨_,rfl⟩;have aw:=H.sm;obtain⟨X1,N1,g2,e1,H,a5,ds⟩:=(H.s [3,0,1,2] rfl rfl).fza;have K1:=g2.bk;refine lU H fun w H=>qV 0 rfl (qO F rfl rfl fun a F=>qJ 1 rfl (kK F rfl rfl fun a F=>qJ 2 rfl (qT F rfl (fun w l=>oD xVg F rfl rfl) fun a F=>qJ 3 rfl (vB isAgg62 F rfl rfl (K1.v H.sm) rfl fun a F=>qV 4 rfl (qO F rfl rfl (fun a F=>?_))))));refine qJ 5 rfl (kK F rfl rfl fun a F=>qJ 6 rfl (qT F rfl (fun w l=>oD xOt F rfl rfl) fun a F=>qJ 7 rfl (vB isAgg63 F rfl rfl (K1.v H.sm) rfl fun a F=>qV 8 rfl (qO F rfl rfl fun a F=>qJ 9 rfl (kK F rfl rfl fun a F=>qJ 10 rfl ?_)))));refine qT F rfl (fun w l=>oD wV F rfl rfl) fun a F=>kT H 11 rfl (oLH zD F rfl rfl H 2 rfl M (lz hl49) fun a F=>xJ ⟨⟨_,H⟩,?_⟩);refine kT H 12 rfl (oK F rfl call104 rfl H (xCa z9 c0 _ aA (H.a (e1 b9)) (H.a (e1 a6)) (H.ocr 1 rfl) (qR.b (H.g 0 rfl).bk bq bt bv)) fun a w H F=>xJ ⟨⟨_,H⟩,?_⟩);refine qV 13 rfl (qT F rfl (fun w l=>xLl F rfl) fun a F=>zN (xH (vK F rfl (fun af=>?_) (fun af=>?_))))
  ·
   replace d:=zW af d;refine xG ?_;have H:=(H.s [1,0,2] rfl rfl).ocw;have H:=Sep.unfocL0 hl49 (aN K) (H.s [0,2,1] rfl rfl);refine oO (xA 1 F rfl fun a F=>xJ (xP (qH (zZ (qH ?_)))));have H:=(a5.1 H (Ns.all ⟨n0,⟨n0,trivial⟩⟩));refine xR F rfl (xZ F rfl) ?_;obtain rfl:=oj d;exact⟨_,rfl,j,rfl,(H.s [0,1] rfl rfl)⟩
  replace d:=zV af d;refine xT (xH ?_);obtain⟨ag,ax,d⟩:=xB d;refine lU H fun w H=>dp (fun G=>∀ (v8:Value) (a:Act) (w:World),Sk a 197 [(0,vA n),(185,W),(189,xF e.var),(195,v8)]→Sep X1 N1 w1 w [rl 1 xM 2 v8 ag,okn (sz:=1) (R:=xM) W Q.domains (e.var).toNat au,rl 3 RLH 90 j ((C.map .inl).set (z2).toNat (.inr (W,Q.chosen)))]→xS e.var→∀ A,A = #[true,true,true,true,true,true,true,true,true,true,true,true,true,true,false,false]→G 2 A a w) ?_ (fun H3=>?_)
  ·
   intro v8 a w F H du A Y;subst Y;refine kT H 14 rfl ?_;have H:=(H.s [1,0,2] rfl rfl).ocw;refine oRo xK xU F rfl rfl rfl H 0 rfl D fun a dw dx rp4 F=>xJ ⟨⟨_,H⟩,?_⟩;refine kT H 15 rfl (xIm xU F rfl rfl rfl H rp4 (gX D) rfl fun w H=>xJ ⟨⟨_,H⟩,?_⟩);refine zN (zG (xH (xG ?_)));have H:=Sep.unfocL hl49 H;refine oO (xA 1 F rfl fun a F=>xJ (xP ?_));have H:=(a5.1 H (Ns.all ⟨n0,trivial⟩));refine xR F rfl (xZ F rfl) ?_;obtain rfl:=oj d;exact⟨_,rfl,j,rfl,H⟩
  refine qV 0 rfl (qO F rfl rfl fun a F=>qJ 1 rfl (kK F rfl rfl fun a F=>qJ 2 rfl (qT F rfl (fun w l=>oD wV F rfl rfl) fun a F=>qV 4 rfl (qO F rfl rfl fun a F=>qJ 5 rfl (vN F rfl rfl f fun a F=>qJ 6 rfl ?_)))));refine vF (s':=1) gR F rfl rfl f qS.f1 fun a dy h17 F=>qJ 7 rfl (vlI xN F rfl rfl (fun w l=>(aw.trans (Sm.mono (H.v w l) a5.2.2))) h17 fun a ay F=>qV 8 rfl (qO F rfl rfl fun a F=>qV 9 rfl (qO F rfl rfl fun a F=>qJ 10 rfl (vN F rfl rfl f fun a F=>qJ 11 rfl (vF (s':=1) mN F rfl rfl f qS.f2 (fun a dz c3 F=>?_))))));refine qJ 12 rfl (vlI xN F rfl rfl (fun w l=>(aw.trans (Sm.mono (H.v w l) a5.2.2))) c3 fun a az F=>aT [3,13] (by kernel_rfl) (by simp) ⟨⟨_,rfl,?_⟩,⟨_,rfl,?_⟩,trivial⟩)
  ·
   refine aM H (oLH zD F rfl rfl H 2 rfl M (lz hl49) fun a F=>xJ ⟨⟨_,H⟩,?_⟩);refine kT H 13 rfl (oG F rfl jO rfl (bF ag ax _ aA (H.oce 1 rfl (aN D)) az) (fun a p w ⟨v9,e0,S⟩ F=>?_));subst p;have H:=H.r1 S n0;refine xJ ⟨⟨_,H⟩,?_⟩;exact H3 v9 _ _ (F.su) (H.s [0,2,3] rfl rfl) ay _ (by kernel_rfl)
  refine aM H (oG F rfl jO rfl (bF ag ax _ aA (H.oce 1 rfl (aN D)) az) (fun a p w ⟨v10,hv4,S⟩ F=>?_));subst p;have H:=H.r1 S n0;refine xJ ⟨⟨_,H⟩,?_⟩;refine kT H 3 rfl (oLH zD F rfl rfl H 3 rfl M (lz hl49) fun a F=>xJ ⟨⟨_,H⟩,?_⟩);exact H3 v10 _ _ (F.su) (H.s [0,2,3] rfl rfl) ay _ (by kernel_rfl)
 replace d:=zV ae d;refine xG (xX (xA 1 F rfl fun a F=>oL xC F rfl rfl (H.oce 0 rfl (aN D)) fun a i20 F=>xA 1 F rfl fun a F=>xJ (vK F rfl (fun ah=>?_) (fun ah=>?_))))
 ·
  replace d:=zW ah d;refine xG ?_;have H:=H.ocw;have H:=Sep.unfocL0 hl49 (aN K) H;refine oO (xA 1 F rfl fun a F=>xJ (xP (qH (zZ (qH (xR F rfl (xZ F rfl) ?_))))));obtain rfl:=oj d;exact⟨_,rfl,j,rfl,(H.s [1,0] rfl rfl)⟩
 replace d:=zV ah d;refine xT (xH (xX (xA 1 F rfl fun a F=>zB F rfl rfl fun a F=>oQ xUf F rfl rfl rfl fun a F=>oLHc isAgg88 kR F rfl rfl H 1 rfl M (lz hl49) fun a e3 Z F=>oA kP F rfl rfl H fun a w b2 H F=>gN (vs:=[xF Q.chosen.var,xF Q.chosen.value]) kR F rfl rfl rfl H (oc rfl (oc rfl on)) rfl rfl fun w H=>vP ?_)));refine xH (xG ?_);have H:=(H.s [1,0,2,3] rfl rfl).ocw;have H:=Sep.unfocL0 hl49 (aN K) (H.s [0,2,1,3] rfl rfl);refine oO (xA 2 F rfl fun a F=>zB F rfl rfl fun a F=>oQ rN F rfl rfl rfl fun a F=>oB iH F rfl rfl (H.b 2 rfl) rfl fun a F=>xA 1 F rfl fun a F=>gY F rfl rfl rfl c2 (fun a F=>?_));obtain⟨e4,c5,d⟩:=xB d;refine oTl bL lF F rfl rfl rfl H c5 fun a O H F=>zB F rfl rfl fun a F=>oQ rN F rfl rfl rfl fun a F=>oW sizeOf84 F rfl rfl rfl (H.s [2,0,1] rfl rfl) ((H.s [2,0,1] rfl rfl).l 1 rfl).one rfl rfl fun w H=>zR (xA 2 F rfl fun a F=>vP ?_);refine xH (vK F rfl (fun a8=>?_) (fun a8=>?_))
 ·
  replace d:=zW a8 d;refine xX (xA 1 F rfl fun a F=>zB F rfl rfl fun a F=>oQ rN F rfl rfl rfl fun a F=>oB iH F rfl rfl (H.b 0 rfl) rfl fun a F=>xA 1 F rfl fun a F=>?_);obtain⟨e5,c13,d⟩:=xB d;refine gY F rfl rfl rfl c13 (fun a F=>?_);obtain⟨e6,b0,d⟩:=xB d;refine oRl bL lF F rfl rfl rfl H 1 rfl b0 (fun a e7 e8 rp5 F=>?_);obtain⟨g3,d8,e9,J,rfl⟩:=rp5;obtain⟨d9,hl255,H⟩:=Sep.focL (H.s [1,0,2] rfl rfl) (aN b0);refine xA 1 F rfl fun a F=>xJ ?_;obtain⟨ea,i,d⟩:=xB d;obtain⟨a0,a1,d⟩:=xB d;obtain⟨w2,rfl⟩:∃ x,x=w:=⟨_,rfl⟩;have ec:=H.sm;obtain⟨X2,N2,g4,e2,H,a2,ed⟩:=(H.s [3,0,1,2] rfl rfl).fza;have K2:=g4.bk;refine lU H fun w H=>qV 0 rfl (qO F rfl rfl fun a F=>qJ 1 rfl (kK F rfl rfl fun a F=>qJ 2 rfl (qT F rfl (fun w l=>oD wV F rfl rfl) fun a F=>qJ 4 rfl (qT F rfl (fun w l=>oD xHm F rfl rfl) fun a F=>qJ 5 rfl (vB xN F rfl rfl (K2.v H.sm) rfl (fun a F=>?_))))));refine qV 6 rfl (qO F rfl rfl fun a F=>qJ 7 rfl (kK F rfl rfl fun a F=>qJ 8 rfl (qT F rfl (fun w l=>oD wV F rfl rfl) fun a F=>qJ 10 rfl (qT F rfl (fun w l=>oD xHm F rfl rfl) fun a F=>qJ 11 rfl (vB xN F rfl rfl (K2.v H.sm) rfl fun a F=>qJ 14 rfl ?_)))));refine qT F rfl (fun w l=>oD xPb F rfl rfl) fun a F=>qJ 15 rfl (vB xN F rfl rfl (K2.v H.sm) rfl fun a F=>aT [3,9] (by kernel_rfl) (by simp) ⟨⟨_,rfl,?_⟩,⟨_,rfl,?_⟩,trivial⟩)
  ·
   refine aM H (oLH zD F rfl rfl H 1 rfl J (lz hl255) fun a F=>xJ ⟨⟨_,H⟩,?_⟩);refine kT H 9 rfl (oLH zD F rfl rfl H 1 rfl J (lz hl255) fun a F=>xJ ⟨⟨_,H⟩,?_⟩);refine kT H 12 rfl (oRo xK xU F rfl rfl rfl H 0 rfl i fun a ee ef rp6 F=>xJ ⟨⟨_,H⟩,?_⟩);refine kT H 13 rfl (xQr qE F rfl rfl H rp6 (aN i) fun a da H F=>xJ ⟨⟨_,H⟩,?_⟩);refine kT H 16 rfl (oG F rfl jO rfl (bF a0 a1 _ aA (H.oce 0 rfl (aN i)) Z) (fun a p w ⟨eg,eh,S⟩ F=>?_));subst p;have H:=H.r1 S n0;refine xJ ⟨⟨_,H⟩,?_⟩;refine kT H 17 rfl ?_;have H:=(H.s [1,0,2,3] rfl rfl).ocw;refine oRo xK xU F rfl rfl rfl H 0 rfl i fun a ei ej rp7 F=>xJ ⟨⟨_,H⟩,?_⟩;refine kT H 18 rfl (xIm xU F rfl rfl rfl H rp7 (gX i) rfl fun w H=>xJ ⟨⟨_,H⟩,?_⟩);refine zN (zG (xH (xG ?_)));have H:=Sep.unfocL hl255 H;refine oO (xA 1 F rfl fun a F=>xJ (xP ?_));have H:=(a2.1 H (Ns.all ⟨n0,⟨n0,trivial⟩⟩));refine xR F rfl (xZ F rfl) ?_;obtain rfl:=oj d;exact⟨_,rfl,O,rfl,(H.s [2,1] rfl rfl)⟩
  refine aM H (oLH zD F rfl rfl H 1 rfl J (lz hl255) fun a F=>xJ ⟨⟨_,H⟩,?_⟩);refine aT [3,12] (by kernel_rfl) (by simp) ⟨⟨_,rfl,?_⟩,⟨_,rfl,?_⟩,trivial⟩
  ·
   refine aM H (oLH zD F rfl rfl H 1 rfl J (lz hl255) fun a F=>xJ ⟨⟨_,H⟩,?_⟩);refine kT H 12 rfl (oRo xK xU F rfl rfl rfl H 0 rfl i fun a ek el ca F=>xJ ⟨⟨_,H⟩,?_⟩);refine kT H 13 rfl (xQr qE F rfl rfl H ca (aN i) fun a db H F=>xJ ⟨⟨_,H⟩,?_⟩);refine kT H 16 rfl (oG F rfl jO rfl (bF a0 a1 _ aA (H.oce 0 rfl (aN i)) Z) (fun a p w ⟨em,en,S⟩ F=>?_));subst p;have H:=H.r1 S n0;refine xJ ⟨⟨_,H⟩,?_⟩;refine kT H 17 rfl ?_;have H:=(H.s [1,0,2,3] rfl rfl).ocw;refine oRo xK xU F rfl rfl rfl H 0 rfl i fun a eo ep cb F=>xJ ⟨⟨_,H⟩,?_⟩;refine kT H 18 rfl (xIm xU F rfl rfl rfl H cb (gX i) rfl fun w H=>xJ ⟨⟨_,H⟩,?_⟩);refine zN (zG (xH (xG ?_)));have H:=Sep.unfocL hl255 H;refine oO (xA 1 F rfl fun a F=>xJ (xP ?_));have H:=(a2.1 H (Ns.all ⟨n0,⟨n0,trivial⟩⟩));refine xR F rfl (xZ F rfl) ?_;obtain rfl:=oj d;exact⟨_,rfl,O,rfl,(H.s [2,1] rfl rfl)⟩
  refine aM H (oRo xK xU F rfl rfl rfl H 0 rfl i fun a er es aq F=>xJ ⟨⟨_,H⟩,?_⟩);refine aT [3,13] (by kernel_rfl) (by simp) ⟨⟨_,rfl,?_⟩,⟨_,rfl,?_⟩,trivial⟩
  ·
   refine aM H (oLH zD F rfl rfl H 1 rfl J (lz hl255) fun a F=>xJ ⟨⟨_,H⟩,?_⟩);refine kT H 13 rfl (xQr qE F rfl rfl H aq (aN i) fun a dc H F=>xJ ⟨⟨_,H⟩,?_⟩);refine kT H 16 rfl (oG F rfl jO rfl (bF a0 a1 _ aA (H.oce 0 rfl (aN i)) Z) (fun a p w ⟨et,eu,S⟩ F=>?_));subst p;have H:=H.r1 S n0;refine xJ ⟨⟨_,H⟩,?_⟩;refine kT H 17 rfl ?_;have H:=(H.s [1,0,2,3] rfl rfl).ocw;refine oRo xK xU F rfl rfl rfl H 0 rfl i fun a ew ex ba F=>xJ ⟨⟨_,H⟩,?_⟩;refine kT H 18 rfl (xIm xU F rfl rfl rfl H ba (gX i) rfl fun w H=>xJ ⟨⟨_,H⟩,?_⟩);refine zN (zG (xH (xG ?_)));have H:=Sep.unfocL hl255 H;refine oO (xA 1 F rfl fun a F=>xJ (xP ?_));have H:=(a2.1 H (Ns.all ⟨n0,⟨n0,trivial⟩⟩));refine xR F rfl (xZ F rfl) ?_;obtain rfl:=oj d;exact⟨_,rfl,O,rfl,(H.s [2,1] rfl rfl)⟩
  refine aM H (xQr qE F rfl rfl H aq (aN i) fun a dd H F=>xJ ⟨⟨_,H⟩,?_⟩);refine aT [3,16] (by kernel_rfl) (by simp) ⟨⟨_,rfl,?_⟩,⟨_,rfl,?_⟩,trivial⟩
  ·
   refine aM H (oLH zD F rfl rfl H 1 rfl J (lz hl255) fun a F=>xJ ⟨⟨_,H⟩,?_⟩);refine kT H 16 rfl (oG F rfl jO rfl (bF a0 a1 _ aA (H.oce 0 rfl (aN i)) Z) (fun a p w ⟨ey,ez,S⟩ F=>?_));subst p;have H:=H.r1 S n0;refine xJ ⟨⟨_,H⟩,?_⟩;refine kT H 17 rfl ?_;have H:=(H.s [1,0,2,3] rfl rfl).ocw;refine oRo xK xU F rfl rfl rfl H 0 rfl i fun a f4 f5 bb F=>xJ ⟨⟨_,H⟩,?_⟩;refine kT H 18 rfl (xIm xU F rfl rfl rfl H bb (gX i) rfl fun w H=>xJ ⟨⟨_,H⟩,?_⟩);refine zN (zG (xH (xG ?_)));have H:=Sep.unfocL hl255 H;refine oO (xA 1 F rfl fun a F=>xJ (xP ?_));have H:=(a2.1 H (Ns.all ⟨n0,⟨n0,trivial⟩⟩));refine xR F rfl (xZ F rfl) ?_;obtain rfl:=oj d;exact⟨_,rfl,O,rfl,(H.s [2,1] rfl rfl)⟩
  refine aM H (oG F rfl jO rfl (bF a0 a1 _ aA (H.oce 0 rfl (aN i)) Z) (fun a p w ⟨f6,de,S⟩ F=>?_));subst p;have H:=H.r1 S n0;refine xJ ⟨⟨_,H⟩,?_⟩;refine kT H 3 rfl (oLH zD F rfl rfl H 2 rfl J (lz hl255) fun a F=>xJ ⟨⟨_,H⟩,?_⟩);refine kT H 17 rfl ?_;have H:=(H.s [1,0,2,3] rfl rfl).ocw;refine oRo xK xU F rfl rfl rfl H 0 rfl i fun a f7 f8 bc F=>xJ ⟨⟨_,H⟩,?_⟩;refine kT H 18 rfl (xIm xU F rfl rfl rfl H bc (gX i) rfl fun w H=>xJ ⟨⟨_,H⟩,?_⟩);refine zN (zG (xH (xG ?_)));have H:=Sep.unfocL hl255 H;refine oO (xA 1 F rfl fun a F=>xJ (xP ?_));have H:=(a2.1 H (Ns.all ⟨n0,⟨n0,trivial⟩⟩));refine xR F rfl (xZ F rfl) ?_;obtain rfl:=oj d;exact⟨_,rfl,O,rfl,(H.s [2,1] rfl rfl)⟩
 replace d:=zV a8 d;refine xT (zG (xH (xX (xA 1 F rfl fun a F=>xJ (xP (xR F rfl (xZ F rfl) ?_))))));obtain rfl:=oj d;exact⟨_,rfl,O,rfl,(H.s [0,1] rfl rfl)⟩
def jJ (N:Nat) (e:Template) (f:Instance) (h:List Line):Option ((Template×Instance×(List l08Level))×Int):=
 xY (nA e f) fun c=>
 kY (σ:=(List l08Level)) (
  qW (σ:=(List l08Level)) (ρ:=(Template×Instance×(List l08Level))×Int) (fun (i:Nat) (j:Line) (n:(List l08Level))=>
   xY (cK N c.1 c.2.1 n j) fun d=>
   if (!d.1) then
    some (.ret ((c.1,c.2.1,d.2),(i:Int)))
   else
    some (.go d.2)) h 0 c.2.2) fun p=>
 some ((c.1,c.2.1,p),(-1))
theorem uK {B:Nat→Prop} {N:Nat} {x0:Template} {x1:Instance} {n:List Line} (r:(Template×Instance×(List l08Level))×Int) (d:jJ N x0 x1 n=some r) {M:Value} {O:Value} {E:Value} (e:World) (hN:∀ c,B c→c<e.heap.size) (A0:Bo B e (Pt 2 xL) M x0) (A1:Bo B e (Pt 2 xO) O x1) (P:Bo B e (Sl 4 qS) E n):Calls Tryz.prog 32 #[M,O,E] e (Gv (fun v w'=>∃ (U:Nat) (V W X:Value),v= .tuple #[vA U,xF r.2]∧Sep [] B e w' [bx U [V,W,X] 86,rl 3 vM 90 X r.1.2.2]∧Bo B e (Pt 2 xL) V r.1.1∧Bo B e (Pt 2 xO) W r.1.2.1∧xS r.2)):=by
 unfold jJ at d
 refine xW (L:=[(0,M),(1,O),(2,E)]) func32 rfl rfl rfl (sc rfl (sc rfl (sc rfl sn))) (fun a F=>?_);have H:=Sep.start hN;refine xX (xA 2 F rfl fun a F=>zR (xA 2 F rfl fun a F=>?_));obtain⟨z1,c1,d⟩:=xB d;refine oG F rfl call67 rfl (xBq z1 c1 _ H.hN (H.u A0) (H.u A1)) (fun a Q w ⟨h,p,j,v4,ak,S,A,C⟩ F=>?_);subst Q;have A:=H.dn A;have C:=H.dn C;have H:=H.rk S ⟨n0,⟨n0,trivial⟩⟩ rfl;refine xA 1 F rfl fun a F=>xJ (xG (xX (xA 1 F rfl fun a F=>xJ ?_)));obtain⟨o1,d,Y⟩:=xV d;refine qG (fun a w=>∃ (R:List l08Level) (G:Value),o1= .nx R∧Sk a 28 [(8,vA h)]∧Sep [] B e w [bx h [p,j,G] 86,rl 3 vM 90 G R]) ?_ ?_
 ·
  refine qM ?_;obtain⟨a5,a6,d⟩:=vY d;refine vT (fun g a w=>∃ (t:Nat) (i:List Line) (D:List l08Level) (y:Value),(t≤n.length∧n.drop t=i)∧i.length=g∧qW a5 i t D=some o1∧Sk a 28 [(9,xF (t:Int)),(2,E),(8,vA h)]∧Sep [] B e w [bx h [p,j,y] 86,rl 3 vM 90 y D]) n.length ?_ ?_
  ·
   exact⟨0,n,z1.2.2,v4,⟨Nat.zero_le _,rfl⟩,rfl,d,F.su,H⟩
  intro al a w ⟨t,i,D,y,f,a7,d,F,H⟩
  cases i with
  | nil=>
   replace d:=vX d;have q1:=vZ f.1 f.2;have l1:=kW q1;refine xG (xX (xA 2 F rfl fun a F=>oL qD F rfl rfl P fun a i1 F=>xA 1 F rfl fun a F=>xJ (aC F rfl l1 (vU ?_))));refine vV (vV (bC (xH ?_)));exact⟨D,y,(kQ d),F.su,H⟩
  | cons x3 i=>
   subst a7;replace f:=qY f.2;have y1:=zI f.2.1;obtain⟨am,d,Z⟩:=vE d;rw[a6] at d;have l1:=zT f.1;refine xG (xX (xA 2 F rfl fun a F=>oL qD F rfl rfl P fun a i2 F=>xA 1 F rfl fun a F=>xJ (aD F rfl l1 (xT ?_))));refine xH (xG ?_);have j1:=k64 (Nat.le_of_lt f.1) i2;have m1:=bG f.1 i2;refine qM (xX (xA 3 F rfl fun a F=>oI qD vD F rfl rfl rfl P y1 (fun a p1 h3 F=>?_)));obtain⟨T,c2,d⟩:=xB d;obtain⟨X1,K1,a8⟩:=Sep.lend (K:=[bx h [p,j,y] 86,rl 3 vM 90 y D]) (L:=[]) H;refine oG F rfl call68 rfl (uE T c2 _ H.hN K1 (H.u A) (H.u C) (H.u h3)) (fun a Q w ⟨I,an,S⟩ F=>?_);subst Q;have H:Sep [] B e w [bx h [p,j,I] 86,rl 3 vM 90 I T.2]:=a8 S;refine xA 1 F rfl fun a F=>xJ (vK F rfl (fun J=>?_) (fun J=>?_))
   ·
    replace d:=zW J d;refine xX (xA 4 F rfl fun a F=>xJ (xP (zZ (qH ?_))));refine qH ?_;replace d:=bQ d Z;refine zZ (qH ?_);replace d:=bR d Y;refine qH (zS F rfl (xZ F rfl) (xZ F rfl) ?_);obtain rfl:=oj d;exact⟨_,rfl,h,p,j,I,rfl,H,A,C,j1⟩
   replace d:=zV J d;refine xT (zG (xH (oO (xA 1 F rfl fun a F=>kO F rfl rfl rfl m1 fun a F=>xA 1 F rfl fun a F=>xJ ?_))));replace d:=aB d Z;exact⟨_,Nat.lt_succ_self _,t+1,i,T.2,I,⟨f.1,f.2.2⟩,rfl,d,F.su,H⟩
 rintro a w ⟨R,G,rfl,F,H⟩
 have d:=oJ Y;refine xH (xX (xA 3 F rfl fun a F=>xJ (xP (zS F rfl (xZ F rfl) (xZ F rfl) ?_))));obtain rfl:=oj d;exact⟨_,rfl,h,p,j,G,rfl,H,A,C,(show xS (-1) by decide)⟩
def fT (N:Nat) (d:Template) (e:Instance) (f:List Line):Option ((List (List Int))×Int×Int):=
 xY (iD (Template.mk d.size d.rels) (Instance.mk e.vars e.cons) f) fun h=>
 if (h != 0) then
  some ([],0,h)
 else
  xY (jJ N (Template.mk d.size d.rels) (Instance.mk e.vars e.cons) f) fun c=>
  if (decide (0≤c.2)) then
   some ([],c.2,8)
  else
   if ((c.1.2.2.length:Int)==0) then
    some ([],0,4)
   else
    xY (ck ((c.1.2.2.length:Int) - 1)) fun i=>
    xY (ix c.1.2.2 i) fun j=>
    some (j.domains,i,0)
theorem uU {B:Nat→Prop} {N:Nat} {D:Template} {E:Instance} {G:List Line} (r:(List (List Int))×Int×Int) (d:fT N D E G=some r) {n:Value} {p:Value} {t:Value} (e:World) (Z:∀ c,B c→c<e.heap.size) (A0:Bo B e (aY 2 xL) n D) (A1:Bo B e (aY 2 xO) p E) (I:Bo B e (Sl 4 qS) t G):Calls Tryz.prog 10 #[n,p,t] e (Gv (fun v w'=>∃ (C:Value),v= .tuple #[C,xF r.2.1,xF r.2.2]∧Sep [] B e w' [ro B (V:=(Sl 1 (vS 1 xM))) C r.1]∧xS r.2.1∧xS r.2.2)):=by
 unfold fT at d
 refine xW (L:=[(0,n),(1,p),(2,t)]) func10 rfl rfl rfl (sc rfl (sc rfl (sc rfl sn))) (fun a F=>?_);have H:=Sep.start Z;refine xX ?_;obtain⟨v3,rfl,J,K⟩:=xL.o A0;refine oX F rfl rfl rfl H (fun a w b1 H F=>?_);obtain⟨ai,rfl,M,O⟩:=xO.o A1;refine oX F rfl rfl rfl H fun a w b2 H F=>xA 3 F rfl fun a F=>xJ (xG (xX (xA 1 F rfl fun a F=>?_)));obtain⟨z1,c1,d⟩:=xB d;refine oKI F rfl call31 rfl H (tG z1 c1 _ aA (xL.b (H.g 1 rfl).bk J (H.a K)) (xO.b (H.g 0 rfl).bk M (H.a O)) (H.a I)) fun a w H U F=>xA 1 F rfl fun a F=>zR (xA 2 F rfl fun a F=>xJ (vK F rfl (fun f=>?_) (fun f=>?_)))
 ·
  replace d:=zW f d;refine xX (oR0 (R:=(vS 1 xM)) xK xU F rfl H fun a w v4 H F=>xA 4 F rfl fun a F=>xJ (xP (qH ?_)));have H:=(H.s [0] rfl rfl);have H:=H.lw.rwo.rok;refine pR F rfl (xZ F rfl) (xZ F rfl) (xZ F rfl) ?_;obtain rfl:=oj d;exact⟨_,rfl,v4,rfl,H,(show xS (0) by decide),U⟩
 replace d:=zV f d;refine xT (xH (xX (xA 1 F rfl fun a F=>?_)));obtain⟨w1,rfl⟩:∃ x,x=w:=⟨_,rfl⟩;have aj:=H.sm;obtain⟨X1,N1,P,y,H,h,ak⟩:=(H.s [1,0] rfl rfl).mg.fza;have W:=P.l.bk;have K1:=P.r.bk;obtain⟨z2,c2,d⟩:=xB d;refine oG F rfl call32 rfl (uK z2 c2 _ H.hN (xL.b (W.to H.sm) J (H.u (y K))) (xO.b (K1.to H.sm) M (H.u (y O))) (H.u (y I))) (fun a vv w ⟨b3,v5,v6,v7,al,S,Q,T,i3⟩ F=>?_);subst vv;have Q:=H.dn Q;have T:=H.dn T;have H:=H.rk S ⟨n0,⟨n0,trivial⟩⟩ rfl;refine xA 5 F rfl fun a F=>xJ (xG (xX (xA 1 F rfl fun a F=>?_)));refine xA 1 F rfl fun a F=>xJ (vK F rfl (fun i=>?_) (fun i=>?_))
 ·
  replace d:=zW i d;refine xX (oR0 (R:=(vS 1 xM)) xK xU F rfl H fun a w v8 H F=>xA 4 F rfl fun a F=>xJ (xP (qH ?_)));have H:=(h.1 (H.s [0] rfl rfl) (Ns.all ⟨n0,trivial⟩)).um;have H:=(H.s [2,0,1] rfl rfl).lw.rwo.rok;refine pR F rfl (xZ F rfl) (xZ F rfl) (xZ F rfl) ?_;obtain rfl:=oj d;exact⟨_,rfl,v8,rfl,(H.s [0] rfl rfl),i3,(show xS (8) by decide)⟩
 replace d:=zV i d;refine xT (xH (xX (xA 1 F rfl fun a F=>zB F rfl rfl fun a F=>oQ rN F rfl rfl rfl fun a F=>oB iH F rfl rfl (H.b 0 rfl) rfl fun a F=>oL bL F rfl rfl (H.l 1 rfl) fun a i4 F=>xA 1 F rfl fun a F=>vP ?_)));refine xH (xG (xX (xA 2 F rfl fun a F=>xJ (vK F rfl (fun j=>?_) (fun j=>?_)))))
 ·
  replace d:=zW j d;refine xX (oR0 (R:=(vS 1 xM)) xK xU F rfl H fun a w v9 H F=>xA 3 F rfl fun a F=>xJ (xP (qH ?_)));have H:=(h.1 (H.s [0] rfl rfl) (Ns.all ⟨n0,trivial⟩)).um;have H:=(H.s [2,0,1] rfl rfl).lw.rwo.rok;refine pR F rfl (xZ F rfl) (xZ F rfl) (xZ F rfl) ?_;obtain rfl:=oj d;exact⟨_,rfl,v9,rfl,(H.s [0] rfl rfl),(show xS (0) by decide),(show xS (4) by decide)⟩
 replace d:=zV j d;refine xT (xH (xX (xA 1 F rfl fun a F=>zB F rfl rfl fun a F=>oQ rN F rfl rfl rfl fun a F=>oB iH F rfl rfl (H.b 0 rfl) rfl fun a F=>xA 1 F rfl fun a F=>?_)));obtain⟨z3,A,d⟩:=xB d;refine gY F rfl rfl rfl A (fun a F=>?_);obtain⟨z4,c4,d⟩:=xB d;obtain⟨w2,rfl⟩:∃ x,x=w:=⟨_,rfl⟩;have am:=H.sm;obtain⟨X2,N2,g2,e2,H,X,ah⟩:=(H.s [1,0] rfl rfl).fza;have h5:=g2.ld;refine oI bL lF F rfl rfl rfl h5 c4 fun a p1 h6 F=>oF (s':=1) wV F rfl rfl h6 vM.f0 fun a p2 h7 F=>olS zD F rfl rfl H.sm h7 fun a Y h8 F=>xA 1 F rfl fun a F=>gY F rfl rfl rfl A fun a F=>xA 3 F rfl fun a F=>xJ (xP ?_);have H:=H.rob h8;have H:=(h.2.1 (X.2.1 (H.s [0] rfl rfl) (Ns.all trivial)) (Ns.all trivial));refine pR F rfl (xZ F rfl) (xZ F rfl) (xZ F rfl) ?_;obtain rfl:=oj d;exact⟨_,rfl,Y,rfl,H,(bD A),(show xS (0) by decide)⟩
def jG (c d:List Int):Option Bool:=
 if ((c.length:Int) != (d.length:Int)) then
  some false
 else
  kY (σ:=Unit) (
   qW (σ:=Unit) (ρ:=Bool) (fun (e:Nat) (f:Int) (s:Unit)=>
     match s with
     | _=>
     xY (ix d (e:Int)) fun h=>
     if (f != h) then
      some (.ret false)
     else
      some (.go ())) c 0 ()) fun _=>
  some true
theorem tW {B:Nat→Prop} {i E:List Int} (r:Bool) (d:jG i E=some r) {n:Value} {p:Value} (h:World) (O:∀ c,B c→c<h.heap.size) (t:Bo B h (Sl 1 xM) n i) (G:Bo B h (Sl 1 xM) p E):Calls Tryz.prog 33 #[n,p] h (bK (.bool r) h):=by
 unfold jG at d
 refine xW (L:=[(0,n),(1,p)]) func33 rfl rfl rfl (sc rfl (sc rfl sn)) (fun a F=>?_);have H:=Sep.start O;refine xX (xA 1 F rfl fun a F=>xJ (xG (xX (xA 1 F rfl fun a F=>oL xC F rfl rfl t fun a W F=>xA 1 F rfl fun a F=>?_))));refine oL xC F rfl rfl G fun a X F=>xA 1 F rfl fun a F=>xJ (vK F rfl (fun y=>?_) (fun y=>?_))
 ·
  replace d:=zW y d;refine xX (xA 1 F rfl fun a F=>xJ (xP (qH (xR F rfl (xZ F rfl) ?_))));obtain rfl:=oj d;exact⟨rfl,H.bl⟩
 replace d:=zV y d;refine xT (xH (xG (xX (xA 1 F rfl fun a F=>xJ ?_))));obtain⟨I,d,C⟩:=xV d;refine qG (fun a w=>I= .nx ()∧Sk a 26 []∧Sep [] B h w []) ?_ ?_
 ·
  refine qM ?_;obtain⟨K,M,d⟩:=vY d;refine vT (fun g a w=>∃ (j:Nat) (f:List Int),(j≤i.length∧i.drop j=f)∧f.length=g∧qW K f j ()=some I∧Sk a 26 [(5,xF (j:Int)),(0,n),(1,p)]∧Sep [] B h w []) i.length ?_ ?_
  ·
   exact⟨0,i,⟨Nat.zero_le _,rfl⟩,rfl,d,F.su,H⟩
  intro Y a w ⟨j,f,e,N,d,F,H⟩
  cases f with
  | nil=>
   replace d:=vX d;have P:=vZ e.1 e.2;have l1:=kW P;refine xG (xX (xA 2 F rfl fun a F=>oL xC F rfl rfl t fun a Z F=>xA 1 F rfl fun a F=>xJ (aC F rfl l1 (vU ?_))));refine vV (vV (bC (xH ?_)));exact⟨(kQ d),F.sub sn,H⟩
  | cons x2 f=>
   subst N;replace e:=qY e.2;have Q:=zI e.2.1;obtain⟨V,d,D⟩:=vE d;rw[M] at d;have l1:=zT e.1;refine xG (xX (xA 2 F rfl fun a F=>oL xC F rfl rfl t fun a J F=>xA 1 F rfl fun a F=>xJ (aD F rfl l1 (xT ?_))));refine xH (xG ?_);have j1:=k64 (Nat.le_of_lt e.1) J;have R:=bG e.1 J;refine qM (xG (xQa H (oM F rfl rfl fun a F=>oM F rfl rfl fun a F=>qI xC xI F rfl rfl rfl t Q fun a p1 S F=>qlI xN F rfl rfl H.q S fun a i5 F=>oM F rfl rfl fun a F=>oM F rfl rfl (fun a F=>?_))));obtain⟨z1,T,d⟩:=xB d;refine qI xC xI F rfl rfl rfl G T fun a p2 U F=>qlI xN F rfl rfl H.q U fun a i6 F=>zH F rfl (fun w l=>uN F rfl rfl) fun a F=>aF fun w H=>xH (vK F rfl (fun A=>?_) (fun A=>?_))
   ·
    replace d:=zW A d;refine xX (xA 1 F rfl fun a F=>xJ (xP (zZ (qH (qH ?_)))));replace d:=bQ d D;refine zZ (qH ?_);replace d:=bR d C;refine qH (xR F rfl (xZ F rfl) ?_);obtain rfl:=oj d;exact⟨rfl,H.bl⟩
   replace d:=zV A d;refine xT (zG (xH (oO (xA 1 F rfl fun a F=>kO F rfl rfl rfl R fun a F=>xA 1 F rfl fun a F=>xJ ?_))));replace d:=aB d D;exact⟨_,Nat.lt_succ_self _,j+1,f,⟨e.1,e.2.2⟩,rfl,d,F.su,H⟩
 rintro a w ⟨rfl,F,H⟩
 have d:=oJ C;refine xH (xX (xA 1 F rfl fun a F=>xJ (xP (xR F rfl (xZ F rfl) ?_))));obtain rfl:=oj d;exact⟨rfl,H.bl⟩
def iT (c d:List (List Int)):Option Bool:=
 if ((c.length:Int) != (d.length:Int)) then
  some false
 else
  kY (σ:=Unit) (
   qW (σ:=Unit) (ρ:=Bool) (fun (e:Nat) (f:(List Int)) (s:Unit)=>
     match s with
     | _=>
     xY (ix d (e:Int)) fun h=>
     xY (jG f h) fun i=>
     if (!i) then
      some (.ret false)
     else
      some (.go ())) c 0 ()) fun _=>
  some true
theorem xAj {B:Nat→Prop} {j G:List (List Int)} (r:Bool) (d:iT j G=some r) {p:Value} {t:Value} (f:World) (P:∀ c,B c→c<f.heap.size) (y:Bo B f (Sl 1 (vS 1 xM)) p j) (I:Bo B f (Sl 1 (vS 1 xM)) t G):Calls Tryz.prog 12 #[p,t] f (bK (.bool r) f):=by
 unfold iT at d
 refine xW (L:=[(0,p),(1,t)]) func12 rfl rfl rfl (sc rfl (sc rfl sn)) (fun a F=>?_);have H:=Sep.start P;refine xX (xA 1 F rfl fun a F=>xJ (xG (xX (xA 1 F rfl fun a F=>oL xK F rfl rfl y fun a i1 F=>xA 1 F rfl fun a F=>?_))));refine oL xK F rfl rfl I fun a i2 F=>xA 1 F rfl fun a F=>xJ (vK F rfl (fun A=>?_) (fun A=>?_))
 ·
  replace d:=zW A d;refine xX (xA 1 F rfl fun a F=>xJ (xP (qH (xR F rfl (xZ F rfl) ?_))));obtain rfl:=oj d;exact⟨rfl,H.bl⟩
 replace d:=zV A d;refine xT (xH (xG (xX (xA 1 F rfl fun a F=>xJ ?_))));obtain⟨J,d,E⟩:=xV d;refine qG (fun a w=>J= .nx ()∧Sk a 27 []∧Sep [] B f w []) ?_ ?_
 ·
  refine qM ?_;obtain⟨M,N,d⟩:=vY d;refine vT (fun g a w=>∃ (n:Nat) (i:List (List Int)),(n≤j.length∧j.drop n=i)∧i.length=g∧qW M i n ()=some J∧Sk a 27 [(5,xF (n:Int)),(0,p),(1,t)]∧Sep [] B f w []) j.length ?_ ?_
  ·
   exact⟨0,j,⟨Nat.zero_le _,rfl⟩,rfl,d,F.su,H⟩
  intro g1 a w ⟨n,i,e,O,d,F,H⟩
  cases i with
  | nil=>
   replace d:=vX d;have Q:=vZ e.1 e.2;have l1:=kW Q;refine xG (xX (xA 2 F rfl fun a F=>oL xK F rfl rfl y fun a i3 F=>xA 1 F rfl fun a F=>xJ (aC F rfl l1 (vU ?_))));refine vV (vV (bC (xH ?_)));exact⟨(kQ d),F.sub sn,H⟩
  | cons x2 i=>
   subst O;replace e:=qY e.2;have R:=zI e.2.1;obtain⟨a0,d,D⟩:=vE d;rw[N] at d;have l1:=zT e.1;refine xG (xX (xA 2 F rfl fun a F=>oL xK F rfl rfl y fun a K F=>xA 1 F rfl fun a F=>xJ (aD F rfl l1 (xT ?_))));refine xH (xG ?_);have j1:=k64 (Nat.le_of_lt e.1) K;have S:=bG e.1 K;refine qM (xG (xQa H (oM F rfl rfl fun a F=>oM F rfl rfl fun a F=>qI xK xU F rfl rfl rfl y R fun a p1 T F=>qlS qE F rfl rfl H.q T fun a v2 U F=>oM F rfl rfl fun a F=>oM F rfl rfl (fun a F=>?_))));obtain⟨z1,V,d⟩:=xB d;refine qI xK xU F rfl rfl rfl I V fun a p2 W F=>qlS qE F rfl rfl H.q W (fun a v3 X F=>?_);obtain⟨Y,Z,d⟩:=xB d;refine dQ F rfl call33 rfl (fun w w' h l=>l.through h) (fun w l=>tW Y Z w aA ((H.go l).a U) ((H.go l).a X)) fun a F=>gU F rfl rfl fun a F=>aF fun w H=>xH (vK F rfl (fun C=>?_) (fun C=>?_))
   ·
    replace d:=zW C d;refine xX (xA 1 F rfl fun a F=>xJ (xP (zZ (qH (qH ?_)))));replace d:=bQ d D;refine zZ (qH ?_);replace d:=bR d E;refine qH (xR F rfl (xZ F rfl) ?_);obtain rfl:=oj d;exact⟨rfl,H.bl⟩
   replace d:=zV C d;refine xT (zG (xH (oO (xA 1 F rfl fun a F=>kO F rfl rfl rfl S fun a F=>xA 1 F rfl fun a F=>xJ ?_))));replace d:=aB d D;exact⟨_,Nat.lt_succ_self _,n+1,i,⟨e.1,e.2.2⟩,rfl,d,F.su,H⟩
 rintro a w ⟨rfl,F,H⟩
 have d:=oJ E;refine xH (xX (xA 1 F rfl fun a F=>xJ (xP (xR F rfl (xZ F rfl) ?_))));obtain rfl:=oj d;exact⟨rfl,H.bl⟩
def dR (N:Nat) (c:Template) (d:Instance) (e:List Line):Option (Int×Int):=
 xY (iD (Template.mk c.size c.rels) (Instance.mk d.vars d.cons) e) fun h=>
 if (h != 0) then
  some (0,h)
 else
  xY (jJ N (Template.mk c.size c.rels) (Instance.mk d.vars d.cons) e) fun f=>
  if (decide (0≤f.2)) then
   some (f.2,8)
  else
   if (decide (0<(f.1.2.2.length:Int))) then
    some ((e.length:Int),8)
   else
    some ((e.length:Int),0)
theorem sM {B:Nat→Prop} {N:Nat} {C:Template} {D:Instance} {E:List Line} (r:Int×Int) (d:dR N C D E=some r) {p:Value} {t:Value} {y:Value} (e:World) (T:∀ c,B c→c<e.heap.size) (U:Bo B e (aY 2 xL) p C) (V:Bo B e (aY 2 xO) t D) (f:Bo B e (Sl 4 qS) y E):Calls Tryz.prog 40 #[p,t,y] e (Gv (fun v w'=>v= .tuple #[xF r.1,xF r.2]∧Sep [] B e w' []∧xS r.1∧xS r.2)):=by
 unfold dR at d
 refine xW (L:=[(0,p),(1,t),(2,y)]) func40 rfl rfl rfl (sc rfl (sc rfl (sc rfl sn))) (fun a F=>?_);have H:=Sep.start T;refine xX ?_;obtain⟨v3,rfl,G,I⟩:=xL.o U;refine oX F rfl rfl rfl H (fun a w b1 H F=>?_);obtain⟨a4,rfl,J,K⟩:=xO.o V;refine oX F rfl rfl rfl H fun a w b2 H F=>xA 2 F rfl fun a F=>xJ (xG (xX (xA 1 F rfl fun a F=>?_)));obtain⟨W,X,d⟩:=xB d;refine oKI F rfl call31 rfl H (tG W X _ aA (xL.b (H.g 1 rfl).bk G (H.a I)) (xO.b (H.g 0 rfl).bk J (H.a K)) (H.a f)) fun a w H Q F=>xA 1 F rfl fun a F=>zR (xA 2 F rfl fun a F=>xJ (vK F rfl (fun h=>?_) (fun h=>?_)))
 ·
  replace d:=zW h d;refine xX (xA 3 F rfl fun a F=>xJ (xP (qH (zS F rfl (xZ F rfl) (xZ F rfl) ?_))));obtain rfl:=oj d;exact⟨_,rfl,rfl,(H.s [] rfl rfl),(show xS (0) by decide),Q⟩
 replace d:=zV h d;refine xT (xH (xX (xA 1 F rfl fun a F=>?_)));obtain⟨w1,rfl⟩:∃ x,x=w:=⟨_,rfl⟩;have a5:=H.sm;obtain⟨X1,N1,M,A,H,i,a6⟩:=(H.s [1,0] rfl rfl).mg.fza;have K1:=M.l.bk;have Y:=M.r.bk;obtain⟨R,Z,d⟩:=xB d;refine oG F rfl call32 rfl (uK R Z _ H.hN (xL.b (K1.to H.sm) G (H.u (A I))) (xO.b (Y.to H.sm) J (H.u (A K))) (H.u (A f))) (fun a vv w ⟨b3,v4,v5,v6,a7,S,O,P,i3⟩ F=>?_);subst vv;have O:=H.dn O;have P:=H.dn P;have H:=H.rk S ⟨n0,⟨n0,trivial⟩⟩ rfl;refine xA 5 F rfl fun a F=>xJ (xG (xX (xA 1 F rfl fun a F=>?_)));refine xA 1 F rfl fun a F=>xJ (vK F rfl (fun j=>?_) (fun j=>?_))
 ·
  replace d:=zW j d;refine xX (xA 3 F rfl fun a F=>xJ (xP (qH ?_)));have H:=(i.1 H (Ns.all ⟨n0,⟨n0,trivial⟩⟩)).um;refine zS F rfl (xZ F rfl) (xZ F rfl) ?_;obtain rfl:=oj d;exact⟨_,rfl,rfl,(H.s [] rfl rfl),i3,(show xS (8) by decide)⟩
 replace d:=zV j d;refine xT (xH (xG (xX (xA 1 F rfl fun a F=>zB F rfl rfl fun a F=>oQ rN F rfl rfl rfl fun a F=>oB iH F rfl rfl (H.b 0 rfl) rfl fun a F=>oL bL F rfl rfl (H.l 1 rfl) fun a i4 F=>xA 1 F rfl fun a F=>?_))));refine xJ (vK F rfl (fun n=>?_) (fun n=>?_))
 ·
  replace d:=zW n d;refine xX (xA 1 F rfl fun a F=>oL qD F rfl rfl f fun a i5 F=>xA 2 F rfl fun a F=>xJ (xP (qH ?_)));have H:=(i.1 H (Ns.all ⟨n0,⟨n0,trivial⟩⟩)).um;refine zS F rfl (xZ F rfl) (xZ F rfl) ?_;obtain rfl:=oj d;exact⟨_,rfl,rfl,(H.s [] rfl rfl),i5,(show xS (8) by decide)⟩
 replace d:=zV n d;refine xT (xH (xX (xA 1 F rfl fun a F=>oL qD F rfl rfl f fun a i6 F=>xA 2 F rfl fun a F=>xJ (xP ?_))));have H:=(i.1 H (Ns.all ⟨n0,⟨n0,trivial⟩⟩)).um;refine zS F rfl (xZ F rfl) (xZ F rfl) ?_;obtain rfl:=oj d;exact⟨_,rfl,rfl,(H.s [] rfl rfl),i6,(show xS (0) by decide)⟩
def lN (i:List Int) (c:Int):Option (List Int):=
 kY (σ:=(List Int)×Bool) (
  qW (σ:=(List Int)×Bool) (ρ:=(List Int)) (fun (C:Nat) (d:Int) (s:(List Int)×Bool)=>
    match s with
    | (e,f)=>
    kY (σ:=Bool) (
     if (!f) then  some (.nx (decide (c≤d))) else  some (.nx false)) fun j=>
    kY (σ:=(List Int)×Bool) (
     if j then
      if (decide (c<d)) then
       xY (ap e ([c])) fun n=>
       some (.nx (n,true))
      else
       some (.nx (e,true))
     else
      some (.nx (e,f))) fun(p,t)=>
    xY (ap p ([d])) fun y=>
    some (.go (y,t))) i 0 ([],false)) fun(h,A)=>
 if (!A) then
  xY (ap h ([c])) fun B=>
  some B
 else
  some h
theorem xFc {B:Nat→Prop} {A:List Int} {e:Int} (r:(List Int)) (d:lN A e=some r) {C:Value} (h:World) (hN:∀ c,B c→c<h.heap.size) (E:Bo B h (Sl 1 xM) C A) (U:xS e):Calls Tryz.prog 41 #[C,xF e] h (Gv (fun v w'=>∃ (V:Value),v=V∧Sep [] B h w' [rl 1 xM 2 V r])):=by
 unfold lN at d
 refine xW (L:=[(0,C),(1,xF e)]) func41 rfl rfl rfl (sc rfl (sc rfl sn)) (fun a F=>?_);have H:=Sep.start hN;refine xX (xA 1 F rfl fun a F=>zR (oR0 (R:=xM) xC xI F rfl H fun a w v1 H F=>xA 1 F rfl fun a F=>xJ ?_));refine xX (xA 1 F rfl fun a F=>xJ (xG (xX (xA 1 F rfl fun a F=>xJ ?_))));obtain⟨W,d,Z⟩:=xV d;refine qG (fun a w=>∃ (N:List Int) (G:Value) (O:Bool),W= .nx (N,O)∧Sk a 49 [(1,xF e),(5,G),(6,.bool O)]∧Sep [] B h w [rl 1 xM 2 G N]) ?_ ?_
 ·
  refine qM ?_;obtain⟨a0,a1,d⟩:=vY d;refine vT (fun g a w=>∃ (i:Nat) (n p:List Int) (j:Value) (t:Bool),(i≤A.length∧A.drop i=n)∧n.length=g∧qW a0 n i (p,t)=some W∧Sk a 49 [(7,xF (i:Int)),(0,C),(1,xF e),(5,j),(6,.bool t)]∧Sep [] B h w [rl 1 xM 2 j p]) A.length ?_ ?_
  ·
   exact⟨0,A,[],v1,false,⟨Nat.zero_le _,rfl⟩,rfl,d,F.su,H⟩
  intro g1 a w ⟨i,n,p,j,t,f,a2,d,F,H⟩
  cases n with
  | nil=>
   replace d:=vX d;have q1:=vZ f.1 f.2;have l1:=kW q1;refine xG (xX (xA 2 F rfl fun a F=>oL xC F rfl rfl E fun a i1 F=>xA 1 F rfl fun a F=>xJ (aC F rfl l1 (vU ?_))));refine vV (vV (bC (xH ?_)));exact⟨p,j,t,(kQ d),F.su,H⟩
  | cons X n=>
   subst a2;replace f:=qY f.2;have P:=zI f.2.1;obtain⟨ao,d,a3⟩:=vE d;rw[a1] at d;have l1:=zT f.1;refine xG (xX (xA 2 F rfl fun a F=>oL xC F rfl rfl E fun a Y F=>xA 1 F rfl fun a F=>xJ (aD F rfl l1 (xT ?_))));refine xH (xG ?_);have j1:=k64 (Nat.le_of_lt f.1) Y;have m1:=bG f.1 Y;refine qM (xG (xG ?_));obtain⟨o2,d,a4⟩:=xV d;refine qG (fun a w=>∃ (Q:Bool),o2= .nx Q∧Sk a 49 [(0,C),(1,xF e),(5,j),(6,.bool t),(7,xF (i:Int)),(24,.bool Q)]∧Sep [] B h w [rl 1 xM 2 j p]) ?_ ?_
   ·
    refine oO (xA 3 F rfl fun a F=>?_)
    rcases zC (!t) with D | D
    ·
     replace d:=zW D d;have F:=F.eb 17 rfl D;refine xA 2 F rfl fun a F=>oI xC xI F rfl rfl rfl E P fun a p1 h1 F=>olI xN F rfl rfl H.sm h1 fun a i3 F=>xA 3 F rfl fun a F=>xJ ?_;exact⟨(decide (e≤X)),(kQ d),F.su,H⟩
    replace d:=zV D d;have F:=F.eb 17 rfl D;refine xA 7 F rfl fun a F=>xJ ?_;exact⟨false,(kQ d),F.su,H⟩
   rintro a w ⟨Q,rfl,F,H⟩
   have d:=oJ a4;refine xH ?_;obtain⟨o3,d,a5⟩:=xV d;refine qG (fun a w=>∃ (S:List Int) (T:Value) (I:Bool),o3= .nx (S,I)∧Sk a 49 [(0,C),(1,xF e),(5,T),(6,.bool I),(7,xF (i:Int))]∧Sep [] B h w [rl 1 xM 2 T S]) ?_ ?_
   ·
    refine vK F rfl (fun J=>?_) (fun J=>?_)
    ·
     replace d:=zW J d;refine xX (xA 1 F rfl fun a F=>zR (xA 2 F rfl fun a F=>oI xC xI F rfl rfl rfl E P fun a p2 h2 F=>olI xN F rfl rfl H.sm h2 (fun a i4 F=>?_)));refine xA 2 F rfl fun a F=>xJ (vK F rfl (fun K=>?_) (fun K=>?_))
     ·
      replace d:=zW K d;refine oO (xA 2 F rfl fun a F=>iN (R:=xM) (y:=e) xC xI qQ rfl rfl F rfl rfl H (Eo.int U) (fun a w v5 H F=>?_));obtain⟨z1,c1,d⟩:=xB d;refine oPL (sz:=1) (R:=xM) (z:=(xF 0)) (bytes:=8) xC (by kernel_rfl) rfl rfl F rfl rfl rfl (H.s [1,0] rfl rfl) c1 fun a w v6 H F=>xA 1 F rfl fun a F=>xJ ?_;exact⟨z1,v6,true,(kQ d),F.su,H⟩
     replace d:=zV K d;refine xT (xH ?_);exact⟨p,j,true,(kQ d),F.su,H⟩
    replace d:=zV J d;refine xT (xH ?_);exact⟨p,j,t,(kQ d),F.su,H⟩
   rintro a w ⟨S,T,I,rfl,F,H⟩
   have d:=oJ a5;refine xH (oO (xA 3 F rfl fun a F=>oI xC xI F rfl rfl rfl E P fun a p3 h3 F=>olI xN F rfl rfl H.sm h3 fun a i5 F=>iN (R:=xM) (y:=X) xC xI qQ rfl rfl F rfl rfl H (Eo.int i5) (fun a w v7 H F=>?_)));obtain⟨z2,c2,d⟩:=xB d;refine oPL (sz:=1) (R:=xM) (z:=(xF 0)) (bytes:=8) xC (by kernel_rfl) rfl rfl F rfl rfl rfl (H.s [1,0] rfl rfl) c2 fun a w v8 H F=>xA 1 F rfl fun a F=>vP (zG (xH (oO (xA 1 F rfl fun a F=>kO F rfl rfl rfl m1 fun a F=>xA 1 F rfl fun a F=>xJ ?_))));replace d:=aB d a3;exact⟨_,Nat.lt_succ_self _,i+1,n,z2,v8,I,⟨f.1,f.2.2⟩,rfl,d,F.su,H⟩
 rintro a w ⟨N,G,O,rfl,F,H⟩
 have d:=oJ Z;refine xH (xG (xX (xA 2 F rfl fun a F=>xJ (vK F rfl (fun M=>?_) (fun M=>?_)))))
 ·
  replace d:=zW M d;refine oO (xA 2 F rfl fun a F=>iN (R:=xM) (y:=e) xC xI qQ rfl rfl F rfl rfl H (Eo.int U) (fun a w v9 H F=>?_));obtain⟨z3,c3,d⟩:=xB d;refine oPL (sz:=1) (R:=xM) (z:=(xF 0)) (bytes:=8) xC (by kernel_rfl) rfl rfl F rfl rfl rfl (H.s [1,0] rfl rfl) c3 fun a w a6 H F=>xA 1 F rfl fun a F=>zR (xA 2 F rfl fun a F=>xJ (xP ?_));refine xR F rfl (xZ F rfl) ?_;obtain rfl:=oj d;exact⟨_,rfl,a6,rfl,H⟩
 replace d:=zV M d;refine xT (xH (xX (xA 2 F rfl fun a F=>xJ (xP (xR F rfl (xZ F rfl) ?_)))));obtain rfl:=oj d;exact⟨_,rfl,G,rfl,H⟩
def dF (N:Nat) (d:Template) (e:Instance) (f:List Line):Option ((List Int)×Int):=
 xY (dR N (Template.mk d.size d.rels) (Instance.mk e.vars e.cons) f) fun h=>
 if (h.2 != 0) then
  some ([],h.2)
 else
  kY (σ:=(List Int)) (
   qW (σ:=(List Int)) (ρ:=(List Int)×Int) (fun (p:Nat) (c:Line) (i:(List Int))=>
    if (c.kind==2) then
     xY (lN i c.con) fun j=>
     some (.go j)
    else
     some (.go i)) f 0 []) fun n=>
  some (n,0)
theorem rU {B:Nat→Prop} {N:Nat} {O:Template} {P:Instance} {j:List Line} (r:(List Int)×Int) (d:dF N O P j=some r) {E:Value} {G:Value} {y:Value} (f:World) (hN:∀ c,B c→c<f.heap.size) (A0:Bo B f (aY 2 xL) E O) (A1:Bo B f (aY 2 xO) G P) (n:Bo B f (Sl 4 qS) y j):Calls Tryz.prog 15 #[E,G,y] f (Gv (fun v w'=>∃ (K:Value),v= .tuple #[K,xF r.2]∧Sep [] B f w' [rl 1 xM 2 K r.1]∧xS r.2)):=by
 unfold dF at d
 refine xW (L:=[(0,E),(1,G),(2,y)]) func15 rfl rfl rfl (sc rfl (sc rfl (sc rfl sn))) (fun a F=>?_);have H:=Sep.start hN;refine xX ?_;obtain⟨v3,rfl,i1,h1⟩:=xL.o A0;refine oX F rfl rfl rfl H (fun a w b1 H F=>?_);obtain⟨al,rfl,i2,h2⟩:=xO.o A1;refine oX F rfl rfl rfl H fun a w b2 H F=>xA 2 F rfl fun a F=>zR (lT qU oH F rfl rfl (H.b 1 rfl) rfl rfl fun a F=>lT vO oZ F rfl rfl (H.b 0 rfl) rfl rfl fun a F=>xA 1 F rfl fun a F=>?_);obtain⟨z1,c1,d⟩:=xB d;refine oG F rfl call40 rfl (sM z1 c1 _ aA (xL.m i1 (H.a h1)) (xO.m i2 (H.a h2)) (H.a n)) (fun a I w ⟨am,S,i3,i4⟩ F=>?_);subst I;have H:=H.r0 S;refine xA 5 F rfl fun a F=>xJ (xG (xX (xA 1 F rfl fun a F=>?_)));refine xA 1 F rfl fun a F=>xJ (vK F rfl (fun C=>?_) (fun C=>?_))
 ·
  replace d:=zW C d;refine xX (oR0 (R:=xM) xC xI F rfl H fun a w v4 H F=>xA 3 F rfl fun a F=>xJ (xP (qH (zS F rfl (xZ F rfl) (xZ F rfl) ?_))));obtain rfl:=oj d;exact⟨_,rfl,v4,rfl,(H.s [0] rfl rfl),i4⟩
 replace d:=zV C d;refine xT (xH (xX (oR0 (R:=xM) xC xI F rfl H fun a w v5 H F=>xA 1 F rfl fun a F=>xJ (xG (xX ?_)))));refine xA 1 F rfl fun a F=>xJ ?_;obtain⟨Q,d,X⟩:=xV d;refine qG (fun a w=>∃ (J:List Int) (A:Value),Q= .nx J∧Sk a 44 [(10,A)]∧Sep [] B f w [rl 1 xM 2 A J]) ?_ ?_
 ·
  refine qM ?_;obtain⟨Y,Z,d⟩:=vY d;refine vT (fun g a w=>∃ (i:Nat) (h:List Line) (p:List Int) (t:Value),(i≤j.length∧j.drop i=h)∧h.length=g∧qW Y h i p=some Q∧Sk a 44 [(11,xF (i:Int)),(2,y),(10,t)]∧Sep [] B f w [rl 1 xM 2 t p]) j.length ?_ ?_
  ·
   exact⟨0,j,[],v5,⟨Nat.zero_le _,rfl⟩,rfl,d,F.su,(H.s [0] rfl rfl)⟩
  intro g1 a w ⟨i,h,p,t,e,a0,d,F,H⟩
  cases h with
  | nil=>
   replace d:=vX d;have q1:=vZ e.1 e.2;have l1:=kW q1;refine xG (xX (xA 2 F rfl fun a F=>oL qD F rfl rfl n fun a i5 F=>xA 1 F rfl fun a F=>xJ (aC F rfl l1 (vU ?_))));refine vV (vV (bC (xH ?_)));exact⟨p,t,(kQ d),F.su,H⟩
  | cons an h=>
   subst a0;replace e:=qY e.2;have T:=zI e.2.1;obtain⟨ao,d,M⟩:=vE d;rw[Z] at d;have l1:=zT e.1;refine xG (xX (xA 2 F rfl fun a F=>oL qD F rfl rfl n fun a U F=>xA 1 F rfl fun a F=>xJ (aD F rfl l1 (xT ?_))));refine xH (xG ?_);have j1:=k64 (Nat.le_of_lt e.1) U;have V:=bG e.1 U;refine qM (xX (xA 2 F rfl fun a F=>oI qD vD F rfl rfl rfl n T fun a p1 h3 F=>oF (s':=1) sR F rfl rfl h3 qS.f0 fun a p2 h4 F=>olI xN F rfl rfl H.sm h4 fun a i7 F=>xA 1 F rfl fun a F=>xJ ?_));refine vK F rfl (fun D=>?_) (fun D=>?_)
   ·
    replace d:=zW D d;refine oO (xA 3 F rfl fun a F=>oI qD vD F rfl rfl rfl n T fun a p3 h5 F=>oF (s':=1) tV F rfl rfl h5 qS.f3 fun a p4 h6 F=>olI xN F rfl rfl H.sm h6 (fun a i8 F=>?_));obtain⟨W,c2,d⟩:=xB d;refine oG F rfl call41 rfl (xFc W c2 _ aA (H.l 0 rfl) i8) (fun a I w ⟨v8,aq,S⟩ F=>?_);subst I;have H:=H.r1 S n0;refine xA 1 F rfl fun a F=>vP (zG (xH (oO (xA 1 F rfl fun a F=>kO F rfl rfl rfl V fun a F=>xA 1 F rfl fun a F=>xJ ?_))));replace d:=aB d M;exact⟨_,Nat.lt_succ_self _,i+1,h,W,v8,⟨e.1,e.2.2⟩,rfl,d,F.su,(H.s [0] rfl rfl)⟩
   replace d:=zV D d;refine xT (zG (xH (oO (xA 1 F rfl fun a F=>kO F rfl rfl rfl V fun a F=>xA 1 F rfl fun a F=>xJ ?_))));replace d:=aB d M;exact⟨_,Nat.lt_succ_self _,i+1,h,p,t,⟨e.1,e.2.2⟩,rfl,d,F.su,H⟩
 rintro a w ⟨J,A,rfl,F,H⟩
 have d:=oJ X;refine xH (xX (xA 3 F rfl fun a F=>xJ (xP (zS F rfl (xZ F rfl) (xZ F rfl) ?_))));obtain rfl:=oj d;exact⟨_,rfl,A,rfl,H,(show xS (0) by decide)⟩
def jT (c:List Int) (f h:Int):Option Bool:=
 kY (σ:=Unit) (
  qW (σ:=Unit) (ρ:=Bool) (fun (d:Nat) (e:Int) (s:Unit)=>
    match s with
    | _=>
    kY (σ:=Bool) (
     xY (bE e f h) fun i=>
     if (!i) then  some (.nx true) else  if (decide (0<(d:Int))) then  xY (ck ((d:Int) - 1)) fun j=>
       xY (ix c j) fun n=>
       some (.nx (decide (e≤n))) else  some (.nx false)) fun p=>
    if p then
     some (.ret false)
    else
     some (.go ())) c 0 ()) fun _=>
 some true
theorem xBo {B:Nat→Prop} {n:List Int} {p t:Int} (r:Bool) (d:jT n p t=some r) {C:Value} (i:World) (U:∀ c,B c→c<i.heap.size) (D:Bo B i (Sl 1 xM) C n) (O:xS p) (P:xS t):Calls Tryz.prog 42 #[C,xF p,xF t] i (bK (.bool r) i):=by
 unfold jT at d
 refine xW (L:=[(0,C),(1,xF p),(2,xF t)]) func42 rfl rfl rfl (sc rfl (sc rfl (sc rfl sn))) (fun a F=>?_);have H:=Sep.start U;refine xX (xA 1 F rfl fun a F=>xJ (xG (xX (xA 1 F rfl fun a F=>xJ ?_))));obtain⟨K,d,I⟩:=xV d;refine qG (fun a w=>K= .nx ()∧Sk a 38 []∧Sep [] B i w []) ?_ ?_
 ·
  refine qM ?_;obtain⟨Q,R,d⟩:=vY d;refine vT (fun g a w=>∃ (f:Nat) (j:List Int),(f≤n.length∧n.drop f=j)∧j.length=g∧qW Q j f ()=some K∧Sk a 38 [(7,xF (f:Int)),(0,C),(1,xF p),(2,xF t)]∧Sep [] B i w []) n.length ?_ ?_
  ·
   exact⟨0,n,⟨Nat.zero_le _,rfl⟩,rfl,d,F.su,H⟩
  intro g1 a w ⟨f,j,e,S,d,F,H⟩
  cases j with
  | nil=>
   replace d:=vX d;have V:=vZ e.1 e.2;have l1:=kW V;refine xG (xX (xA 2 F rfl fun a F=>oL xC F rfl rfl D fun a i1 F=>xA 1 F rfl fun a F=>xJ (aC F rfl l1 (vU ?_))));refine vV (vV (bC (xH ?_)));exact⟨(kQ d),F.sub sn,H⟩
  | cons W j=>
   subst S;replace e:=qY e.2;have M:=zI e.2.1;obtain⟨a7,d,J⟩:=vE d;rw[R] at d;have l1:=zT e.1;refine xG (xX (xA 2 F rfl fun a F=>oL xC F rfl rfl D fun a i64 F=>xA 1 F rfl fun a F=>xJ (aD F rfl l1 (xT ?_))));refine xH (xG ?_);have j1:=k64 (Nat.le_of_lt e.1) i64;have X:=bG e.1 i64;refine qM (xG ?_);obtain⟨Y,d,T⟩:=xV d;refine qG (fun a w=>∃ (G:Bool),Y= .nx G∧Sk a 38 [(0,C),(1,xF p),(2,xF t),(7,xF (f:Int)),(37,.bool G)]∧Sep [] B i w []) ?_ ?_
   ·
    refine xQa H (oM F rfl rfl fun a F=>oM F rfl rfl fun a F=>qI xC xI F rfl rfl rfl D M fun a p1 Z F=>qlI xN F rfl rfl H.q Z fun a i2 F=>oM F rfl rfl fun a F=>oM F rfl rfl (fun a F=>?_));obtain⟨N,c1,d⟩:=xB d;refine dQ F rfl iW rfl (fun w w' h l=>l.through h) (fun w l=>cU N c1 w aA i2 O P) fun a F=>gU F rfl rfl fun a F=>oM F rfl rfl (fun a F=>?_)
    rcases zC (!N) with y | y
    ·
     replace d:=zW y d;have F:=F.eb 22 rfl y;refine oV F rfl rfl fun a F=>oV F rfl rfl fun a F=>oV F rfl rfl fun a F=>oV F rfl rfl fun a F=>oV F rfl rfl fun a F=>oV F rfl rfl fun a F=>oV F rfl rfl fun a F=>oV F rfl rfl fun a F=>oV F rfl rfl fun a F=>oV F rfl rfl fun a F=>oV F rfl rfl (fun a F=>?_);refine oV F rfl rfl fun a F=>oV F rfl rfl fun a F=>oV F rfl rfl fun a F=>bH F rfl rfl rfl fun a F=>aF fun w H=>xH ?_;exact⟨true,(kQ d),F.su,H⟩
    replace d:=zV y d;have F:=F.eb 22 rfl y;refine oM F rfl rfl fun a F=>zH F rfl (fun w l=>xGc F rfl rfl) fun a F=>oM F rfl rfl (fun a F=>?_)
    rcases zC (decide (0<(f:Int))) with A | A
    ·
     replace d:=zW A d;have F:=F.eb 25 rfl A;refine oM F rfl rfl fun a F=>oM F rfl rfl (fun a F=>?_);obtain⟨z2,c2,d⟩:=xB d;refine zH F rfl (fun w l=>nU F rfl rfl c2) (fun a F=>?_);obtain⟨z3,c3,d⟩:=xB d;refine qI xC xI F rfl rfl rfl D c3 fun a p2 h2 F=>qlI xN F rfl rfl H.q h2 fun a i3 F=>oM F rfl rfl fun a F=>oM F rfl rfl fun a F=>qI xC xI F rfl rfl rfl D M fun a p3 h3 F=>qlI xN F rfl rfl H.q h3 fun a i4 F=>zH F rfl (fun w l=>xLx F rfl rfl) fun a F=>bH F rfl rfl rfl fun a F=>cG F rfl rfl rfl fun a F=>aF fun w H=>xH ?_;exact⟨(decide (W≤z3)),(kQ d),F.su,H⟩
    replace d:=zV A d;have F:=F.eb 25 rfl A;refine oV F rfl rfl fun a F=>oV F rfl rfl fun a F=>oV F rfl rfl fun a F=>oV F rfl rfl fun a F=>oV F rfl rfl fun a F=>oV F rfl rfl fun a F=>oV F rfl rfl fun a F=>oV F rfl rfl fun a F=>oV F rfl rfl fun a F=>oV F rfl rfl fun a F=>cG F rfl rfl rfl (fun a F=>?_);refine cG F rfl rfl rfl fun a F=>aF fun w H=>xH ?_;exact⟨false,(kQ d),F.su,H⟩
   rintro a w ⟨G,rfl,F,H⟩
   have d:=oJ T;refine xH (vK F rfl (fun E=>?_) (fun E=>?_))
   ·
    replace d:=zW E d;refine xX (xA 1 F rfl fun a F=>xJ (xP (zZ (qH (qH ?_)))));replace d:=bQ d J;refine zZ (qH ?_);replace d:=bR d I;refine qH (xR F rfl (xZ F rfl) ?_);obtain rfl:=oj d;exact⟨rfl,H.bl⟩
   replace d:=zV E d;refine xT (zG (xH (oO (xA 1 F rfl fun a F=>kO F rfl rfl rfl X fun a F=>xA 1 F rfl fun a F=>xJ ?_))));replace d:=aB d J;exact⟨_,Nat.lt_succ_self _,f+1,j,⟨e.1,e.2.2⟩,rfl,d,F.su,H⟩
 rintro a w ⟨rfl,F,H⟩
 have d:=oJ I;refine xH (xX (xA 1 F rfl fun a F=>xJ (xP (xR F rfl (xZ F rfl) ?_))));obtain rfl:=oj d;exact⟨rfl,H.bl⟩
def bB (d:Template) (c:Instance) (e:List Int):Option (Instance×Int):=
 xY (gQ (Template.mk d.size d.rels) (Instance.mk c.vars c.cons)) fun h=>
 if (!h) then
  some ((Instance.mk 0 ([])),1)
 else
  xY (ck ((c.cons.length:Int) - 1)) fun i=>
  xY (jT e 0 i) fun j=>
  if (!j) then
   some ((Instance.mk 0 ([])),2)
  else
   kY (σ:=(List Con)) (
    qW (σ:=(List Con)) (ρ:=Instance×Int) (fun (B:Nat) (n:Int) (p:(List Con))=>
     xY (ix c.cons n) fun f=>
     xY (iR f.scope) fun t=>
     xY (ap p ([(Con.mk f.rel t)])) fun y=>
     some (.go y)) e 0 []) fun A=>
   some ((Instance.mk c.vars A),0)
theorem lQ {B:Nat→Prop} {x0:Template} {e:Instance} {K:List Int} (r:Instance×Int) (d:bB x0 e K=some r) {X:Value} {Y:Value} {C:Value} (h:World) (hN:∀ c,B c→c<h.heap.size) (A0:Bo B h (aY 2 xL) X x0) (A1:Bo B h (aY 2 xO) Y e) (Q:Bo B h (Sl 1 xM) C K):Calls Tryz.prog 16 #[X,Y,C] h (Gv (fun v w'=>∃ (a4:Value),v= .tuple #[.agg #[xF r.1.vars,a4],xF r.2]∧Sep [] B h w' [rl 2 qZ 68 a4 r.1.cons]∧xS r.1.vars∧xS r.2)):=by
 unfold bB at d
 refine xW (L:=[(0,X),(1,Y),(2,C)]) func16 rfl rfl rfl (sc rfl (sc rfl (sc rfl sn))) (fun a F=>?_);have H:=Sep.start hN;refine xX ?_;obtain⟨v3,rfl,i1,h1⟩:=xL.o A0;refine oX F rfl rfl rfl H (fun a w b1 H F=>?_);obtain⟨O,rfl,i2,Z⟩:=xO.o A1;refine oX F rfl rfl rfl H fun a w A H F=>oA kH F rfl rfl H fun a w n H F=>xA 1 F rfl fun a F=>xJ (xG (xX ?_));obtain⟨z1,c1,d⟩:=xB d;refine oK F rfl call24 rfl H (nZ z1 c1 _ aA (xL.b (H.g 2 rfl).bk i1 (H.a h1)) (xO.b (H.g 1 rfl).bk i2 (H.a Z))) fun a w H F=>xA 1 F rfl fun a F=>xJ (vK F rfl (fun V=>?_) (fun V=>?_))
 ·
  replace d:=zW V d;refine xX (aX gG kH (fun w=>by simp [xI,cL];rfl) F rfl rfl rfl rfl rfl on rfl rfl fun a F=>gN (vs:=[xF 0,vH]) oZ F rfl rfl rfl H (oc rfl (oc rfl on)) rfl rfl fun w H=>xA 1 F rfl fun a F=>xJ (xP (qH (zS F rfl (bN (arr:=#[xF 0,vH]) F vO oZ rfl (H.b 0 rfl)) (xZ F rfl) ?_))));obtain rfl:=oj d;exact⟨_,rfl,vH,rfl,((H.nl 2 qZ 68).s [0] rfl rfl),(show xS 0 by decide),(show xS (1) by decide)⟩
 replace d:=zV V d;refine xT (xH (xG (xX (xA 1 F rfl fun a F=>oQ bU F rfl rfl rfl fun a F=>oB vR F rfl rfl (H.b 1 rfl) rfl fun a F=>oL oY F rfl rfl Z (fun a i3 F=>?_)))));obtain⟨z2,c2,d⟩:=xB d;refine gY F rfl rfl rfl c2 (fun a F=>?_);obtain⟨z3,c3,d⟩:=xB d;refine oK F rfl call42 rfl H (xBo z3 c3 _ aA (H.a Q) (show xS (0) by decide) (bD c2)) fun a w H F=>xA 1 F rfl fun a F=>xJ (vK F rfl (fun W=>?_) (fun W=>?_))
 ·
  replace d:=zW W d;refine xX (aX gG kH (fun w=>by simp [xI,cL];rfl) F rfl rfl rfl rfl rfl on rfl rfl fun a F=>gN (vs:=[xF 0,vH]) oZ F rfl rfl rfl H (oc rfl (oc rfl on)) rfl rfl fun w H=>xA 1 F rfl fun a F=>xJ (xP (qH (zS F rfl (bN (arr:=#[xF 0,vH]) F vO oZ rfl (H.b 0 rfl)) (xZ F rfl) ?_))));obtain rfl:=oj d;exact⟨_,rfl,vH,rfl,((H.nl 2 qZ 68).s [0] rfl rfl),(show xS 0 by decide),(show xS (2) by decide)⟩
 replace d:=zV W d;refine xT (xH (xX (oQ gP F rfl rfl rfl fun a F=>oB xN F rfl rfl (H.b 1 rfl) rfl fun a F=>aX gG kH (fun w=>by simp [xI,cL];rfl) F rfl rfl rfl rfl rfl (oc rfl on) rfl rfl fun a F=>oA kH F rfl rfl H fun a w p H F=>gN (vs:=[xF e.vars,vH]) oZ F rfl rfl rfl H (oc rfl (oc rfl on)) rfl rfl fun w H=>xJ ?_)));refine xG (xX (xA 1 F rfl fun a F=>xJ ?_));obtain⟨o1,d,ag⟩:=xV d;refine qG (fun a w=>∃ (s1:List Con) (M:Value),o1= .nx s1∧Sk a 54 [(6,vA n),(8,vA p)]∧Sep [] B h w [rl 2 qZ 68 M s1,bx p [xF e.vars,M] 29,bx n [xF 0,vH] 29]) ?_ ?_
 ·
  refine qM ?_;obtain⟨ah,ai,d⟩:=vY d;refine vT (fun g a w=>∃ (t:Nat) (D:List Int) (E:List Con) (f:Value),(t≤K.length∧K.drop t=D)∧D.length=g∧qW ah D t E=some o1∧Sk a 54 [(9,xF (t:Int)),(2,C),(4,vA A),(6,vA n),(8,vA p)]∧Sep [] B h w [rl 2 qZ 68 f E,bx p [xF e.vars,f] 29,bx n [xF 0,vH] 29,bx A [xF e.vars,O] 29]) K.length ?_ ?_
  ·
   exact⟨0,K,[],vH,⟨Nat.zero_le _,rfl⟩,rfl,d,F.su,((H.nl 2 qZ 68).s [0,1,2,3] rfl rfl)⟩
  intro g1 a w ⟨t,D,E,f,j,aj,d,F,H⟩
  cases D with
  | nil=>
   replace d:=vX d;have q1:=vZ j.1 j.2;have l1:=kW q1;refine xG (xX (xA 2 F rfl fun a F=>oL xC F rfl rfl Q fun a i4 F=>xA 1 F rfl fun a F=>xJ (aC F rfl l1 (vU ?_))));refine vV (vV (bC (xH ?_)));exact⟨E,f,(kQ d),F.su,(H.s [0,1,2] rfl rfl)⟩
  | cons x3 D=>
   subst aj;replace j:=qY j.2;have y1:=zI j.2.1;obtain⟨be,d,ak⟩:=vE d;rw[ai] at d;have l1:=zT j.1;refine xG (xX (xA 2 F rfl fun a F=>oL xC F rfl rfl Q fun a i5 F=>xA 1 F rfl fun a F=>xJ (aD F rfl l1 (xT ?_))));refine xH (xG ?_);have j1:=k64 (Nat.le_of_lt j.1) i5;have m1:=bG j.1 i5;refine qM (xG (xQa H (zH F rfl (fun w l=>oD bU F rfl rfl) fun a F=>qB vR F rfl rfl (H.qb 3 rfl) rfl fun a F=>oM F rfl rfl fun a F=>oM F rfl rfl fun a F=>qI xC xI F rfl rfl rfl Q y1 fun a p1 h3 F=>qlI xN F rfl rfl H.q h3 (fun a i6 F=>?_))));obtain⟨I,c4,d⟩:=xB d;refine qI oY zA F rfl rfl rfl Z c4 fun a p2 T F=>gS F rfl rfl fun a F=>aF fun w H=>xH ?_;obtain⟨J,c5,d⟩:=xB d;obtain⟨z6,c6,d⟩:=xB d;refine lU H fun w H=>dp (fun G=>∀ (v6:Value) (a:Act) (w:World),Sk a 54 [(2,C),(4,vA A),(6,vA n),(8,vA p),(9,xF (t:Int)),(39,f),(50,v6)]→Sep [] B h w [rl 2 qZ 68 v6 ([(Con.mk I.rel J)]),rl 2 qZ 68 f E,bx p [xF e.vars,f] 29,bx n [xF 0,vH] 29,bx A [xF e.vars,O] 29]→∀ i,i = #[true,true,true,true,true,true,true,true,true,true,true,true,true,false,false,false]→G 3 i a w) ?_ (fun H1=>?_)
   ·
    intro v6 a w F H i N;subst N;refine kT H 13 rfl (oPL (sz:=2) (R:=qZ) (z:=(.agg #[xF 0,vH])) (bytes:=32) oY (by kernel_rfl) rfl rfl F rfl rfl rfl (H.s [1,0,2,3,4] rfl rfl) c6 fun a w v7 H F=>xJ ⟨⟨_,H⟩,?_⟩);refine qJ 14 rfl (qT F rfl (fun w l=>oD bU F rfl rfl) fun a F=>kT H 15 rfl (oW cL F rfl rfl rfl (H.s [1,0,2,3] rfl rfl) ((H.s [1,0,2,3] rfl rfl).l 1 rfl).one rfl rfl fun w H=>xJ ⟨⟨_,H⟩,?_⟩));refine zN (zG (xH (oO (xA 1 F rfl fun a F=>kO F rfl rfl rfl m1 fun a F=>xA 1 F rfl fun a F=>xJ ?_))));replace d:=aB d ak;exact⟨_,Nat.lt_succ_self _,t+1,D,z6,v7,⟨j.1,j.2.2⟩,rfl,d,F.su,(H.s [1,0,2,3] rfl rfl)⟩
   refine dp (fun G=>∀ (v8:Value) (a:Act) (w:World),Sk a 54 [(2,C),(4,vA A),(6,vA n),(8,vA p),(9,xF (t:Int)),(39,f),(49,(.agg #[xF I.rel,v8]))]→Sep [] B h w [rl 1 xM 2 v8 J,rl 2 qZ 68 f E,bx p [xF e.vars,f] 29,bx n [xF 0,vH] 29,bx A [xF e.vars,O] 29]→xS I.rel→∀ i,i = #[true,true,true,true,true,true,true,true,true,true,true,true,false,false,false,false]→G 4 i a w) ?_ (fun H2=>?_)
   ·
    intro v8 a w F H i7 i N;subst N;refine kT H 12 rfl ?_;have H:=(qZ.w i7 H);refine gB (R:=qZ) (y:=(Con.mk I.rel J)) oY zA zM rfl rfl F rfl rfl H El.agg fun a w v9 H F=>xJ ⟨⟨_,H⟩,?_⟩;exact H1 v9 _ _ (F.su) H _ (by kernel_rfl)
   refine dp (fun G=>∀ (P:Value) (a:Act) (w:World),Sk a 54 [(2,C),(4,vA A),(6,vA n),(8,vA p),(9,xF (t:Int)),(39,f),(43,xF I.rel),(48,P)]→Sep [] B h w [rl 1 xM 2 P J,rl 2 qZ 68 f E,bx p [xF e.vars,f] 29,bx n [xF 0,vH] 29,bx A [xF e.vars,O] 29]→xS I.rel→∀ i,i = #[true,true,true,true,true,true,true,true,true,true,true,false,false,false,false,false]→G 5 i a w) ?_ (fun H3=>?_)
   ·
    intro P a w F H i8 i N;subst N;refine kT H 11 rfl (aX dT zM (fun w=>by simp [xI,xU];rfl) F rfl rfl rfl rfl rfl (oc rfl (oc (H.l 0 rfl).one on)) rfl rfl fun a F=>xJ ⟨⟨_,H⟩,?_⟩);exact H2 P _ _ (F.su) H i8 _ (by kernel_rfl)
   refine qJ 0 rfl (qT F rfl (fun w l=>oD bU F rfl rfl) fun a F=>qV 2 rfl (qO F rfl rfl fun a F=>qJ 3 rfl (vN F rfl rfl T fun a F=>qJ 4 rfl (vF (s':=1) tD F rfl rfl T qZ.f0 fun a p3 h5 F=>qJ 5 rfl (vlI xN F rfl rfl H.v h5 fun a U F=>qV 6 rfl ?_)))));refine qO F rfl rfl fun a F=>qJ 7 rfl (vN F rfl rfl T fun a F=>qJ 8 rfl (vF (s':=1) gD F rfl rfl T qZ.f1 fun a p4 h6 F=>qJ 9 rfl (vlS qE F rfl rfl H.v h6 fun a bf h7 F=>aT [1,10] (by kernel_rfl) (by simp) ⟨⟨_,rfl,?_⟩,⟨_,rfl,?_⟩,trivial⟩)))
   ·
    refine aM H (oB vR F rfl rfl (H.b 1 rfl) rfl fun a F=>xJ ⟨⟨_,H⟩,?_⟩);refine kT H 10 rfl (oG F rfl call43 rfl (nD J c5 _ aA (H.a h7)) (fun a vv w ⟨al,bg,S⟩ F=>?_));subst vv;have H:=H.r1 S n0;refine xJ ⟨⟨_,H⟩,?_⟩;exact H3 al _ _ (F.su) H U _ (by kernel_rfl)
   refine aM H (oG F rfl call43 rfl (nD J c5 _ aA (H.a h7)) (fun a vv w ⟨a5,bh,S⟩ F=>?_));subst vv;have H:=H.r1 S n0;refine xJ ⟨⟨_,H⟩,?_⟩;refine aT [1,11] (by kernel_rfl) (by simp) ⟨⟨_,rfl,?_⟩,⟨_,rfl,?_⟩,trivial⟩
   ·
    refine aM H (oB vR F rfl rfl (H.b 2 rfl) rfl fun a F=>xJ ⟨⟨_,H⟩,?_⟩);exact H3 a5 _ _ (F.su) H U _ (by kernel_rfl)
   refine aM H (aX dT zM (fun w=>by simp [xI,xU];rfl) F rfl rfl rfl rfl rfl (oc rfl (oc (H.l 0 rfl).one on)) rfl rfl fun a F=>xJ ⟨⟨_,H⟩,?_⟩);refine aT [1,12] (by kernel_rfl) (by simp) ⟨⟨_,rfl,?_⟩,⟨_,rfl,?_⟩,trivial⟩
   ·
    refine aM H (oB vR F rfl rfl (H.b 2 rfl) rfl fun a F=>xJ ⟨⟨_,H⟩,?_⟩);exact H2 a5 _ _ (F.su) H U _ (by kernel_rfl)
   refine aM H ?_;have H:=(qZ.w U H);refine gB (R:=qZ) (y:=(Con.mk I.rel J)) oY zA zM rfl rfl F rfl rfl H El.agg fun a w am H F=>xJ ⟨⟨_,H⟩,?_⟩;refine kT H 1 rfl (oB vR F rfl rfl (H.b 2 rfl) rfl fun a F=>xJ ⟨⟨_,H⟩,?_⟩);exact H1 am _ _ (F.su) H _ (by kernel_rfl)
 rintro a w ⟨s1,M,rfl,F,H⟩
 have d:=oJ ag;refine xH (xX (lT vO oZ F rfl rfl (H.b 1 rfl) rfl rfl fun a F=>gN (vs:=[xF e.vars,M]) oZ F rfl rfl rfl (H.s [2,0,1] rfl rfl) (oc rfl (oc ((H.s [2,0,1] rfl rfl).l 1 rfl).one on)) rfl rfl fun w H=>xA 1 F rfl fun a F=>xJ (xP (zS F rfl (bN (arr:=#[xF e.vars,M]) F vO oZ rfl (H.b 0 rfl)) (xZ F rfl) ?_))));obtain rfl:=oj d;exact⟨_,rfl,M,rfl,(H.s [1] rfl rfl),i2,(show xS (0) by decide)⟩
def gC (c d:List Int):Option Bool:=
 xY (jG c d) fun e=>
 some e
theorem wP {B:Nat→Prop} {i j:List Int} (r:Bool) (e:gC i j=some r) {f:Value} {h:Value} (d:World) (n:∀ c,B c→c<d.heap.size) (p:Bo B d (Sl 1 xM) f i) (t:Bo B d (Sl 1 xM) h j):Calls Tryz.prog 18 #[f,h] d (bK (.bool r) d):=by
 unfold gC at e
 refine xW (L:=[(0,f),(1,h)]) func18 rfl rfl rfl (sc rfl (sc rfl sn)) (fun a F=>?_);have H:=Sep.start n;refine xX (xA 1 F rfl fun a F=>zR (xA 2 F rfl fun a F=>?_));obtain⟨y,A,e⟩:=xB e;refine oK F rfl call33 rfl H (tW y A _ aA (H.a p) (H.a t)) fun a w H F=>xA 1 F rfl fun a F=>xJ (xP (xR F rfl (xZ F rfl) ?_));obtain rfl:=oj e;exact⟨rfl,H.bl⟩
end Go.Proofs.YtfmnjkpddljdcaaGreatDoor
