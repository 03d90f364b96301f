import Derived.Test.YtghihmkhdhjhiaaGreatDoorP1
import Derived.Test.YtghihmkhdhjhiaaGreatDoorNM
namespace Go.Proofs.YtghihmkhdhjhiaaGreatDoor
open Go.Proofs.Tryz
set_option maxHeartbeats 1000000
set_option linter.unusedVariables false
set_option linter.unusedSimpArgs false
set_option maxRecDepth 100000
open Go.RowKit
def bC (c:Template) (d:Instance) (e:Int):Option Int:=
 xZ (eS c d) fun f=>
 if (!f) then
  some 1
 else
  xZ (dB e 0 5000) fun h=>
  if (!h) then
   some 2
  else
   some 0
theorem lM {B:Nat→Prop} {p:Template} {t:Instance} {f:Int} (r:Int) (d:bC p t f=some r) {j:Value} {n:Value} (e:World) (y:∀ c,B c→c<e.heap.size) (A:Bo B e (Pt 2 xJ) j p) (C:Bo B e (Pt 2 xK) n t) (x:xO f):Calls Tryz.prog 24 #[j,n,xC f] e (gF r e):=by
 unfold bC at d
 refine xW (L:=[(0,j),(1,n),(2,xC f)]) func24 rfl rfl rfl (sc rfl (sc rfl (sc rfl sn))) (fun a F=>?_);have H:=Sep.start y;refine xV (xA 1 F rfl fun a F=>xG (xF (xV (xA 2 F rfl fun a F=>?_))));obtain⟨D,E,d⟩:=xB d;refine oK F rfl call19 rfl H (mN D E _ aA (H.a A) (H.a C)) fun a w H F=>xA 1 F rfl fun a F=>xG (qS F rfl (fun i=>?_) (fun i=>?_))
 ·
  replace d:=vY i d;refine xV (xA 1 F rfl fun a F=>xG (xP (oJ (xR F rfl (xX F rfl) ?_))));obtain rfl:=oj d;exact⟨⟨rfl,H.bl⟩,(show xO (1) by decide)⟩
 replace d:=vX i d;refine xS (xH (xF (xV (xA 1 F rfl fun a F=>?_))));obtain⟨G,I,d⟩:=xB d;refine oK F rfl call44 rfl H (dU G I _ aA x (show xO (0) by decide) (show xO (5000) by decide)) fun a w H F=>xA 1 F rfl fun a F=>xG (qS F rfl (fun h=>?_) (fun h=>?_))
 ·
  replace d:=vY h d;refine xV (xA 1 F rfl fun a F=>xG (xP (oJ (xR F rfl (xX F rfl) ?_))));obtain rfl:=oj d;exact⟨⟨rfl,H.bl⟩,(show xO (2) by decide)⟩
 replace d:=vX h d;refine xS (xH (xV (xA 1 F rfl fun a F=>xG (xP (xR F rfl (xX F rfl) ?_)))));obtain rfl:=oj d;exact⟨⟨rfl,H.bl⟩,(show xO (0) by decide)⟩
def fR (c:Int):Option (List Int):=
 zW (σ:=(List Int)) (
  dQ (σ:=(List Int)) (ρ:=(List Int)) (fun (d:Nat) (e:(List Int))=>
   xZ (ap e ([(d:Int)])) fun f=>
   some (.go f)) c.toNat 0 []) fun h=>
 some h
theorem tO {B:Nat→Prop} {e:Int} (r:(List Int)) (d:fR e=some r)  (h:World) (K:∀ c,B c→c<h.heap.size) (x:xO e):Calls Tryz.prog 51 #[xC e] h (Gv (fun v w'=>∃ (A:Value),v=A∧Sep [] B h w' [rl 1 xI 2 A r])):=by
 unfold fR at d
 refine xW (L:=[(0,xC e)]) func51 rfl rfl rfl (sc rfl sn) (fun a F=>?_);have H:=Sep.start K;refine xV (xA 1 F rfl fun a F=>vE (oR0 (R:=xI) underlying32 sizeOf2 F rfl H fun a w M H F=>xA 1 F rfl fun a F=>xG ?_));refine xF (xV (xA 1 F rfl fun a F=>xG ?_));obtain⟨C,d,E⟩:=xT d;refine oR (fun a w=>∃ (t:List Int) (j:Value),C= .nx t∧Sk a 16 [(3,j)]∧Sep [] B h w [rl 1 xI 2 j t]) ?_ ?_
 ·
  refine oQ ?_;obtain⟨G,I,d⟩:=fT d;refine qY (fun g a w=>∃ (f:Nat) (n:List Int) (p:Value),f+g=e.toNat∧dQ G g f n=some C∧Sk a 16 [(4,xC (f:Int)),(0,xC e),(3,p)]∧Sep [] B h w [rl 1 xI 2 p n]) e.toNat ?_ ?_
  ·
   exact⟨0,[],M,(Nat.zero_add _),d,F.su,H⟩
  intro D a w ⟨f,n,p,i,d,F,H⟩
  cases D with
  | zero=>
   replace d:=eD d;have l1:=iH i;refine xF (xV (xA 3 F rfl fun a F=>xG (zS F rfl l1 (qV (qX ?_)))));refine qX (kF (xH ?_));exact⟨n,p,(zL d),F.su,H⟩
  | succ D=>
   obtain⟨T,d,J⟩:=eE d;rw[I] at d;have l1:=fS i;refine xF (xV (xA 3 F rfl fun a F=>xG (zQ F rfl l1 (xS (xH ?_)))));refine xF ?_;have N:=yN i x;have O:=lH i x;refine oQ (oM (xA 2 F rfl fun a F=>dF (R:=xI) (y:=(f:Int)) underlying32 sizeOf2 zeroValue2 rfl rfl F rfl rfl H (Eo.int N) (fun a w U H F=>?_)));obtain⟨P,Q,d⟩:=xB d;refine oPL (sz:=1) (R:=xI) (z:=(xC 0)) (bytes:=8) underlying32 (by kernel_rfl) rfl rfl F rfl rfl rfl (H.s [1,0] rfl rfl) Q fun a w S H F=>xA 1 F rfl fun a F=>zE (vK (xH (oM (xA 1 F rfl fun a F=>zG F rfl rfl rfl O fun a F=>xA 1 F rfl fun a F=>xG ?_))));replace d:=zM d J;exact⟨_,Nat.lt_succ_self _,f+1,P,S,(by omega),d,F.su,H⟩
 rintro a w ⟨t,j,rfl,F,H⟩
 have d:=xY E;refine xH (xV (xA 2 F rfl fun a F=>xG (xP (xR F rfl (xX F rfl) ?_))));obtain rfl:=oj d;exact⟨_,rfl,j,rfl,H⟩
def dX (c:Template) (d:Instance):Option (List (List Int)):=
 zW (σ:=(List (List Int))) (
  dQ (σ:=(List (List Int))) (ρ:=(List (List Int))) (fun(j:Nat) (e:(List (List Int)))=>
   xZ (fR c.size) fun f=>
   xZ (ap e ([f])) fun h=>
   some (.go h)) d.vars.toNat 0 []) fun i=>
 some i
theorem nL {B:Nat→Prop} {E:Template} {i:Instance} (r:(List (List Int))) (d:dX E i=some r) {j:Value} {n:Value} (e:World) (T:∀ c,B c→c<e.heap.size) (G:Bo B e (Pt 2 xJ) j E) (p:Bo B e (Pt 2 xK) n i):Calls Tryz.prog 26 #[j,n] e (Gv (fun v w'=>∃ (D:Value),v=D∧Sep [] B e w' [rl 1 (qK 1 xI) 32 D r])):=by
 unfold dX at d
 refine xW (L:=[(0,j),(1,n)]) func26 rfl rfl rfl (sc rfl (sc rfl sn)) (fun a F=>?_);have H:=Sep.start T;refine xV (xA 1 F rfl fun a F=>vE (oR0 (R:=(qK 1 xI)) underlying55 sizeOf32 F rfl H fun a w U H F=>xA 1 F rfl fun a F=>xG ?_));refine xF (xV (xA 1 F rfl fun a F=>xG ?_));obtain⟨I,d,N⟩:=xT d;refine oR (fun a w=>∃ (C:List (List Int)) (t:Value),I= .nx C∧Sk a 25 [(5,t)]∧Sep [] B e w [rl 1 (qK 1 xI) 32 t C]) ?_ ?_
 ·
  refine oQ ?_;obtain⟨O,P,d⟩:=fT d;refine qY (fun g a w=>∃ (f:Nat) (x:List (List Int)) (A:Value),f+g=i.vars.toNat∧dQ O g f x=some I∧Sk a 25 [(6,xC (f:Int)),(0,j),(1,n),(5,A)]∧Sep [] B e w [rl 1 (qK 1 xI) 32 A x]) i.vars.toNat ?_ ?_
  ·
   exact⟨0,[],U,(Nat.zero_add _),d,F.su,H⟩
  intro J a w ⟨f,x,A,h,d,F,H⟩
  cases J with
  | zero=>
   replace d:=eD d;have l1:=iH h;refine xF (xV (xA 2 F rfl fun a F=>oN F rfl rfl p fun a F=>oF (s':=1) fH F rfl rfl p xK.f0 fun a p1 V F=>olI isAgg2 F rfl rfl H.sm V fun a i1 F=>xA 1 F rfl fun a F=>xG ?_));refine zS F rfl l1 (qV (qX (qX (kF (xH ?_)))));exact⟨x,A,(zL d),F.su,H⟩
  | succ J=>
   obtain⟨a6,d,Q⟩:=eE d;rw[P] at d;have l1:=fS h;refine xF (xV (xA 2 F rfl fun a F=>oN F rfl rfl p fun a F=>oF (s':=1) fH F rfl rfl p xK.f0 fun a p2 W F=>olI isAgg2 F rfl rfl H.sm W fun a K F=>xA 1 F rfl fun a F=>xG ?_));refine zQ F rfl l1 (xS (xH (xF ?_)));have j1:=yN h K;have X:=lH h K;refine oQ (oM (xA 2 F rfl fun a F=>oN F rfl rfl G fun a F=>oF (s':=1) lD F rfl rfl G xJ.f0 fun a p3 Y F=>olI isAgg2 F rfl rfl H.sm Y (fun a Z F=>?_)));obtain⟨M,c1,d⟩:=xB d;refine oG F rfl call51 rfl (tO M c1 _ aA Z) (fun a vv w ⟨v5,a5,S⟩ F=>?_);subst vv;have H:=H.r1 S n0;have H:=H.os;refine dY (R:=(qK 1 xI)) (y:=M) underlying55 sizeOf32 zeroValue32 rfl rfl F rfl rfl H El.sl (fun a w v6 H F=>?_);obtain⟨z2,c2,d⟩:=xB d;refine oPL (sz:=1) (R:=(qK 1 xI)) (z:=(qQ)) (bytes:=24) underlying55 (by kernel_rfl) rfl rfl F rfl rfl rfl (H.s [1,0] rfl rfl) c2 fun a w v7 H F=>xA 1 F rfl fun a F=>zE (vK (xH (oM (xA 1 F rfl fun a F=>zG F rfl rfl rfl X fun a F=>xA 1 F rfl fun a F=>xG ?_))));replace d:=zM d Q;exact⟨_,Nat.lt_succ_self _,f+1,z2,v7,(by omega),d,F.su,H⟩
 rintro a w ⟨C,t,rfl,F,H⟩
 have d:=xY N;refine xH (xV (xA 2 F rfl fun a F=>xG (xP (xR F rfl (xX F rfl) ?_))));obtain rfl:=oj d;exact⟨_,rfl,t,rfl,H⟩
def dS (c:List Int):Option (List Int):=
 xZ (ap ([]) c) fun d=>
 some d
theorem fO {B:Nat→Prop} {i:List Int} (r:(List Int)) (d:dS i=some r) {f:Value} (e:World) (j:∀ c,B c→c<e.heap.size) (n:Bo B e (Sl 1 xI) f i):Calls Tryz.prog 91 #[f] e (Gv (fun v w'=>∃ (h:Value),v=h∧Sep [] B e w' [rl 1 xI 2 h r])):=by
 unfold dS at d
 refine xW (L:=[(0,f)]) func91 rfl rfl rfl (sc rfl sn) (fun a F=>?_);have H:=Sep.start j;refine xV (xA 1 F rfl fun a F=>vE (oR0 (R:=xI) underlying32 sizeOf2 F rfl H fun a w x H F=>xA 1 F rfl fun a F=>?_));obtain⟨y,p,d⟩:=xB d;refine oPf (sz:=1) (R:=xI) (z:=(xC 0)) (bytes:=8) underlying32 (by kernel_rfl) rfl rfl F rfl rfl rfl H.lw (H.lw.a n) p (fun a w t H F=>?_);have H:=H.tl;refine xA 1 F rfl fun a F=>xG (xP (xR F rfl (xX F rfl) ?_));obtain rfl:=oj d;exact⟨_,rfl,t,rfl,H⟩
def eH (c:Con) (d:List Int):Option Bool:=
 zW (σ:=Unit) (
  qR (σ:=Unit) (ρ:=Bool) (fun (e:Nat) (h:Int) (s:Unit)=>
    match s with
    | _=>
    zW (σ:=Unit) (
     dQ (σ:=Unit) (ρ:=(Ctl (Unit) Bool)) (fun (f:Nat) (s:Unit)=>
       match s with
       | _=>
       zW (σ:=Bool) (
        xZ (ix c.scope (e:Int)) fun i=>
        xZ (ix c.scope (f:Int)) fun j=>
        if (i==j) then  xZ (ix d (f:Int)) fun n=>
         some (.nx (h != n)) else  some (.nx false)) fun p=>
       if p then
        some (.ret (.ret false))
       else
        some (.go ())) (e:Int).toNat 0 ()) fun _=>
    some (.go ())) d 0 ()) fun _=>
 some true
theorem tN {B:Nat→Prop} {M:Con} {p:List Int} (r:Bool) (d:eH M p=some r) {i:Value} {j:Value} (h:World) (Y:∀ c,B c→c<h.heap.size) (A:Bo B h (Pt 2 qH) i M) (C:Bo B h (Sl 1 xI) j p):Calls Tryz.prog 145 #[i,j] h (kU (.bool r) h):=by
 unfold eH at d
 refine xW (L:=[(0,i),(1,j)]) func145 rfl rfl rfl (sc rfl (sc rfl sn)) (fun a F=>?_);have H:=Sep.start Y;refine xV (xA 1 F rfl fun a F=>xG (xF (xV (xA 1 F rfl fun a F=>xG ?_))));obtain⟨N,d,G⟩:=xT d;refine oR (fun a w=>N= .nx ()∧Sk a 44 []∧Sep [] B h w []) ?_ ?_
 ·
  refine oQ ?_;obtain⟨S,T,d⟩:=qZ d;refine qY (fun g a w=>∃ (e:Nat) (n:List Int),(e≤p.length∧p.drop e=n)∧n.length=g∧qR S n e ()=some N∧Sk a 44 [(5,xC (e:Int)),(0,i),(1,j)]∧Sep [] B h w []) p.length ?_ ?_
  ·
   exact⟨0,p,⟨Nat.zero_le _,rfl⟩,rfl,d,F.su,H⟩
  intro g1 a w ⟨e,n,f,U,d,F,H⟩
  cases n with
  | nil=>
   replace d:=vA d;have Z:=vC f.1 f.2;have l1:=zK Z;refine xF (xV (xA 2 F rfl fun a F=>oL underlying32 F rfl rfl C fun a i1 F=>xA 1 F rfl fun a F=>xG (zS F rfl l1 (qV ?_))));refine qX (qX (kF (xH ?_)));exact⟨(zL d),F.sub sn,H⟩
  | cons x2 n=>
   subst U;replace f:=qE f.2;have y1:=vH f.2.1;obtain⟨aj,d,I⟩:=qM d;rw[T] at d;have l1:=vR f.1;refine xF (xV (xA 2 F rfl fun a F=>oL underlying32 F rfl rfl C fun a O F=>xA 1 F rfl fun a F=>xG (zQ F rfl l1 (xS ?_))));refine xH (xF ?_);have P:=k64 (Nat.le_of_lt f.1) O;have m1:=kO f.1 O;refine oQ (xV (xA 1 F rfl fun a F=>xG ?_));obtain⟨Q,d,J⟩:=xT d;refine oR (fun a w=>Q= .nx ()∧Sk a 44 [(0,i),(1,j),(5,xC (e:Int))]∧Sep [] B h w []) ?_ ?_
   ·
    refine oQ ?_;obtain⟨V,W,d⟩:=fT d;refine qY (fun g a w=>∃ (t:Nat),t+g=(e:Int).toNat∧dQ V g t ()=some Q∧Sk a 44 [(6,xC (t:Int)),(0,i),(1,j),(5,xC (e:Int))]∧Sep [] B h w []) (e:Int).toNat ?_ ?_
    ·
     exact⟨0,(Nat.zero_add _),d,F.su,H⟩
    intro R a w ⟨t,y,d,F,H⟩
    cases R with
    | zero=>
     replace d:=eD d;have l2:=iH y;refine xF (xV (xA 3 F rfl fun a F=>xG (zS F rfl l2 (qV (qX ?_)))));refine qX (kF (xH ?_));exact⟨(zL d),F.su,H⟩
    | succ R=>
     obtain⟨ak,d,K⟩:=eE d;rw[W] at d;have l2:=fS y;refine xF (xV (xA 3 F rfl fun a F=>xG (zQ F rfl l2 (xS (xH ?_)))));refine xF ?_;have j2:=yN y P;have m2:=lH y P;refine oQ (xF ?_);obtain⟨o3,d,X⟩:=xT d;refine oR (fun a w=>∃ (E:Bool),o3= .nx E∧Sk a 44 [(0,i),(1,j),(5,xC (e:Int)),(6,xC (t:Int)),(43,.bool E)]∧Sep [] B h w []) ?_ ?_
     ·
      refine xQ H (by kernel_rfl) (by kernel_rfl) (xM F rfl (fun w l=>xL F rfl) fun a F=>qN F rfl rfl A fun a F=>qF (s':=1) dD F rfl rfl A qH.f1 fun a p1 h1 F=>qlS isAgg32 F rfl rfl H.q h1 fun a v2 h2 F=>xM F rfl (fun w l=>xL F rfl) (fun a F=>?_));obtain⟨z1,c1,d⟩:=xB d;refine qI underlying32 sizeOf2 F rfl rfl rfl h2 c1 fun a p2 h3 F=>qlI isAgg2 F rfl rfl H.q h3 fun a i3 F=>xM F rfl (fun w l=>xL F rfl) fun a F=>qN F rfl rfl A fun a F=>qF (s':=1) dD F rfl rfl A qH.f1 fun a p3 h4 F=>qlS isAgg32 F rfl rfl H.q h4 fun a v3 h5 F=>xM F rfl (fun w l=>xL F rfl) (fun a F=>?_);obtain⟨z2,c2,d⟩:=xB d;refine qI underlying32 sizeOf2 F rfl rfl rfl h5 c2 fun a p4 h6 F=>qlI isAgg2 F rfl rfl H.q h6 fun a i4 F=>xM F rfl (fun w l=>uS F rfl rfl) fun a F=>xM F rfl (fun w l=>xL F rfl) (fun a F=>?_)
      rcases vJ (z1==z2) with x | x
      ·
       replace d:=vY x d;have F:=F.eb 33 rfl x;refine xM F rfl (fun w l=>xL F rfl) fun a F=>xM F rfl (fun w l=>xL F rfl) fun a F=>qI underlying32 sizeOf2 F rfl rfl rfl C y1 fun a p5 h7 F=>qlI isAgg2 F rfl rfl H.q h7 fun a i5 F=>xM F rfl (fun w l=>xL F rfl) fun a F=>xM F rfl (fun w l=>xL F rfl) (fun a F=>?_);obtain⟨z3,c3,d⟩:=xB d;refine qI underlying32 sizeOf2 F rfl rfl rfl C c3 fun a p6 h8 F=>qlI isAgg2 F rfl rfl H.q h8 fun a i6 F=>xM F rfl (fun w l=>rS F rfl rfl) fun a F=>xM F rfl (fun w l=>aX F rfl rfl) fun a F=>kT fun w H=>xH ?_;exact⟨(x2 != z3),(zL d),F.su,H⟩
      replace d:=vX x d;have F:=F.eb 33 rfl x;refine qD F rfl rfl fun a F=>qD F rfl rfl fun a F=>qD F rfl rfl fun a F=>qD F rfl rfl fun a F=>qD F rfl rfl fun a F=>qD F rfl rfl fun a F=>qD F rfl rfl fun a F=>qD F rfl rfl fun a F=>qD F rfl rfl fun a F=>xM F rfl (fun w l=>bO F rfl rfl) fun a F=>kT (fun w H=>?_);refine xH ?_;exact⟨false,(zL d),F.su,H⟩
     rintro a w ⟨E,rfl,F,H⟩
     have d:=xY X;refine xH (qS F rfl (fun D=>?_) (fun D=>?_))
     ·
      replace d:=vY D d;refine xV (xA 1 F rfl fun a F=>xG (xP (vO (oJ (oJ ?_)))));replace d:=kK d K;refine vO (oJ ?_);replace d:=kI d J;refine vO (oJ (oJ ?_));replace d:=kK d I;refine vO (oJ ?_);replace d:=kI d G;refine oJ (xR F rfl (xX F rfl) ?_);obtain rfl:=oj d;exact⟨rfl,H.bl⟩
     replace d:=vX D d;refine xS (vK (xH (oM (xA 1 F rfl fun a F=>zG F rfl rfl rfl m2 fun a F=>xA 1 F rfl fun a F=>xG ?_))));replace d:=zM d K;exact⟨_,Nat.lt_succ_self _,t+1,(by omega),d,F.su,H⟩
   rintro a w ⟨rfl,F,H⟩
   have d:=xY J;refine vK (xH (oM (xA 1 F rfl fun a F=>zG F rfl rfl rfl m1 fun a F=>xA 1 F rfl fun a F=>xG ?_)));replace d:=zM d I;exact⟨_,Nat.lt_succ_self _,e+1,n,⟨f.1,f.2.2⟩,rfl,d,F.su,H⟩
 rintro a w ⟨rfl,F,H⟩
 have d:=xY G;refine xH (xV (xA 1 F rfl fun a F=>xG (xP (xR F rfl (xX F rfl) ?_))));obtain rfl:=oj d;exact⟨rfl,H.bl⟩
def dR (c:List Int) (d:Int):Option Bool:=
 zW (σ:=Unit) (
  qR (σ:=Unit) (ρ:=Bool) (fun (f:Nat) (e:Int) (s:Unit)=>
    match s with
    | _=>
    if (e==d) then
     some (.ret true)
    else
     some (.go ())) c 0 ()) fun _=>
 some false
theorem yU {B:Nat→Prop} {h:List Int} {n:Int} (r:Bool) (d:dR h n=some r) {p:Value} (i:World) (J:∀ c,B c→c<i.heap.size) (x:Bo B i (Sl 1 xI) p h) (P:xO n):Calls Tryz.prog 146 #[p,xC n] i (kU (.bool r) i):=by
 unfold dR at d
 refine xW (L:=[(0,p),(1,xC n)]) func146 rfl rfl rfl (sc rfl (sc rfl sn)) (fun a F=>?_);have H:=Sep.start J;refine xV (xA 1 F rfl fun a F=>xG (xF (xV (xA 1 F rfl fun a F=>xG ?_))));obtain⟨C,d,y⟩:=xT d;refine oR (fun a w=>C= .nx ()∧Sk a 18 []∧Sep [] B i w []) ?_ ?_
 ·
  refine oQ ?_;obtain⟨E,G,d⟩:=qZ d;refine qY (fun g a w=>∃ (j:Nat) (f:List Int),(j≤h.length∧h.drop j=f)∧f.length=g∧qR E f j ()=some C∧Sk a 18 [(5,xC (j:Int)),(0,p),(1,xC n)]∧Sep [] B i w []) h.length ?_ ?_
  ·
   exact⟨0,h,⟨Nat.zero_le _,rfl⟩,rfl,d,F.su,H⟩
  intro S a w ⟨j,f,e,I,d,F,H⟩
  cases f with
  | nil=>
   replace d:=vA d;have K:=vC e.1 e.2;have l1:=zK K;refine xF (xV (xA 2 F rfl fun a F=>oL underlying32 F rfl rfl x fun a T F=>xA 1 F rfl fun a F=>xG (zS F rfl l1 (qV ?_))));refine qX (qX (kF (xH ?_)));exact⟨(zL d),F.sub sn,H⟩
  | cons U f=>
   subst I;replace e:=qE e.2;have M:=vH e.2.1;obtain⟨Q,d,A⟩:=qM d;rw[G] at d;have l1:=vR e.1;refine xF (xV (xA 2 F rfl fun a F=>oL underlying32 F rfl rfl x fun a D F=>xA 1 F rfl fun a F=>xG (zQ F rfl l1 (xS ?_))));refine xH (xF ?_);have V:=k64 (Nat.le_of_lt e.1) D;have N:=kO e.1 D;refine oQ (xV (xA 2 F rfl fun a F=>oI underlying32 sizeOf2 F rfl rfl rfl x M fun a W O F=>olI isAgg2 F rfl rfl H.sm O fun a R F=>xA 2 F rfl fun a F=>xG ?_));refine qS F rfl (fun t=>?_) (fun t=>?_)
   ·
    replace d:=vY t d;refine xV (xA 1 F rfl fun a F=>xG (xP (vO (oJ (oJ ?_)))));replace d:=kK d A;refine vO (oJ ?_);replace d:=kI d y;refine oJ (xR F rfl (xX F rfl) ?_);obtain rfl:=oj d;exact⟨rfl,H.bl⟩
   replace d:=vX t d;refine xS (vK (xH (oM (xA 1 F rfl fun a F=>zG F rfl rfl rfl N fun a F=>xA 1 F rfl fun a F=>xG ?_))));replace d:=zM d A;exact⟨_,Nat.lt_succ_self _,j+1,f,⟨e.1,e.2.2⟩,rfl,d,F.su,H⟩
 rintro a w ⟨rfl,F,H⟩
 have d:=xY y;refine xH (xV (xA 1 F rfl fun a F=>xG (xP (xR F rfl (xX F rfl) ?_))));obtain rfl:=oj d;exact⟨rfl,H.bl⟩
def aS (N:Nat) (h:Template) (e:Con) (i:List (List Int)) (j n:Int):Option Bool:=
 xZ (ix h.rels e.rel) fun p=>
 zW (σ:=Unit) (
  qR (σ:=Unit) (ρ:=Bool) (fun (H:Nat) (d:(List Int)) (s:Unit)=>
    match s with
    | _=>
    zW (σ:=Bool) (
     xZ (ix d j) fun t=>
     if (t==n) then  xZ (eH e d) fun x=>
      some (.nx x) else  some (.nx false)) fun y=>
    zW (σ:=Bool×Int) (
     fE (σ:=Bool×Int) (ρ:=(Ctl (Unit) Bool)) (fun(s:Bool×Int)=>
       match s with
       | (f,c)=>
       zW (σ:=Bool) (
        if (decide (c<(d.length:Int))) then  some (.nx f) else  some (.nx false)) fun A=>
       if A then
        xZ (ix e.scope c) fun B=>
        xZ (ix i B) fun C=>
        xZ (ix d c) fun D=>
        xZ (dR C D) fun E=>
        xZ (ck (c+1)) fun F=>
        some (.go (E,F))
       else
        some (.brk (f,c))) N (y,0)) fun(G,I)=>
    if G then
     some (.ret true)
    else
     some (.go ())) p.tuples 0 ()) fun _=>
 some false
theorem rP {B:Nat→Prop} {N:Nat} {Y:Template} {Z:Con} {x2:List (List Int)} {n i:Int} (r:Bool) (d:aS N Y Z x2 n i=some r) {Q:Value} {p:Value} {t:Value} (e:World) (hN:∀ c,B c→c<e.heap.size) (A0:Bo B e (Pt 2 xJ) Q Y) (G:Bo B e (Pt 2 qH) p Z) (A2:Bo B e (Sl 1 (qK 1 xI)) t x2) (bn:xO n) (bp:xO i):Calls Tryz.prog 125 #[Q,p,t,xC n,xC i] e (kU (.bool r) e):=by
 unfold aS at d
 refine xW (L:=[(0,Q),(1,p),(2,t),(3,xC n),(4,xC i)]) func125 rfl rfl rfl (sc rfl (sc rfl (sc rfl (sc rfl (sc rfl sn))))) (fun a F=>?_);have H:=Sep.start hN;refine xV (xA 1 F rfl fun a F=>xG (xF (xQ H (by kernel_rfl) (by kernel_rfl) (xM F rfl (fun w l=>xL F rfl) fun a F=>qN F rfl rfl A0 fun a F=>qF (s':=1) kW F rfl rfl A0 xJ.f1 fun a p1 h1 F=>qlS isAgg24 F rfl rfl H.q h1 (fun a v3 h2 F=>?_)))));refine xM F rfl (fun w l=>xL F rfl) fun a F=>qN F rfl rfl G fun a F=>qF (s':=1) mP F rfl rfl G qH.f0 fun a p2 a8 F=>qlI isAgg2 F rfl rfl H.q a8 (fun a i1 F=>?_);obtain⟨K,c1,d⟩:=xB d;refine qI underlying24 sizeOf57 F rfl rfl rfl h2 c1 fun a I A F=>xM F rfl (fun w l=>qU F rfl) fun a F=>kT fun w H=>xH (xF (xV (xA 1 F rfl fun a F=>xG ?_)));obtain⟨o1,d,V⟩:=xT d;refine oR (fun a w=>o1= .nx ()∧Sk a 77 []∧Sep [] B e w []) ?_ ?_
 ·
  refine oQ ?_;obtain⟨a9,aa,d⟩:=qZ d;refine qY (fun g a w=>∃ (j:Nat) (x:List (List Int)),(j≤K.tuples.length∧K.tuples.drop j=x)∧x.length=g∧qR a9 x j ()=some o1∧Sk a 77 [(12,xC (j:Int)),(1,p),(2,t),(3,xC n),(4,xC i),(11,I)]∧Sep [] B e w []) K.tuples.length ?_ ?_
  ·
   exact⟨0,K.tuples,⟨Nat.zero_le _,rfl⟩,rfl,d,F.su,H⟩
  intro g1 a w ⟨j,x,f,ab,d,F,H⟩
  cases x with
  | nil=>
   replace d:=vA d;have q1:=vC f.1 f.2;have l1:=zK q1;refine xF (xV (xA 2 F rfl fun a F=>oN F rfl rfl A fun a F=>oF (s':=1) bJ F rfl rfl A qG.f1 fun a p4 h4 F=>gX isAgg55 F rfl rfl H.sm h4 fun a v4 h5 F=>oL underlying55 F rfl rfl h5 fun a i2 F=>xA 1 F rfl fun a F=>zE ?_));refine xH (zS F rfl l1 (qV (qX (qX (kF (xH ?_))))));exact⟨(zL d),F.sub sn,H⟩
  | cons x5 x=>
   subst ab;replace f:=qE f.2;have y1:=vH f.2.1;obtain⟨bq,d,W⟩:=qM d;rw[aa] at d;have l1:=vR f.1;refine xF (xV (xA 2 F rfl fun a F=>oN F rfl rfl A fun a F=>oF (s':=1) bJ F rfl rfl A qG.f1 fun a p5 h6 F=>gX isAgg55 F rfl rfl H.sm h6 fun a v5 h7 F=>oL underlying55 F rfl rfl h7 fun a i3 F=>xA 1 F rfl fun a F=>zE ?_));refine xH (zQ F rfl l1 (xS (xH (xF ?_))));have j1:=k64 (Nat.le_of_lt f.1) i3;have m1:=kO f.1 i3;refine oQ (xV (xA 1 F rfl fun a F=>oN F rfl rfl A fun a F=>oF (s':=1) bJ F rfl rfl A qG.f1 fun a p6 h8 F=>gX isAgg55 F rfl rfl H.sm h8 fun a v6 h9 F=>xA 1 F rfl fun a F=>oI underlying55 sizeOf32 F rfl rfl rfl h9 y1 fun a p7 ac F=>gX isAgg32 F rfl rfl H.sm ac fun a R J F=>xA 1 F rfl fun a F=>?_));refine xG (xF ?_);obtain⟨o2,d,ad⟩:=xT d;refine oR (fun a w=>∃ (M:Bool),o2= .nx M∧Sk a 77 [(1,p),(2,t),(3,xC n),(4,xC i),(11,I),(12,xC (j:Int)),(13,R),(14,.bool M)]∧Sep [] B e w []) ?_ ?_
   ·
    refine oM (xA 2 F rfl fun a F=>?_);obtain⟨z2,c2,d⟩:=xB d;refine oI underlying32 sizeOf2 F rfl rfl rfl J c2 fun a p8 ae F=>olI isAgg2 F rfl rfl H.sm ae fun a i4 F=>xA 3 F rfl fun a F=>?_
    rcases vJ (z2==i) with D | D
    ·
     replace d:=vY D d;have F:=F.eb 47 rfl D;refine xA 2 F rfl fun a F=>?_;obtain⟨z3,c3,d⟩:=xB d;refine oK F rfl call145 rfl H (tN z3 c3 _ aA (H.a G) (H.a J)) fun a w H F=>xA 2 F rfl fun a F=>xG ?_;exact⟨z3,(zL d),F.su,H⟩
    replace d:=vX D d;have F:=F.eb 47 rfl D;refine xA 5 F rfl fun a F=>xG ?_;exact⟨false,(zL d),F.su,H⟩
   rintro a w ⟨M,rfl,F,H⟩
   have d:=xY ad;refine xH (xF (xV (xA 1 F rfl fun a F=>xG ?_)));obtain⟨o3,d,af⟩:=xT d;refine oR (fun a w=>∃ (S:Bool) (T:Int),o3= .nx (S,T)∧Sk a 77 [(1,p),(2,t),(3,xC n),(4,xC i),(11,I),(12,xC (j:Int)),(14,.bool S)]∧Sep [] B e w []∧xO T) ?_ ?_
   ·
    refine oQ ?_;obtain⟨ag,ah,d⟩:=dE d;refine qY (fun g a w=>∃ (C:Bool) (y:Int),fE ag g (C,y)=some o3∧Sk a 77 [(1,p),(2,t),(3,xC n),(4,xC i),(11,I),(12,xC (j:Int)),(13,R),(14,.bool C),(15,xC y)]∧Sep [] B e w []∧xO y) N ?_ ?_
    ·
     exact⟨M,0,d,F.su,H,(show xO (0) by decide)⟩
    intro g2 a w ⟨C,y,d,F,H,i5⟩;obtain⟨br,t2,bt,d,X⟩:=aQ d;rw[ah] at d;refine xF (xF ?_);obtain⟨o4,d,ai⟩:=xT d;refine oR (fun a w=>∃ (U:Bool),o4= .nx U∧Sk a 77 [(1,p),(2,t),(3,xC n),(4,xC i),(11,I),(12,xC (j:Int)),(13,R),(14,.bool C),(15,xC y),(58,.bool U)]∧Sep [] B e w []) ?_ ?_
    ·
     refine oM (xA 2 F rfl fun a F=>oL underlying32 F rfl rfl J fun a i6 F=>xA 2 F rfl fun a F=>?_)
     rcases vJ (decide (y<(x5.length:Int))) with E | E
     ·
      replace d:=vY E d;have F:=F.eb 56 rfl E;refine xA 2 F rfl fun a F=>xG ?_;exact⟨C,(zL d),F.su,H⟩
     replace d:=vX E d;have F:=F.eb 56 rfl E;refine xA 2 F rfl fun a F=>xG ?_;exact⟨false,(zL d),F.su,H⟩
    rintro a w ⟨U,rfl,F,H⟩
    have d:=xY ai;refine xH (qS F rfl (fun O=>?_) (fun O=>?_))
    ·
     replace d:=vY O d;refine xS (xH (xF (oQ (xQ H (by kernel_rfl) (by kernel_rfl) (xM F rfl (fun w l=>xL F rfl) fun a F=>xM F rfl (fun w l=>xL F rfl) fun a F=>qN F rfl rfl G fun a F=>qF (s':=1) dD F rfl rfl G qH.f1 fun a p9 aj F=>qlS isAgg32 F rfl rfl H.q aj fun a v8 ak F=>xM F rfl (fun w l=>xL F rfl) (fun a F=>?_))))));obtain⟨z4,c4,d⟩:=xB d;refine qI underlying32 sizeOf2 F rfl rfl rfl ak c4 fun a bu al F=>qlI isAgg2 F rfl rfl H.q al (fun a i7 F=>?_);obtain⟨z5,c5,d⟩:=xB d;refine qI underlying55 sizeOf32 F rfl rfl rfl A2 c5 fun a bv am F=>qlS isAgg32 F rfl rfl H.q am fun a v9 an F=>xM F rfl (fun w l=>xL F rfl) fun a F=>xM F rfl (fun w l=>xL F rfl) (fun a F=>?_);obtain⟨z6,c6,d⟩:=xB d;refine qI underlying32 sizeOf2 F rfl rfl rfl J c6 fun a c0 ao F=>qlI isAgg2 F rfl rfl H.q ao (fun a i8 F=>?_);obtain⟨z7,c7,d⟩:=xB d;refine fG F rfl call146 rfl (fun w w' h l=>l.through h) (fun w l=>yU z7 c7 w aA ((H.go l).a an) i8) fun a F=>xM F rfl (fun w l=>qU F rfl) fun a F=>kT fun w H=>vK (xH (oM (xA 1 F rfl fun a F=>?_)));obtain⟨z8,c8,d⟩:=xB d;refine cR F rfl rfl rfl c8 fun a F=>xA 1 F rfl fun a F=>xG ?_;replace d:=zM d X;exact⟨t2,(by omega),z7,z8,d,F.su,H,(kQ c8)⟩
    replace d:=vX O d;refine qV (qX (qX ?_));replace d:=jO d X;refine kF (xH ?_);exact⟨C,y,(zL d),F.su,H,i5⟩
   rintro a w ⟨S,T,rfl,F,H,i9⟩
   have d:=xY af;refine xH (xV (xA 1 F rfl fun a F=>xG (qS F rfl (fun P=>?_) (fun P=>?_))))
   ·
    replace d:=vY P d;refine xV (xA 1 F rfl fun a F=>xG (xP (vO (oJ (oJ ?_)))));replace d:=kK d W;refine vO (oJ ?_);replace d:=kI d V;refine oJ (xR F rfl (xX F rfl) ?_);obtain rfl:=oj d;exact⟨rfl,H.bl⟩
   replace d:=vX P d;refine xS (vK (xH (oM (xA 1 F rfl fun a F=>zG F rfl rfl rfl m1 fun a F=>xA 1 F rfl fun a F=>xG ?_))));replace d:=zM d W;exact⟨_,Nat.lt_succ_self _,j+1,x,⟨f.1,f.2.2⟩,rfl,d,F.su,H⟩
 rintro a w ⟨rfl,F,H⟩
 have d:=xY V;refine xH (xV (xA 1 F rfl fun a F=>xG (xP (xR F rfl (xX F rfl) ?_))));obtain rfl:=oj d;exact⟨rfl,H.bl⟩
def aF (e:List Int) (f:Int):Option (List Int):=
 zW (σ:=(List Int)) (
  qR (σ:=(List Int)) (ρ:=(List Int)) (fun (j:Nat) (c:Int) (d:(List Int))=>
   if (c != f) then
    xZ (ap d ([c])) fun h=>
    some (.go h)
   else
    some (.go d)) e 0 []) fun i=>
 some i
theorem jZ {B:Nat→Prop} {i:List Int} {n:Int} (r:(List Int)) (d:aF i n=some r) {x:Value} (j:World) (T:∀ c,B c→c<j.heap.size) (A:Bo B j (Sl 1 xI) x i) (a3:xO n):Calls Tryz.prog 90 #[x,xC n] j (Gv (fun v w'=>∃ (G:Value),v=G∧Sep [] B j w' [rl 1 xI 2 G r])):=by
 unfold aF at d
 refine xW (L:=[(0,x),(1,xC n)]) func90 rfl rfl rfl (sc rfl (sc rfl sn)) (fun a F=>?_);have H:=Sep.start T;refine xV (xA 1 F rfl fun a F=>vE (oR0 (R:=xI) underlying32 sizeOf2 F rfl H fun a w U H F=>xA 1 F rfl fun a F=>xG ?_));refine xF (xV (xA 1 F rfl fun a F=>xG ?_));obtain⟨J,d,O⟩:=xT d;refine oR (fun a w=>∃ (E:List Int) (C:Value),J= .nx E∧Sk a 28 [(5,C)]∧Sep [] B j w [rl 1 xI 2 C E]) ?_ ?_
 ·
  refine oQ ?_;obtain⟨P,Q,d⟩:=qZ d;refine qY (fun g a w=>∃ (h:Nat) (f p:List Int) (t:Value),(h≤i.length∧i.drop h=f)∧f.length=g∧qR P f h p=some J∧Sk a 28 [(6,xC (h:Int)),(0,x),(1,xC n),(5,t)]∧Sep [] B j w [rl 1 xI 2 t p]) i.length ?_ ?_
  ·
   exact⟨0,i,[],U,⟨Nat.zero_le _,rfl⟩,rfl,d,F.su,H⟩
  intro g1 a w ⟨h,f,p,t,e,S,d,F,H⟩
  cases f with
  | nil=>
   replace d:=vA d;have V:=vC e.1 e.2;have l1:=zK V;refine xF (xV (xA 2 F rfl fun a F=>oL underlying32 F rfl rfl A fun a i1 F=>xA 1 F rfl fun a F=>xG (zS F rfl l1 (qV ?_))));refine qX (qX (kF (xH ?_)));exact⟨p,t,(zL d),F.su,H⟩
  | cons W f=>
   subst S;replace e:=qE e.2;have K:=vH e.2.1;obtain⟨a4,d,I⟩:=qM d;rw[Q] at d;have l1:=vR e.1;refine xF (xV (xA 2 F rfl fun a F=>oL underlying32 F rfl rfl A fun a M F=>xA 1 F rfl fun a F=>xG (zQ F rfl l1 (xS ?_))));refine xH (xF ?_);have j1:=k64 (Nat.le_of_lt e.1) M;have N:=kO e.1 M;refine oQ (xV (xA 2 F rfl fun a F=>oI underlying32 sizeOf2 F rfl rfl rfl A K fun a p1 X F=>olI isAgg2 F rfl rfl H.sm X fun a i3 F=>xA 2 F rfl fun a F=>xG ?_));refine qS F rfl (fun D=>?_) (fun D=>?_)
   ·
    replace d:=vY D d;refine oM (xA 3 F rfl fun a F=>oI underlying32 sizeOf2 F rfl rfl rfl A K fun a p2 Y F=>olI isAgg2 F rfl rfl H.sm Y fun a Z F=>dF (R:=xI) (y:=W) underlying32 sizeOf2 zeroValue2 rfl rfl F rfl rfl H (Eo.int Z) (fun a w v4 H F=>?_));obtain⟨z1,c1,d⟩:=xB d;refine oPL (sz:=1) (R:=xI) (z:=(xC 0)) (bytes:=8) underlying32 (by kernel_rfl) rfl rfl F rfl rfl rfl (H.s [1,0] rfl rfl) c1 fun a w v5 H F=>xA 1 F rfl fun a F=>zE (vK (xH (oM (xA 1 F rfl fun a F=>zG F rfl rfl rfl N fun a F=>xA 1 F rfl fun a F=>xG ?_))));replace d:=zM d I;exact⟨_,Nat.lt_succ_self _,h+1,f,z1,v5,⟨e.1,e.2.2⟩,rfl,d,F.su,H⟩
   replace d:=vX D d;refine xS (vK (xH (oM (xA 1 F rfl fun a F=>zG F rfl rfl rfl N fun a F=>xA 1 F rfl fun a F=>xG ?_))));replace d:=zM d I;exact⟨_,Nat.lt_succ_self _,h+1,f,p,t,⟨e.1,e.2.2⟩,rfl,d,F.su,H⟩
 rintro a w ⟨E,C,rfl,F,H⟩
 have d:=xY O;refine xH (xV (xA 2 F rfl fun a F=>xG (xP (xR F rfl (xX F rfl) ?_))));obtain rfl:=oj d;exact⟨_,rfl,C,rfl,H⟩
def kZ (N:Nat) (L:Template) (M:Instance) (e:List (List Int)) (t:Bool):Option ((List ArcStep)×(List (List Int))):=
 zW (σ:=Int) (
  fE (σ:=Int) (ρ:=(List ArcStep)×(List (List Int))) (fun(f:Int)=>
   zW (σ:=Bool) (
    if (decide (f<(e.length:Int))) then  some (.nx t) else  some (.nx false)) fun O=>
   if O then
    xZ (ix e f) fun P=>
    if ((P.length:Int)==0) then
     some (.ret ([],e))
    else
     xZ (ck (f+1)) fun Q=>
     some (.go Q)
   else
    some (.brk f)) N 0) fun s3=>
 zW (σ:=(List ArcStep)×Int×(List (List Int))) (
  fE (σ:=(List ArcStep)×Int×(List (List Int))) (ρ:=(List ArcStep)×(List (List Int))) (fun(s:(List ArcStep)×Int×(List (List Int)))=>
    match s with
    | (h,x,y)=>
    if (x != (h.length:Int)) then
     zW (σ:=(List ArcStep)×(List (List Int))) (
      qR (σ:=(List ArcStep)×(List (List Int))) (ρ:=(Ctl ((List ArcStep)×Int×(List (List Int))) ((List ArcStep)×(List (List Int))))) (fun (R:Nat) (A:Con) (s:(List ArcStep)×(List (List Int)))=>
        match s with
        | (S,T)=>
        zW (σ:=(List ArcStep)×(List (List Int))) (
         qR (σ:=(List ArcStep)×(List (List Int))) (ρ:=(Ctl ((List ArcStep)×(List (List Int))) (Ctl ((List ArcStep)×Int×(List (List Int))) ((List ArcStep)×(List (List Int)))))) (fun (U:Nat) (c:Int) (s:(List ArcStep)×(List (List Int)))=>
           match s with
           | (V,n)=>
           xZ (ix n c) fun W=>
           xZ (dS W) fun X=>
           zW (σ:=(List ArcStep)×(List (List Int))) (
            qR (σ:=(List ArcStep)×(List (List Int))) (ρ:=(Ctl ((List ArcStep)×(List (List Int))) (Ctl ((List ArcStep)×(List (List Int))) (Ctl ((List ArcStep)×Int×(List (List Int))) ((List ArcStep)×(List (List Int))))))) (fun (k3:Nat) (i:Int) (s:(List ArcStep)×(List (List Int)))=>
              match s with
              | (p,d)=>
              xZ (aS N L A d (U:Int) i) fun Y=>
              if (!Y) then
               xZ (ix d c) fun Z=>
               xZ (aF Z i) fun j=>
               xZ (ap p ([(ArcStep.mk c i (R:Int))])) fun B=>
               zW (σ:=Bool) (
                if t then  xZ (ix (d.set (c).toNat j) c) fun z9=>
                 some (.nx ((z9.length:Int)==0)) else  some (.nx false)) fun C=>
               if C then
                some (.ret (.ret (.ret (.ret (B,(d.set (c).toNat j))))))
               else
                some (.go (B,(d.set (c).toNat j)))
              else
               some (.go (p,d))) X 0 (V,n)) fun(D,E)=>
           some (.go (D,E))) A.scope 0 (S,T)) fun(F,G)=>
        some (.go (F,G))) M.cons 0 (h,y)) fun(H,I)=>
     some (.go (H,(h.length:Int),I))
    else
     some (.brk (h,x,y))) N ([],(-1),e)) fun(J,a1,K)=>
 some (J,K)
theorem pH {B:Nat→Prop} {N:Nat} {x0:Template} {V:Instance} {O:List (List Int)} {i:Bool} (r:(List ArcStep)×(List (List Int))) (d:kZ N x0 V O i=some r) {j:Value} {n:Value} {f:Value} {p:List Nat} (h:World) (hN:∀ c,B c→c<h.heap.size) (S0:Sep p B h h [rw N0 1 (qK 1 xI) 32 f O]) (A0:Bo B h (Pt 2 xJ) j x0) (W:Bo B h (Pt 2 xK) n V):Calls Tryz.prog 86 #[j,n,f,.bool i] h (Gv (fun v w'=>∃ (bc:Value),v=bc∧Sep p B h w' [rl 3 oU 152 bc r.1,rw N0 1 (qK 1 xI) 32 f r.2])):=by
 unfold kZ at d
 refine xW (L:=[(0,j),(1,n),(2,f),(3,.bool i)]) func86 rfl rfl rfl (sc rfl (sc rfl (sc rfl (sc rfl sn)))) (fun a F=>?_);have H:=S0;refine xV (xA 1 F rfl fun a F=>vE (oR0 (R:=oU) underlying149 sizeOf152 F rfl H fun a w I H F=>xA 1 F rfl fun a F=>xG ?_));refine xF (xV (xA 1 F rfl fun a F=>xG ?_));obtain⟨o1,d,be⟩:=xT d;refine oR (fun a w=>∃ (s1:Int),o1= .nx s1∧Sk a 126 [(0,j),(1,n),(2,f),(3,.bool i),(9,I)]∧Sep p B h w [rl 3 oU 152 I ([]),rw N0 1 (qK 1 xI) 32 f O]∧xO s1) ?_ ?_
 ·
  refine oQ ?_;obtain⟨fl1,hf1,d⟩:=dE d;refine qY (fun g a w=>∃ (P:Int),fE fl1 g P=some o1∧Sk a 126 [(0,j),(1,n),(2,f),(3,.bool i),(9,I),(10,xC P)]∧Sep p B h w [rl 3 oU 152 I ([]),rw N0 1 (qK 1 xI) 32 f O]∧xO P) N ?_ ?_
  ·
   exact⟨0,d,F.su,H,(show xO (0) by decide)⟩
  intro g1 a w ⟨P,d,F,H,i1⟩;obtain⟨el,t1,em,d,aq⟩:=aQ d;rw[hf1] at d;refine xF (xF ?_);obtain⟨o2,d,hk2⟩:=xT d;refine oR (fun a w=>∃ (s3:Bool),o2= .nx s3∧Sk a 126 [(0,j),(1,n),(2,f),(3,.bool i),(9,I),(10,xC P),(25,.bool s3)]∧Sep p B h w [rl 3 oU 152 I ([]),rw N0 1 (qK 1 xI) 32 f O]) ?_ ?_
  ·
   refine oM (xA 2 F rfl fun a F=>oL underlying55 F rfl rfl (H.r 1 rfl) fun a i2 F=>xA 2 F rfl fun a F=>?_)
   rcases vJ (decide (P<(O.length:Int))) with Y | Y
   ·
    replace d:=vY Y d;have F:=F.eb 23 rfl Y;refine xA 2 F rfl fun a F=>xG ?_;exact⟨i,(zL d),F.su,H⟩
   replace d:=vX Y d;have F:=F.eb 23 rfl Y;refine xA 2 F rfl fun a F=>xG ?_;exact⟨false,(zL d),F.su,H⟩
  rintro a w ⟨s3,rfl,F,H⟩
  have d:=xY hk2;refine xH (qS F rfl (fun ar=>?_) (fun ar=>?_))
  ·
   replace d:=vY ar d;refine xS (xH (xF (oQ (xV (xA 2 F rfl fun a F=>?_)))));obtain⟨z1,c1,d⟩:=xB d;refine oI underlying55 sizeOf32 F rfl rfl rfl (H.r 1 rfl) c1 fun a p1 h1 F=>gX isAgg32 F rfl rfl (Sm.refl _ _) h1 fun a v4 ca F=>oL underlying32 F rfl rfl ca fun a i3 F=>xA 1 F rfl fun a F=>xG (qS F rfl (fun au=>?_) (fun au=>?_))
   ·
    replace d:=vY au d;refine xV (xA 2 F rfl fun a F=>xG (xP (vO (oJ (oJ ?_)))));replace d:=kK d aq;refine vO (oJ ?_);replace d:=kI d be;refine oJ (xR F rfl (xX F rfl) ?_);obtain rfl:=oj d;exact⟨_,rfl,I,rfl,H⟩
   replace d:=vX au d;refine xS (vK (xH (oM (xA 1 F rfl fun a F=>?_))));obtain⟨z2,c2,d⟩:=xB d;refine cR F rfl rfl rfl c2 fun a F=>xA 1 F rfl fun a F=>xG ?_;replace d:=zM d aq;exact⟨t1,(by omega),z2,d,F.su,H,(kQ c2)⟩
  replace d:=vX ar d;refine qV (qX (qX ?_));replace d:=jO d aq;refine kF (xH ?_);exact⟨P,(zL d),F.su,H,i1⟩
 rintro a w ⟨s1,rfl,F,H,i4⟩
 have d:=xY be;refine xH (xF (xV (xA 1 F rfl fun a F=>xG ?_)));obtain⟨o3,d,bf⟩:=xT d;refine oR (fun a w=>∃ (s4:List ArcStep) (v5:Value) (s5:Int) (s6:List (List Int)),o3= .nx (s4,s5,s6)∧Sk a 126 [(2,f),(9,v5)]∧Sep p B h w [rl 3 oU 152 v5 s4,rw N0 1 (qK 1 xI) 32 f s6]∧xO s5) ?_ ?_
 ·
  refine oQ ?_;obtain⟨cb,cc,d⟩:=dE d;refine qY (fun g a w=>∃ (t:List ArcStep) (v6:Value) (s8:Int) (s9:List (List Int)),fE cb g (t,s8,s9)=some o3∧Sk a 126 [(0,j),(1,n),(2,f),(3,.bool i),(9,v6),(11,xC s8)]∧Sep p B h w [rl 3 oU 152 v6 t,rw N0 1 (qK 1 xI) 32 f s9]∧xO s8) N ?_ ?_
  ·
   exact⟨[],I,(-1),O,d,F.su,H,(show xO (-1) by decide)⟩
  intro g2 a w ⟨t,v6,s8,s9,d,F,H,i5⟩;obtain⟨en,t2,eo,d,av⟩:=aQ d;rw[cc] at d;refine xF (xV (xA 2 F rfl fun a F=>oL underlying149 F rfl rfl (H.l 0 rfl) fun a i6 F=>xA 1 F rfl fun a F=>xG (qS F rfl (fun aw=>?_) (fun aw=>?_))))
  ·
   replace d:=vY aw d;refine xS (xH (oQ (xV (xA 1 F rfl fun a F=>oL underlying149 F rfl rfl (H.l 0 rfl) fun a i7 F=>xA 1 F rfl fun a F=>xG (xF ?_)))));refine oM (xA 1 F rfl fun a F=>xG ?_);obtain⟨o4,d,bg⟩:=xT d;refine oR (fun a w=>∃ (ac:List ArcStep) (v7:Value) (ad:List (List Int)),o4= .nx (ac,ad)∧Sk a 126 [(0,j),(1,n),(2,f),(3,.bool i),(9,v7),(11,xC (t.length:Int))]∧Sep p B h w [rl 3 oU 152 v7 ac,rw N0 1 (qK 1 xI) 32 f ad]) ?_ ?_
   ·
    refine oQ ?_;obtain⟨cd,ce,d⟩:=qZ d;refine qY (fun g a w=>∃ (C:Nat) (Q:List Con) (Z:List ArcStep) (v8:Value) (a0:List (List Int)),(C≤V.cons.length∧V.cons.drop C=Q)∧Q.length=g∧qR cd Q C (Z,a0)=some o4∧Sk a 126 [(12,xC (C:Int)),(0,j),(1,n),(2,f),(3,.bool i),(9,v8),(11,xC (t.length:Int))]∧Sep p B h w [rl 3 oU 152 v8 Z,rw N0 1 (qK 1 xI) 32 f a0]) V.cons.length ?_ ?_
    ·
     exact⟨0,V.cons,t,v6,s9,⟨Nat.zero_le _,rfl⟩,rfl,d,F.su,H⟩
    intro g3 a w ⟨C,Q,Z,v8,a0,D,cf,d,F,H⟩
    cases Q with
    | nil=>
     replace d:=vA d;have q1:=vC D.1 D.2;have l1:=zK q1;refine xF (xV (xA 2 F rfl fun a F=>oN F rfl rfl W fun a F=>oF (s':=1) aD F rfl rfl W xK.f1 fun a p2 h2 F=>gX isAgg27 F rfl rfl H.sm h2 fun a v9 h3 F=>oL underlying27 F rfl rfl h3 fun a i8 F=>xA 1 F rfl fun a F=>zE ?_));refine xH (zS F rfl l1 (qV (qX (qX (kF (xH ?_))))));exact⟨Z,v8,a0,(zL d),F.su,H⟩
    | cons x4 Q=>
     subst cf;replace D:=qE D.2;have y1:=vH D.2.1;obtain⟨ep,d,bh⟩:=qM d;rw[ce] at d;have l1:=vR D.1;refine xF (xV (xA 2 F rfl fun a F=>oN F rfl rfl W fun a F=>oF (s':=1) aD F rfl rfl W xK.f1 fun a p3 h4 F=>gX isAgg27 F rfl rfl H.sm h4 fun a er h5 F=>oL underlying27 F rfl rfl h5 fun a i9 F=>xA 1 F rfl fun a F=>zE ?_));refine xH (zQ F rfl l1 (xS (xH (xF ?_))));have j1:=k64 (Nat.le_of_lt D.1) i9;have m1:=kO D.1 i9;refine oQ (xV (xA 1 F rfl fun a F=>oN F rfl rfl W fun a F=>oF (s':=1) aD F rfl rfl W xK.f1 fun a p4 h6 F=>gX isAgg27 F rfl rfl H.sm h6 fun a es h7 F=>xA 1 F rfl fun a F=>oI underlying27 sizeOf60 F rfl rfl rfl h7 y1 fun a p5 T F=>xA 1 F rfl fun a F=>zE ?_));refine xH (xV (xA 1 F rfl fun a F=>xG ?_));obtain⟨o5,d,bi⟩:=xT d;refine oR (fun a w=>∃ (ae:List ArcStep) (af:Value) (ag:List (List Int)),o5= .nx (ae,ag)∧Sk a 126 [(0,j),(1,n),(2,f),(3,.bool i),(9,af),(11,xC (t.length:Int)),(12,xC (C:Int))]∧Sep p B h w [rl 3 oU 152 af ae,rw N0 1 (qK 1 xI) 32 f ag]) ?_ ?_
     ·
      refine oQ ?_;obtain⟨cg,ch,d⟩:=qZ d;refine qY (fun g a w=>∃ (G:Nat) (U:List Int) (a1:List ArcStep) (a2:Value) (a3:List (List Int)),(G≤x4.scope.length∧x4.scope.drop G=U)∧U.length=g∧qR cg U G (a1,a3)=some o5∧Sk a 126 [(14,xC (G:Int)),(0,j),(1,n),(2,f),(3,.bool i),(9,a2),(11,xC (t.length:Int)),(12,xC (C:Int)),(13,p5)]∧Sep p B h w [rl 3 oU 152 a2 a1,rw N0 1 (qK 1 xI) 32 f a3]) x4.scope.length ?_ ?_
      ·
       exact⟨0,x4.scope,Z,v8,a0,⟨Nat.zero_le _,rfl⟩,rfl,d,F.su,H⟩
      intro g4 a w ⟨G,U,a1,a2,a3,E,ci,d,F,H⟩
      cases U with
      | nil=>
       replace d:=vA d;have q2:=vC E.1 E.2;have l2:=zK q2;refine xF (xV (xA 2 F rfl fun a F=>oN F rfl rfl T fun a F=>oF (s':=1) dD F rfl rfl T qH.f1 fun a p6 h9 F=>gX isAgg32 F rfl rfl H.sm h9 fun a et cj F=>oL underlying32 F rfl rfl cj fun a eu F=>xA 1 F rfl fun a F=>zE ?_));refine xH (zS F rfl l2 (qV (qX (qX (kF (xH ?_))))));exact⟨a1,a2,a3,(zL d),F.su,H⟩
      | cons x5 U=>
       subst ci;replace E:=qE E.2;have y2:=vH E.2.1;obtain⟨ew,d,bj⟩:=qM d;rw[ch] at d;have l2:=vR E.1;refine xF (xV (xA 2 F rfl fun a F=>oN F rfl rfl T fun a F=>oF (s':=1) dD F rfl rfl T qH.f1 fun a p7 cl F=>gX isAgg32 F rfl rfl H.sm cl fun a ex cm F=>oL underlying32 F rfl rfl cm fun a bm F=>xA 1 F rfl fun a F=>zE ?_));refine xH (zQ F rfl l2 (xS (xH (xF ?_))));have j2:=k64 (Nat.le_of_lt E.1) bm;have m2:=kO E.1 bm;refine oQ (xV (xA 1 F rfl fun a F=>oN F rfl rfl T fun a F=>oF (s':=1) dD F rfl rfl T qH.f1 fun a p8 cn F=>gX isAgg32 F rfl rfl H.sm cn fun a ey co F=>xA 1 F rfl fun a F=>oI underlying32 sizeOf2 F rfl rfl rfl co y2 fun a p9 cp F=>olI isAgg2 F rfl rfl H.sm cp fun a cq F=>xA 1 F rfl fun a F=>?_));refine vE (xA 2 F rfl fun a F=>?_);obtain⟨z3,c3,d⟩:=xB d;refine oI underlying55 sizeOf32 F rfl rfl rfl (H.r 1 rfl) c3 fun a ez cr F=>gX isAgg32 F rfl rfl (Sm.refl _ _) cr (fun a f3 cs F=>?_);obtain⟨X,c4,d⟩:=xB d;refine oG F rfl call91 rfl (fO X c4 _ aA cs) (fun a vv w ⟨ax,f4,S⟩ F=>?_);subst vv;have H:=H.r1 S n0;refine xA 1 F rfl fun a F=>vE (xA 1 F rfl fun a F=>xG ?_);obtain⟨o6,d,bn⟩:=xT d;refine oR (fun a w=>∃ (ah:List ArcStep) (ai:Value) (aj:List (List Int)),o6= .nx (ah,aj)∧Sk a 126 [(0,j),(1,n),(2,f),(3,.bool i),(9,ai),(11,xC (t.length:Int)),(12,xC (C:Int)),(13,p5),(14,xC (G:Int))]∧Sep p B h w [rl 3 oU 152 ai ah,rw N0 1 (qK 1 xI) 32 f aj]) ?_ ?_
       ·
        refine oQ ?_;obtain⟨ct,cu,d⟩:=qZ d;refine qY (fun g a w=>∃ (J:Nat) (K:List Int) (a4:List ArcStep) (a5:Value) (M:List (List Int)),(J≤X.length∧X.drop J=K)∧K.length=g∧qR ct K J (a4,M)=some o6∧Sk a 126 [(17,xC (J:Int)),(0,j),(1,n),(2,f),(3,.bool i),(9,a5),(11,xC (t.length:Int)),(12,xC (C:Int)),(13,p5),(14,xC (G:Int)),(15,xC x5),(16,ax)]∧Sep p B h w [rl 1 xI 2 ax X,rl 3 oU 152 a5 a4,rw N0 1 (qK 1 xI) 32 f M]) X.length ?_ ?_
        ·
         exact⟨0,X,a1,a2,a3,⟨Nat.zero_le _,rfl⟩,rfl,d,F.su,H⟩
        intro g5 a w ⟨J,K,a4,a5,M,A,cx,d,F,H⟩
        cases K with
        | nil=>
         replace d:=vA d;have q3:=vC A.1 A.2;have l3:=zK q3;refine xF (xV (xA 2 F rfl fun a F=>oL underlying32 F rfl rfl (H.l 0 rfl) fun a f5 F=>xA 1 F rfl fun a F=>xG (zS F rfl l3 (qV ?_))));refine qX (qX (kF (xH ?_)));exact⟨a4,a5,M,(zL d),F.su,(H.s [1,2] rfl rfl)⟩
        | cons x6 K=>
         subst cx;replace A:=qE A.2;have y3:=vH A.2.1;obtain⟨f6,d,ay⟩:=qM d;rw[cu] at d;have l3:=vR A.1;refine xF (xV (xA 2 F rfl fun a F=>oL underlying32 F rfl rfl (H.l 0 rfl) fun a bp F=>xA 1 F rfl fun a F=>xG (zQ F rfl l3 (xS ?_))));refine xH (xF ?_);have j3:=k64 (Nat.le_of_lt A.1) bp;have m3:=kO A.1 bp;refine oQ (xV (xA 6 F rfl fun a F=>oI underlying32 sizeOf2 F rfl rfl rfl (H.l 0 rfl) y3 fun a f7 cy F=>olI isAgg2 F rfl rfl (Sm.refl _ _) cy (fun a cz F=>?_)));obtain⟨z5,c5,d⟩:=xB d;refine oK F rfl call125 rfl H (rP z5 c5 _ aA (H.a A0) (H.a T) (H.r 2 rfl) j2 cz) fun a w H F=>xA 1 F rfl fun a F=>xG (qS F rfl (fun az=>?_) (fun az=>?_))
         ·
          replace d:=vY az d;refine xF ?_;obtain⟨z6,c6,d⟩:=xB d;obtain⟨z7,c7,d⟩:=xB d;obtain⟨w1,rfl⟩:∃ x,x=w:=⟨_,rfl⟩;have f8:=H.sm;obtain⟨X1,N1,g6,e1,H,bq,f9⟩:=H.fza;have br:=g6.ld;refine xD H (by kernel_rfl) fun w H=>qP 0 rfl (by kernel_rfl) (xN F rfl (fun w l=>xL F rfl) fun a F=>qP 1 rfl (by kernel_rfl) (xN F rfl (fun w l=>xL F rfl) fun a F=>qP 2 rfl (by kernel_rfl) (xN F rfl (fun w l=>xL F rfl) fun a F=>qP 3 rfl (by kernel_rfl) (xN F rfl (fun w l=>xL F rfl) fun a F=>qP 6 rfl (by kernel_rfl) (xN F rfl (fun w l=>xL F rfl) (fun a F=>?_))))));refine qP 7 rfl (by kernel_rfl) (xN F rfl (fun w l=>xL F rfl) fun a F=>oV 8 rfl (by kernel_rfl) (vI underlying32 sizeOf2 F rfl rfl rfl br y3 fun a fa d0 F=>oV 9 rfl (by kernel_rfl) (vlI isAgg2 F rfl rfl H.v d0 fun a d1 F=>xE H 4 rfl (by kernel_rfl) (oI underlying55 sizeOf32 F rfl rfl rfl (H.r 1 rfl) c6 fun a fb d2 F=>xG ⟨⟨_,H⟩,?_⟩))));refine xE H 5 rfl (by kernel_rfl) (gX isAgg32 F rfl rfl (Sm.refl _ _) d2 fun a fc d3 F=>xG ⟨⟨_,H⟩,?_⟩);refine xE H 10 rfl (by kernel_rfl) (oG F rfl call90 rfl (jZ z7 c7 _ aA d3 d1) (fun a vv w ⟨fd,fe,S⟩ F=>?_));subst vv;have H:=H.r1 S n0;refine xG ⟨⟨_,H⟩,?_⟩;refine xE H 11 rfl (by kernel_rfl) (oRi underlying55 sizeOf32 F rfl rfl rfl H 2 rfl c6 fun a ff fg d4 F=>xG ⟨⟨_,H⟩,?_⟩);refine xE H 12 rfl (by kernel_rfl) (oSc sizeOf32 F rfl rfl rfl (H.s [2,0,1] rfl rfl) d4 (fQ c6) n0 (fun e q=>(Eo.sl q.ld)) ((H.s [2,0,1] rfl rfl).l 1 rfl).one rfl fun w H=>xG ⟨⟨_,H⟩,?_⟩);refine vP (by kernel_rfl) (xH (xV (xA 4 F rfl fun a F=>oI underlying32 sizeOf2 F rfl rfl rfl br y3 fun a fh d5 F=>olI isAgg2 F rfl rfl H.sm d5 fun a d6 F=>xA 1 F rfl fun a F=>?_)));refine kY underlying152 zeroValue152 (fun w=>by simp [sizeOf2];rfl) F rfl rfl rfl rfl rfl (oc rfl (oc rfl (oc rfl on))) rfl rfl fun a F=>dF (R:=oU) (y:=(ArcStep.mk x5 x6 (C:Int))) underlying149 sizeOf152 zeroValue152 rfl rfl F rfl rfl H (Eo.agg (oU.m cq d6 j1)) (fun a w fi H F=>?_);obtain⟨z8,c8,d⟩:=xB d;refine oPL (sz:=3) (R:=oU) (z:=(.agg #[xC 0,xC 0,xC 0])) (bytes:=24) underlying149 (by kernel_rfl) rfl rfl F rfl rfl rfl (H.s [2,0,1] rfl rfl) c8 fun a w ak H F=>xA 1 F rfl fun a F=>xG (xF ?_);obtain⟨o7,d,d7⟩:=xT d;refine oR (fun a w=>∃ (b0:Bool),o7= .nx b0∧Sk a 126 [(0,j),(1,n),(2,f),(3,.bool i),(9,ak),(11,xC (t.length:Int)),(12,xC (C:Int)),(13,p5),(14,xC (G:Int)),(15,xC x5),(16,ax),(17,xC (J:Int)),(123,.bool b0)]∧Sep X1 N1 w1 w [rl 3 oU 152 ak z8,rw N0 1 (qK 1 xI) 32 f (M.set (x5).toNat z7)]) ?_ ?_
          ·
           refine oM (xA 2 F rfl fun a F=>?_)
           rcases vJ i with a6 | a6
           ·
            replace d:=vY a6 d;have F:=F.eb 116 rfl a6;refine xA 2 F rfl fun a F=>?_;obtain⟨z9,c9,d⟩:=xB d;refine oI underlying55 sizeOf32 F rfl rfl rfl (H.r 1 rfl) c9 fun a fj d8 F=>gX isAgg32 F rfl rfl (Sm.refl _ _) d8 fun a fk d9 F=>oL underlying32 F rfl rfl d9 fun a fl F=>xA 2 F rfl fun a F=>xG ?_;exact⟨((z9.length:Int)==0),(zL d),F.su,H⟩
           replace d:=vX a6 d;have F:=F.eb 116 rfl a6;refine xA 7 F rfl fun a F=>xG ?_;exact⟨false,(zL d),F.su,H⟩
          rintro a w ⟨b0,rfl,F,H⟩
          have d:=xY d7;refine xH (qS F rfl (fun b1=>?_) (fun b1=>?_))
          ·
           replace d:=vY b1 d;refine xV (xA 2 F rfl fun a F=>xG (xP (vO (oJ (oJ ?_)))));replace d:=kK d ay;refine vO (oJ ?_);replace d:=kI d bn;refine vO (oJ (oJ ?_));replace d:=kK d bj;refine vO (oJ ?_);replace d:=kI d bi;refine vO (oJ (oJ ?_));replace d:=kK d bh;refine vO (oJ ?_);replace d:=kI d bg;refine vO (oJ ?_);replace d:=kK d av;refine vO (oJ ?_);replace d:=kI d bf;refine oJ ?_;have H:=(bq.1 H (Ns.all ⟨n0,⟨n0,trivial⟩⟩));refine xR F rfl (xX F rfl) ?_;obtain rfl:=oj d;exact⟨_,rfl,ak,rfl,(H.s [1,2] rfl rfl)⟩
          replace d:=vX b1 d;refine xS (vK (xH (oM (xA 1 F rfl fun a F=>zG F rfl rfl rfl m3 fun a F=>xA 1 F rfl fun a F=>xG ?_))));replace d:=zM d ay;exact⟨_,Nat.lt_succ_self _,J+1,K,z8,ak,(M.set (x5).toNat z7),⟨A.1,A.2.2⟩,rfl,d,F.su,(bq.1 H (Ns.all ⟨n0,⟨n0,trivial⟩⟩))⟩
         replace d:=vX az d;refine xS (vK (xH (oM (xA 1 F rfl fun a F=>zG F rfl rfl rfl m3 fun a F=>xA 1 F rfl fun a F=>xG ?_))));replace d:=zM d ay;exact⟨_,Nat.lt_succ_self _,J+1,K,a4,a5,M,⟨A.1,A.2.2⟩,rfl,d,F.su,H⟩
       rintro a w ⟨ah,ai,aj,rfl,F,H⟩
       have d:=xY bn;refine vK (xH (oM (xA 1 F rfl fun a F=>zG F rfl rfl rfl m2 fun a F=>xA 1 F rfl fun a F=>xG ?_)));replace d:=zM d bj;exact⟨_,Nat.lt_succ_self _,G+1,U,ah,ai,aj,⟨E.1,E.2.2⟩,rfl,d,F.su,H⟩
     rintro a w ⟨ae,af,ag,rfl,F,H⟩
     have d:=xY bi;refine vK (xH (oM (xA 1 F rfl fun a F=>zG F rfl rfl rfl m1 fun a F=>xA 1 F rfl fun a F=>xG ?_)));replace d:=zM d bh;exact⟨_,Nat.lt_succ_self _,C+1,Q,ae,af,ag,⟨D.1,D.2.2⟩,rfl,d,F.su,H⟩
   rintro a w ⟨ac,v7,ad,rfl,F,H⟩
   have d:=xY bg;refine vK (xH ?_);replace d:=zM d av;exact⟨t2,(by omega),ac,v7,(t.length:Int),ad,d,F.su,H,i7⟩
  replace d:=vX aw d;refine qV (qX (qX ?_));replace d:=jO d av;refine kF (xH ?_);exact⟨t,v6,s8,s9,(zL d),F.su,H,i5⟩
 rintro a w ⟨s4,v5,s5,s6,rfl,F,H,fm⟩
 have d:=xY bf;refine xH (xV (xA 2 F rfl fun a F=>xG (xP (xR F rfl (xX F rfl) ?_))));obtain rfl:=oj d;exact⟨_,rfl,v5,rfl,H⟩
def cU (f:Template) (h:Instance) (i j:Int) (n:List Line) (p:List Int) (t:Bool) (c:List (List Int)):Option Int:=
 zW (σ:=Unit) (
  qR (σ:=Unit) (ρ:=Int) (fun (d:Nat) (e:(List Int)) (s:Unit)=>
    match s with
    | _=>
    if ((e.length:Int)==0) then
     some (.ret ((d:Int)))
    else
     some (.go ())) c 0 ()) fun _=>
 some ((-1))
theorem mI {B:Nat→Prop} {N:Template} {O:Instance} {p t:Int} {A:List Line} {C:List Int} {D:Bool} {x:List (List Int)} (r:Int) (d:cU N O p t A C D x=some r) {j:Nat} {E:Value} {G:Value} {h:Value} {i:Value} {I:Value} {J:List Nat} (f:World) (hN:∀ c,B c→c<f.heap.size) (W:Sep J B f f [bx j [E,G,xC p,xC t,h,i,.bool D] 73,rl 4 oP 77 h A,rl 1 xI 2 i C]) (a3:Bo B f (Pt 2 xJ) E N) (a4:Bo B f (Pt 2 xK) G O) (a5:xO p) (a6:xO t) (M:Bo B f (Sl 1 (qK 1 xI)) I x):Calls Tryz.prog 87 #[qC j,I] f (Gv (fun v w'=>v=xC r∧Sep J B f w' [bx j [E,G,xC p,xC t,h,i,.bool D] 73,rl 4 oP 77 h A,rl 1 xI 2 i C]∧xO r)):=by
 unfold cU at d
 refine xW (L:=[(0,qC j),(1,I)]) func87 rfl rfl rfl (sc rfl (sc rfl sn)) (fun a F=>?_);have H:=W;refine xV (xA 1 F rfl fun a F=>xG (xF (xV (xA 1 F rfl fun a F=>xG ?_))));obtain⟨R,d,P⟩:=xT d;refine oR (fun a w=>R= .nx ()∧Sk a 19 [(0,qC j)]∧Sep J B f w [bx j [E,G,xC p,xC t,h,i,.bool D] 73,rl 4 oP 77 h A,rl 1 xI 2 i C]) ?_ ?_
 ·
  refine oQ ?_;obtain⟨T,U,d⟩:=qZ d;refine qY (fun g a w=>∃ (y:Nat) (n:List (List Int)),(y≤x.length∧x.drop y=n)∧n.length=g∧qR T n y ()=some R∧Sk a 19 [(5,xC (y:Int)),(0,qC j),(1,I)]∧Sep J B f w [bx j [E,G,xC p,xC t,h,i,.bool D] 73,rl 4 oP 77 h A,rl 1 xI 2 i C]) x.length ?_ ?_
  ·
   exact⟨0,x,⟨Nat.zero_le _,rfl⟩,rfl,d,F.su,H⟩
  intro g1 a w ⟨y,n,e,V,d,F,H⟩
  cases n with
  | nil=>
   replace d:=vA d;have X:=vC e.1 e.2;have l1:=zK X;refine xF (xV (xA 2 F rfl fun a F=>oL underlying55 F rfl rfl M fun a i1 F=>xA 1 F rfl fun a F=>xG (zS F rfl l1 (qV ?_))));refine qX (qX (kF (xH ?_)));exact⟨(zL d),F.su,H⟩
  | cons x2 n=>
   subst V;replace e:=qE e.2;have Y:=vH e.2.1;obtain⟨a7,d,Q⟩:=qM d;rw[U] at d;have l1:=vR e.1;refine xF (xV (xA 2 F rfl fun a F=>oL underlying55 F rfl rfl M fun a S F=>xA 1 F rfl fun a F=>xG (zQ F rfl l1 (xS ?_))));refine xH (xF ?_);have Z:=k64 (Nat.le_of_lt e.1) S;have m1:=kO e.1 S;refine oQ (xV (xA 2 F rfl fun a F=>oI underlying55 sizeOf32 F rfl rfl rfl M Y fun a a8 h1 F=>gX isAgg32 F rfl rfl H.sm h1 fun a v2 h2 F=>oL underlying32 F rfl rfl h2 fun a i3 F=>xA 1 F rfl fun a F=>xG ?_));refine qS F rfl (fun K=>?_) (fun K=>?_)
   ·
    replace d:=vY K d;refine xV (xA 2 F rfl fun a F=>xG (xP (vO (oJ (oJ ?_)))));replace d:=kK d Q;refine vO (oJ ?_);replace d:=kI d P;refine oJ (xR F rfl (xX F rfl) ?_);obtain rfl:=oj d;exact⟨_,rfl,rfl,H,Z⟩
   replace d:=vX K d;refine xS (vK (xH (oM (xA 1 F rfl fun a F=>zG F rfl rfl rfl m1 fun a F=>xA 1 F rfl fun a F=>xG ?_))));replace d:=zM d Q;exact⟨_,Nat.lt_succ_self _,y+1,n,⟨e.1,e.2.2⟩,rfl,d,F.su,H⟩
 rintro a w ⟨rfl,F,H⟩
 have d:=xY P;refine xH (xV (xA 1 F rfl fun a F=>xG (xP (xR F rfl (xX F rfl) ?_))));obtain rfl:=oj d;exact⟨_,rfl,rfl,H,(show xO (-1) by decide)⟩
def bK (n:Template) (p:Instance) (t x:Int) (y:List Line) (A:List Int) (B:Bool) (d:List (List Int)):Option Int:=
 zW (σ:=Int) (
  qR (σ:=Int) (ρ:=Int) (fun (f:Nat) (e:(List Int)) (c:Int)=>
   zW (σ:=Bool) (
    if (decide (1<(e.length:Int))) then  if (decide (c<0)) then  some (.nx true) else  xZ (ix d c) fun h=>
      some (.nx (decide ((e.length:Int)<(h.length:Int)))) else  some (.nx false)) fun i=>
   if i then
    some (.go (f:Int))
   else
    some (.go c)) d 0 (-1)) fun j=>
 some j
theorem mZ {B:Nat→Prop} {S:Template} {T:Instance} {x y:Int} {A:List Line} {C:List Int} {D:Bool} {I:List (List Int)} (r:Int) (d:bK S T x y A C D I=some r) {j:Nat} {E:Value} {G:Value} {h:Value} {i:Value} {M:Value} {N:List Nat} (f:World) (hN:∀ c,B c→c<f.heap.size) (S0:Sep N B f f [bx j [E,G,xC x,xC y,h,i,.bool D] 73,rl 4 oP 77 h A,rl 1 xI 2 i C]) (aj:Bo B f (Pt 2 xJ) E S) (ak:Bo B f (Pt 2 xK) G T) (al:xO x) (am:xO y) (O:Bo B f (Sl 1 (qK 1 xI)) M I):Calls Tryz.prog 88 #[qC j,M] f (Gv (fun v w'=>v=xC r∧Sep N B f w' [bx j [E,G,xC x,xC y,h,i,.bool D] 73,rl 4 oP 77 h A,rl 1 xI 2 i C]∧xO r)):=by
 unfold bK at d
 refine xW (L:=[(0,qC j),(1,M)]) func88 rfl rfl rfl (sc rfl (sc rfl sn)) (fun a F=>?_);have H:=S0;refine xV (xA 1 F rfl fun a F=>vE (xA 1 F rfl fun a F=>xG (xF ?_)));refine xV (xA 1 F rfl fun a F=>xG ?_);obtain⟨V,d,a1⟩:=xT d;refine oR (fun a w=>∃ (P:Int),V= .nx P∧Sk a 38 [(0,qC j),(5,xC P)]∧Sep N B f w [bx j [E,G,xC x,xC y,h,i,.bool D] 73,rl 4 oP 77 h A,rl 1 xI 2 i C]∧xO P) ?_ ?_
 ·
  refine oQ ?_;obtain⟨a2,a3,d⟩:=qZ d;refine qY (fun g a w=>∃ (n:Nat) (t:List (List Int)) (p:Int),(n≤I.length∧I.drop n=t)∧t.length=g∧qR a2 t n p=some V∧Sk a 38 [(6,xC (n:Int)),(0,qC j),(1,M),(5,xC p)]∧Sep N B f w [bx j [E,G,xC x,xC y,h,i,.bool D] 73,rl 4 oP 77 h A,rl 1 xI 2 i C]∧xO p) I.length ?_ ?_
  ·
   exact⟨0,I,(-1),⟨Nat.zero_le _,rfl⟩,rfl,d,F.su,H,(show xO (-1) by decide)⟩
  intro g1 a w ⟨n,t,p,e,a4,d,F,H,W⟩
  cases t with
  | nil=>
   replace d:=vA d;have q1:=vC e.1 e.2;have l1:=zK q1;refine xF (xV (xA 2 F rfl fun a F=>oL underlying55 F rfl rfl O fun a i2 F=>xA 1 F rfl fun a F=>xG (zS F rfl l1 (qV ?_))));refine qX (qX (kF (xH ?_)));exact⟨p,(zL d),F.su,H,W⟩
  | cons X t=>
   subst a4;replace e:=qE e.2;have Y:=vH e.2.1;obtain⟨an,d,U⟩:=qM d;rw[a3] at d;have l1:=vR e.1;refine xF (xV (xA 2 F rfl fun a F=>oL underlying55 F rfl rfl O fun a Z F=>xA 1 F rfl fun a F=>xG (zQ F rfl l1 (xS ?_))));refine xH (xF ?_);have j1:=k64 (Nat.le_of_lt e.1) Z;have m1:=kO e.1 Z;refine oQ (xF ?_);obtain⟨o2,d,a5⟩:=xT d;refine oR (fun a w=>∃ (R:Bool),o2= .nx R∧Sk a 38 [(0,qC j),(1,M),(5,xC p),(6,xC (n:Int)),(35,.bool R)]∧Sep N B f w [bx j [E,G,xC x,xC y,h,i,.bool D] 73,rl 4 oP 77 h A,rl 1 xI 2 i C]) ?_ ?_
   ·
    refine xQ H (by kernel_rfl) (by kernel_rfl) (xM F rfl (fun w l=>xL F rfl) fun a F=>xM F rfl (fun w l=>xL F rfl) fun a F=>qI underlying55 sizeOf32 F rfl rfl rfl O Y fun a p1 h1 F=>qlS isAgg32 F rfl rfl H.q h1 fun a v2 h2 F=>qL underlying32 F rfl rfl h2 fun a i4 F=>xM F rfl (fun w l=>xAw F rfl rfl) fun a F=>xM F rfl (fun w l=>xL F rfl) (fun a F=>?_))
    rcases vJ (decide (1<(X.length:Int))) with J | J
    ·
     replace d:=vY J d;have F:=F.eb 19 rfl J;refine xM F rfl (fun w l=>xL F rfl) fun a F=>xM F rfl (fun w l=>mT F rfl rfl) fun a F=>xM F rfl (fun w l=>xL F rfl) (fun a F=>?_)
     rcases vJ (decide (p<0)) with K | K
     ·
      replace d:=vY K d;have F:=F.eb 22 rfl K;refine qD F rfl rfl fun a F=>qD F rfl rfl fun a F=>qD F rfl rfl fun a F=>qD F rfl rfl fun a F=>qD F rfl rfl fun a F=>qD F rfl rfl fun a F=>qD F rfl rfl fun a F=>qD F rfl rfl fun a F=>qD F rfl rfl fun a F=>qD F rfl rfl fun a F=>qD F rfl rfl (fun a F=>?_);refine xM F rfl (fun w l=>aX F rfl rfl) fun a F=>xM F rfl (fun w l=>aX F rfl rfl) fun a F=>kT fun w H=>xH ?_;exact⟨true,(zL d),F.su,H⟩
     replace d:=vX K d;have F:=F.eb 22 rfl K;refine xM F rfl (fun w l=>xL F rfl) fun a F=>xM F rfl (fun w l=>xL F rfl) fun a F=>qI underlying55 sizeOf32 F rfl rfl rfl O Y fun a p2 h3 F=>qlS isAgg32 F rfl rfl H.q h3 fun a v3 h4 F=>qL underlying32 F rfl rfl h4 fun a i5 F=>xM F rfl (fun w l=>xL F rfl) fun a F=>xM F rfl (fun w l=>xL F rfl) (fun a F=>?_);obtain⟨z1,c1,d⟩:=xB d;refine qI underlying55 sizeOf32 F rfl rfl rfl O c1 fun a p3 h5 F=>qlS isAgg32 F rfl rfl H.q h5 fun a v4 h6 F=>qL underlying32 F rfl rfl h6 fun a i6 F=>xM F rfl (fun w l=>mT F rfl rfl) fun a F=>xM F rfl (fun w l=>bO F rfl rfl) fun a F=>xM F rfl (fun w l=>aX F rfl rfl) fun a F=>kT fun w H=>xH ?_;exact⟨(decide ((X.length:Int)<(z1.length:Int))),(zL d),F.su,H⟩
    replace d:=vX J d;have F:=F.eb 19 rfl J;refine qD F rfl rfl fun a F=>qD F rfl rfl fun a F=>qD F rfl rfl fun a F=>qD F rfl rfl fun a F=>qD F rfl rfl fun a F=>qD F rfl rfl fun a F=>qD F rfl rfl fun a F=>qD F rfl rfl fun a F=>qD F rfl rfl fun a F=>qD F rfl rfl fun a F=>qD F rfl rfl (fun a F=>?_);refine qD F rfl rfl fun a F=>qD F rfl rfl fun a F=>qD F rfl rfl fun a F=>qD F rfl rfl fun a F=>xM F rfl (fun w l=>bO F rfl rfl) fun a F=>kT fun w H=>xH ?_;exact⟨false,(zL d),F.su,H⟩
   rintro a w ⟨R,rfl,F,H⟩
   have d:=xY a5;refine xH (qS F rfl (fun Q=>?_) (fun Q=>?_))
   ·
    replace d:=vY Q d;refine oM (xA 2 F rfl fun a F=>zE (vK (xH (oM (xA 1 F rfl fun a F=>zG F rfl rfl rfl m1 fun a F=>xA 1 F rfl fun a F=>zE ?_)))));refine xH ?_;replace d:=zM d U;exact⟨_,Nat.lt_succ_self _,n+1,t,(n:Int),⟨e.1,e.2.2⟩,rfl,d,F.su,H,j1⟩
   replace d:=vX Q d;refine xS (vK (xH (oM (xA 1 F rfl fun a F=>zG F rfl rfl rfl m1 fun a F=>xA 1 F rfl fun a F=>xG ?_))));replace d:=zM d U;exact⟨_,Nat.lt_succ_self _,n+1,t,p,⟨e.1,e.2.2⟩,rfl,d,F.su,H,W⟩
 rintro a w ⟨P,rfl,F,H,i7⟩
 have d:=xY a1;refine xH (xV (xA 2 F rfl fun a F=>xG (xP (xR F rfl (xX F rfl) ?_))));obtain rfl:=oj d;exact⟨_,rfl,rfl,H,i7⟩
def eR (c:List (List Int)):Option (List (List Int)):=
 zW (σ:=(List (List Int))) (
  qR (σ:=(List (List Int))) (ρ:=(List (List Int))) (fun (j:Nat) (d:(List Int)) (e:(List (List Int)))=>
   xZ (dS d) fun f=>
   xZ (ap e ([f])) fun h=>
   some (.go h)) c 0 []) fun i=>
 some i
theorem sO {B:Nat→Prop} {h:List (List Int)} (r:(List (List Int))) (d:eR h=some r) {n:Value} (i:World) (Q:∀ c,B c→c<i.heap.size) (A:Bo B i (Sl 1 (qK 1 xI)) n h):Calls Tryz.prog 89 #[n] i (Gv (fun v w'=>∃ (D:Value),v=D∧Sep [] B i w' [rl 1 (qK 1 xI) 32 D r])):=by
 unfold eR at d
 refine xW (L:=[(0,n)]) func89 rfl rfl rfl (sc rfl sn) (fun a F=>?_);have H:=Sep.start Q;refine xV (xA 1 F rfl fun a F=>vE (oR0 (R:=(qK 1 xI)) underlying55 sizeOf32 F rfl H fun a w T H F=>xA 1 F rfl fun a F=>xG ?_));refine xF (xV (xA 1 F rfl fun a F=>xG ?_));obtain⟨E,d,J⟩:=xT d;refine oR (fun a w=>∃ (C:List (List Int)) (p:Value),E= .nx C∧Sk a 21 [(3,p)]∧Sep [] B i w [rl 1 (qK 1 xI) 32 p C]) ?_ ?_
 ·
  refine oQ ?_;obtain⟨K,M,d⟩:=qZ d;refine qY (fun g a w=>∃ (j:Nat) (f t:List (List Int)) (x:Value),(j≤h.length∧h.drop j=f)∧f.length=g∧qR K f j t=some E∧Sk a 21 [(4,xC (j:Int)),(0,n),(3,x)]∧Sep [] B i w [rl 1 (qK 1 xI) 32 x t]) h.length ?_ ?_
  ·
   exact⟨0,h,[],T,⟨Nat.zero_le _,rfl⟩,rfl,d,F.su,H⟩
  intro g1 a w ⟨j,f,t,x,e,N,d,F,H⟩
  cases f with
  | nil=>
   replace d:=vA d;have U:=vC e.1 e.2;have l1:=zK U;refine xF (xV (xA 2 F rfl fun a F=>oL underlying55 F rfl rfl A fun a i1 F=>xA 1 F rfl fun a F=>xG (zS F rfl l1 (qV ?_))));refine qX (qX (kF (xH ?_)));exact⟨t,x,(zL d),F.su,H⟩
  | cons x1 f=>
   subst N;replace e:=qE e.2;have V:=vH e.2.1;obtain⟨a3,d,O⟩:=qM d;rw[M] at d;have l1:=vR e.1;refine xF (xV (xA 2 F rfl fun a F=>oL underlying55 F rfl rfl A fun a G F=>xA 1 F rfl fun a F=>xG (zQ F rfl l1 (xS ?_))));refine xH (xF ?_);have j1:=k64 (Nat.le_of_lt e.1) G;have W:=kO e.1 G;refine oQ (oM (xA 3 F rfl fun a F=>oI underlying55 sizeOf32 F rfl rfl rfl A V fun a p1 X F=>gX isAgg32 F rfl rfl H.sm X (fun a v4 Y F=>?_)));obtain⟨I,Z,d⟩:=xB d;refine oG F rfl call91 rfl (fO I Z _ aA (H.a Y)) (fun a vv w ⟨v5,a4,S⟩ F=>?_);subst vv;have H:=H.r1 S n0;have H:=H.os;refine dY (R:=(qK 1 xI)) (y:=I) underlying55 sizeOf32 zeroValue32 rfl rfl F rfl rfl H El.sl (fun a w v6 H F=>?_);obtain⟨z2,P,d⟩:=xB d;refine oPL (sz:=1) (R:=(qK 1 xI)) (z:=(qQ)) (bytes:=24) underlying55 (by kernel_rfl) rfl rfl F rfl rfl rfl (H.s [1,0] rfl rfl) P fun a w v7 H F=>xA 1 F rfl fun a F=>zE (vK (xH (oM (xA 1 F rfl fun a F=>zG F rfl rfl rfl W fun a F=>xA 1 F rfl fun a F=>xG ?_))));replace d:=zM d O;exact⟨_,Nat.lt_succ_self _,j+1,f,z2,v7,⟨e.1,e.2.2⟩,rfl,d,F.su,H⟩
 rintro a w ⟨C,p,rfl,F,H⟩
 have d:=xY J;refine xH (xV (xA 2 F rfl fun a F=>xG (xP (xR F rfl (xX F rfl) ?_))));obtain rfl:=oj d;exact⟨_,rfl,p,rfl,H⟩
def kB:Nat→Template→Instance→Int→Int→(List Line)→(List Int)→Bool→(List (List Int))→Option (Bool×Int×(List Line)×(List Int)×Bool×(List (List Int)))
  | 0,_,_,_,_,_,_,_,_=>none
  | N+1,n,p,t,G,H,I,J,S=>
  zW (σ:=(List (List Int))×Int×(List Line)×(List Int)×Bool) (
   fE (σ:=(List (List Int))×Int×(List Line)×(List Int)×Bool) (ρ:=Bool×Int×(List Line)×(List Int)×Bool×(List (List Int))) (fun(s:(List (List Int))×Int×(List Line)×(List Int)×Bool)=>
     match s with
     | (C,y,D,e,h)=>
     if (y==t) then
      some (.ret (true,y,D,e,true,C))
     else
      xZ (ck (y+1)) fun i=>
      xZ (kZ N n p C true) fun c=>
      zW (σ:=(List Line)) (
       qR (σ:=(List Line)) (ρ:=(Ctl ((List (List Int))×Int×(List Line)×(List Int)×Bool) (Bool×Int×(List Line)×(List Int)×Bool×(List (List Int))))) (fun (k1:Nat) (A:ArcStep) (T:(List Line))=>
        xZ (ap T ([(Line.mk 2 A.var A.value A.con)])) fun U=>
        some (.go U)) c.1 0 D) fun j=>
      xZ (cU n p t i j e h c.2) fun E=>
      if (decide (0≤E)) then
       xZ (ap j ([(Line.mk 3 E 0 0)])) fun V=>
       some (.ret (false,i,V,e,h,c.2))
      else
       xZ (bK n p t i j e h c.2) fun f=>
       if (decide (f<0)) then
        zW (σ:=(List Int)) (
         qR (σ:=(List Int)) (ρ:=(Ctl ((List (List Int))×Int×(List Line)×(List Int)×Bool) (Bool×Int×(List Line)×(List Int)×Bool×(List (List Int))))) (fun (k2:Nat) (W X:(List Int))=>
          xZ (ix W 0) fun Y=>
          xZ (ap X ([Y])) fun Z=>
          some (.go Z)) c.2 0 e) fun s9=>
        some (.ret (true,i,j,s9,h,c.2))
       else
        xZ (ix c.2 f) fun F=>
        xZ (ix F 0) fun x=>
        xZ (ap j ([(Line.mk 1 f x 0)])) fun K=>
        xZ (eR c.2) fun B=>
        xZ (ix B f) fun a1=>
        xZ (kB N n p t i K e h (B.set (f).toNat ([x]))) fun d=>
        if d.1 then
         some (.ret (true,d.2.1,d.2.2.1,d.2.2.2.1,d.2.2.2.2.1,c.2))
        else
         xZ (aF F x) fun L=>
         some (.go ((c.2.set (f).toNat L),d.2.1,d.2.2.1,d.2.2.2.1,d.2.2.2.2.1))) N (S,G,H,I,J)) fun(M,O,P,Q,R)=>
  some (false,O,P,Q,R,M)
theorem lS:∀ (N:Nat) {B:Nat→Prop} {am:Template} {an:Instance} {i a4:Int} {ad:List Line} {ae:List Int} {af:Bool} {x1:List (List Int)} (r:Bool×Int×(List Line)×(List Int)×Bool×(List (List Int))) (d:kB N am an i a4 ad ae af x1=some r) {f:Nat} {n:Value} {p:Value} {ao:Value} {aq:Value} {j:Value} {W:List Nat} (E:World) (hN:∀ c,B c→c<E.heap.size) (S0:Sep W B E E [bx f [n,p,xC i,xC a4,ao,aq,.bool af] 73,rl 4 oP 77 ao ad,rl 1 xI 2 aq ae,rw N0 1 (qK 1 xI) 32 j x1]) (ab:Bo B E (Pt 2 xJ) n am) (ac:Bo B E (Pt 2 xK) p an) (al:xO i) (bq:xO a4),Calls Tryz.prog 50 #[qC f,j] E (Gv (fun v w'=>∃ (br bt:Value),v= .bool r.1∧Sep W B E w' [bx f [n,p,xC i,xC r.2.1,br,bt,.bool r.2.2.2.2.1] 73,rl 4 oP 77 br r.2.2.1,rl 1 xI 2 bt r.2.2.2.1,rw N0 1 (qK 1 xI) 32 j r.2.2.2.2.2]∧xO r.2.1)):=by
  intro N
  induction N with
  | zero=>intro B am an i a4 ad ae af x1 r d;unfold kB at d;cases d
  | succ N ih=>
  intro B am an i a4 ad ae af x1 r d f n p ao aq j W E hN S0 ab ac al bq;rw[kB] at d;refine xW (L:=[(0,qC f),(1,j)]) func50 rfl rfl rfl (sc rfl (sc rfl sn)) (fun a F=>?_);have H:=S0;refine xV (xA 1 F rfl fun a F=>xG ?_);obtain⟨o1,d,ag⟩:=xT d;refine oR (fun a w=>∃ (s1:List (List Int)) (s2:Int) (s3:List Line) (v2:Value) (s4:List Int) (v3:Value) (s5:Bool),o1= .nx (s1,s2,s3,s4,s5)∧Sk a 151 [(0,qC f),(1,j),(4,.bool false)]∧Sep W B E w [bx f [n,p,xC i,xC s2,v2,v3,.bool s5] 73,rl 4 oP 77 v2 s3,rl 1 xI 2 v3 s4,rw N0 1 (qK 1 xI) 32 j s1]∧xO s2) ?_ ?_
  ·
   refine oQ ?_;obtain⟨ci,cj,d⟩:=dE d;refine qY (fun g a w=>∃ (s6:List (List Int)) (s7:Int) (s8:List Line) (X:Value) (D:List Int) (h:Value) (C:Bool),fE ci g (s6,s7,s8,D,C)=some o1∧Sk a 151 [(0,qC f),(1,j)]∧Sep W B E w [bx f [n,p,xC i,xC s7,X,h,.bool C] 73,rl 4 oP 77 X s8,rl 1 xI 2 h D,rw N0 1 (qK 1 xI) 32 j s6]∧xO s7) N ?_ ?_
   ·
    exact⟨x1,a4,ad,ao,ae,aq,af,d,F.su,H,bq⟩
   intro g1 a w ⟨s6,s7,s8,X,D,h,C,d,F,H,i1⟩;obtain⟨f4,t1,f5,d,ah⟩:=aQ d;rw[cj] at d;refine oQ (xF (xF (xQ H (by kernel_rfl) (by kernel_rfl) (xM F rfl (fun w l=>xL F rfl) fun a F=>xM F rfl (fun w l=>oY F rfl) fun a F=>xM F rfl (fun w l=>xU wF F rfl rfl) fun a F=>qB isAgg2 F rfl rfl (H.qb 0 rfl) rfl fun a F=>xM F rfl (fun w l=>xL F rfl) fun a F=>xM F rfl (fun w l=>oY F rfl) fun a F=>xM F rfl (fun w l=>xU xNm F rfl rfl) (fun a F=>?_)))));refine qB isAgg2 F rfl rfl (H.qb 0 rfl) rfl fun a F=>xM F rfl (fun w l=>uS F rfl rfl) fun a F=>kT fun w H=>xH (qS F rfl (fun b5=>?_) (fun b5=>?_))
   ·
    replace d:=vY b5 d;refine xV (xA 1 F rfl fun a F=>qJ F rfl rfl fun a F=>oD xJw F rfl rfl rfl fun a F=>oW sizeOf4 F rfl rfl rfl H rfl rfl rfl fun w H=>vE (xA 1 F rfl fun a F=>?_));refine xG (xP (oJ (vO (oJ ?_))));replace d:=kK d ah;refine vO (oJ ?_);replace d:=kI d ag;refine xR F rfl (xX F rfl) ?_;obtain rfl:=oj d;exact⟨_,rfl,X,h,rfl,H,i1⟩
   replace d:=vX b5 d;refine xS (xH (xV (xA 1 F rfl fun a F=>qJ F rfl rfl fun a F=>oD wF F rfl rfl rfl fun a F=>oB isAgg2 F rfl rfl (H.b 0 rfl) rfl (fun a F=>?_))));obtain⟨I,c1,d⟩:=xB d;refine cR F rfl rfl rfl c1 fun a F=>qJ F rfl rfl fun a F=>oD wF F rfl rfl rfl fun a F=>oW sizeOf2 F rfl rfl rfl H rfl rfl rfl fun w H=>xG (xF ?_);obtain⟨A,c2,d⟩:=xB d;obtain⟨w1,rfl⟩:∃ x,x=w:=⟨_,rfl⟩;have f6:=H.sm;obtain⟨X1,N1,g2,e1,H,cl,f7⟩:=H.fza;have K1:=g2.bk;refine xD H (by kernel_rfl) fun w H=>qP 0 rfl (by kernel_rfl) (xN F rfl (fun w l=>xL F rfl) fun a F=>oV 1 rfl (by kernel_rfl) (xN F rfl (fun w l=>oY F rfl) fun a F=>oV 2 rfl (by kernel_rfl) (xN F rfl (fun w l=>xU xNk F rfl rfl) fun a F=>oV 3 rfl (by kernel_rfl) (vB isAgg53 F rfl rfl (K1.v H.sm) rfl fun a F=>qP 4 rfl (by kernel_rfl) (xN F rfl (fun w l=>xL F rfl) (fun a F=>?_))))));refine oV 5 rfl (by kernel_rfl) (xN F rfl (fun w l=>oY F rfl) fun a F=>oV 6 rfl (by kernel_rfl) (xN F rfl (fun w l=>xU xOl F rfl rfl) fun a F=>oV 7 rfl (by kernel_rfl) (vB isAgg54 F rfl rfl (K1.v H.sm) rfl fun a F=>qP 8 rfl (by kernel_rfl) (xN F rfl (fun w l=>xL F rfl) fun a F=>xE H 9 rfl (by kernel_rfl) ?_))));obtain⟨X2,K2,cm⟩:=Sep.lend (K:=[rw N0 1 (qK 1 xI) 32 j s6]) (L:=[rl 4 oP 77 X s8,rl 1 xI 2 h D]) (H.s [2,0,1] rfl rfl);refine oG F rfl call86 rfl (pH A c2 _ H.hN K2 (H.u (e1 ab)) (H.u (e1 ac))) (fun a J w ⟨v6,f8,S⟩ F=>?_);subst J;have H:Sep X1 N1 w1 w [rl 3 oU 152 v6 A.1,rw N0 1 (qK 1 xI) 32 j A.2,rl 4 oP 77 X s8,rl 1 xI 2 h D]:=cm S;refine xG ⟨⟨_,H⟩,?_⟩;refine qP 10 rfl (by kernel_rfl) (xN F rfl (fun w l=>qU F rfl) fun a F=>vP (by kernel_rfl) (xH (xF (xV (xA 1 F rfl fun a F=>xG ?_)))));have H:=(cl.1 H (Ns.all ⟨n0,⟨n0,⟨n0,⟨n0,trivial⟩⟩⟩⟩));obtain⟨o2,d,cn⟩:=xT d;refine oR (fun a w=>∃ (M:List Line) (t:Value),o2= .nx M∧Sk a 151 [(0,qC f),(1,j)]∧Sep W B E w [bx f [n,p,xC i,xC I,t,h,.bool C] 73,rw N0 1 (qK 1 xI) 32 j A.2,rl 4 oP 77 t M,rl 1 xI 2 h D]) ?_ ?_
   ·
    refine oQ ?_;obtain⟨co,cp,d⟩:=qZ d;refine qY (fun g a w=>∃ (Y:Nat) (Z:List ArcStep) (ai:List Line) (v8:Value),(Y≤A.1.length∧A.1.drop Y=Z)∧Z.length=g∧qR co Z Y ai=some o2∧Sk a 151 [(6,xC (Y:Int)),(0,qC f),(1,j),(5,v6)]∧Sep W B E w [bx f [n,p,xC i,xC I,v8,h,.bool C] 73,rl 3 oU 152 v6 A.1,rw N0 1 (qK 1 xI) 32 j A.2,rl 4 oP 77 v8 ai,rl 1 xI 2 h D]) A.1.length ?_ ?_
    ·
     exact⟨0,A.1,s8,X,⟨Nat.zero_le _,rfl⟩,rfl,d,F.su,H⟩
    intro g3 a w ⟨Y,Z,ai,v8,O,cq,d,F,H⟩
    cases Z with
    | nil=>
     replace d:=vA d;have q1:=vC O.1 O.2;have l1:=zK q1;refine xF (xV (xA 2 F rfl fun a F=>oL underlying149 F rfl rfl (H.l 1 rfl) fun a i2 F=>xA 1 F rfl fun a F=>xG (zS F rfl l1 (qV ?_))));refine qX (qX (kF (xH ?_)));exact⟨ai,v8,(zL d),F.su,(H.s [0,2,3,4] rfl rfl)⟩
    | cons T Z=>
     subst cq;replace O:=qE O.2;have y1:=vH O.2.1;obtain⟨f9,d,cr⟩:=qM d;rw[cp] at d;have l1:=vR O.1;refine xF (xV (xA 2 F rfl fun a F=>oL underlying149 F rfl rfl (H.l 1 rfl) fun a i3 F=>xA 1 F rfl fun a F=>xG (zQ F rfl l1 (xS ?_))));refine xH (xF ?_);have j1:=k64 (Nat.le_of_lt O.1) i3;have m1:=kO O.1 i3;refine oQ ?_;obtain⟨z3,c3,d⟩:=xB d;obtain⟨w2,rfl⟩:∃ x,x=w:=⟨_,rfl⟩;have fa:=H.sm;obtain⟨X3,N2,g4,e2,H,cs,fb⟩:=(H.s [1,0,2,3,4] rfl rfl).fza;have h1:=g4.ld;refine xD H (by kernel_rfl) fun w H=>dp (fun G=>∀ (v9:Value) (a:Act) (w:World),Sk a 151 [(0,qC f),(1,j),(5,v6),(6,xC (Y:Int)),(47,qC f),(51,v8),(68,v9)]→Sep X3 N2 w2 w [rl 4 oP 77 v9 ([(Line.mk 2 T.var T.value T.con)]),bx f [n,p,xC i,xC I,v8,h,.bool C] 73,rw N0 1 (qK 1 xI) 32 j A.2,rl 4 oP 77 v8 ai,rl 1 xI 2 h D]→∀ ls,ls = #[true,true,true,true,true,true,true,true,true,true,true,true,true,true,true,true,true,true,true,true,true,true,false,false,false,false]→G 4 ls a w) ?_ (fun H1=>?_)
     ·
      intro v9 a w F H ls b6;subst b6;refine xE H 22 rfl (by kernel_rfl) (oPL (sz:=4) (R:=oP) (z:=(.agg #[xC 0,xC 0,xC 0,xC 0])) (bytes:=32) underlying35 (by kernel_rfl) rfl rfl F rfl rfl rfl (H.s [3,0,1,2,4] rfl rfl) c3 fun a w ct H F=>xG ⟨⟨_,H⟩,?_⟩);refine oV 23 rfl (by kernel_rfl) (xN F rfl (fun w l=>oY F rfl) fun a F=>oV 24 rfl (by kernel_rfl) (xN F rfl (fun w l=>xU nJ F rfl rfl) fun a F=>xE H 25 rfl (by kernel_rfl) (oW sizeOf35 F rfl rfl rfl (H.s [1,0,2,3] rfl rfl) ((H.s [1,0,2,3] rfl rfl).l 1 rfl).one rfl rfl fun w H=>xG ⟨⟨_,H⟩,?_⟩)));refine vP (by kernel_rfl) (vK (xH (oM (xA 1 F rfl fun a F=>zG F rfl rfl rfl m1 fun a F=>xA 1 F rfl fun a F=>xG ?_))));replace d:=zM d cr;exact⟨_,Nat.lt_succ_self _,Y+1,Z,z3,ct,⟨O.1,O.2.2⟩,rfl,d,F.su,((cs.1 H (Ns.all ⟨n0,⟨n0,⟨n0,⟨n0,trivial⟩⟩⟩⟩)).s [1,0,3,2,4] rfl rfl)⟩
     refine qP 0 rfl (by kernel_rfl) (xN F rfl (fun w l=>xL F rfl) fun a F=>qP 1 rfl (by kernel_rfl) (xN F rfl (fun w l=>xL F rfl) fun a F=>oV 2 rfl (by kernel_rfl) (xN F rfl (fun w l=>oY F rfl) fun a F=>oV 3 rfl (by kernel_rfl) (xN F rfl (fun w l=>xU nJ F rfl rfl) fun a F=>qP 5 rfl (by kernel_rfl) (xN F rfl (fun w l=>xL F rfl) fun a F=>qP 6 rfl (by kernel_rfl) ?_)))));refine xN F rfl (fun w l=>xL F rfl) fun a F=>oV 7 rfl (by kernel_rfl) (vI underlying149 sizeOf152 F rfl rfl rfl h1 y1 fun a p1 h2 F=>oV 8 rfl (by kernel_rfl) (vF (s':=1) rQ F rfl rfl h2 oU.f0 fun a p2 h3 F=>oV 9 rfl (by kernel_rfl) (vlI isAgg2 F rfl rfl H.v h3 fun a i4 F=>qP 10 rfl (by kernel_rfl) (xN F rfl (fun w l=>xL F rfl) fun a F=>qP 11 rfl (by kernel_rfl) (xN F rfl (fun w l=>xL F rfl) (fun a F=>?_))))));refine oV 12 rfl (by kernel_rfl) (vI underlying149 sizeOf152 F rfl rfl rfl h1 y1 fun a p3 h4 F=>oV 13 rfl (by kernel_rfl) (vF (s':=1) uB F rfl rfl h4 oU.f1 fun a p4 h5 F=>oV 14 rfl (by kernel_rfl) (vlI isAgg2 F rfl rfl H.v h5 fun a i5 F=>qP 15 rfl (by kernel_rfl) (xN F rfl (fun w l=>xL F rfl) fun a F=>qP 16 rfl (by kernel_rfl) (xN F rfl (fun w l=>xL F rfl) fun a F=>oV 17 rfl (by kernel_rfl) ?_)))));refine vI underlying149 sizeOf152 F rfl rfl rfl h1 y1 fun a p5 h6 F=>oV 18 rfl (by kernel_rfl) (vF (s':=1) uC F rfl rfl h6 oU.f2 fun a p6 h7 F=>oV 19 rfl (by kernel_rfl) (vlI isAgg2 F rfl rfl H.v h7 fun a i6 F=>oV 20 rfl (by kernel_rfl) (xN F rfl (fun w l=>jV underlying77 zeroValue77 (fun w=>by simp [sizeOf2];rfl) F rfl rfl rfl rfl (oc rfl (oc rfl (oc rfl (oc rfl on)))) rfl rfl) fun a F=>kH [4,21] (by kernel_rfl) (by simp) ⟨⟨_,rfl,?_⟩,⟨_,rfl,?_⟩,trivial⟩)))
     ·
      refine kC H (oB isAgg35 F rfl rfl (H.b 0 rfl) rfl fun a F=>xG ⟨⟨_,H⟩,?_⟩);refine xE H 21 rfl (by kernel_rfl) (dF (R:=oP) (y:=(Line.mk 2 T.var T.value T.con)) underlying35 sizeOf77 zeroValue77 rfl rfl F rfl rfl H (Eo.agg (oP.m (show xO (2) by decide) i4 i5 i6)) fun a w cu H F=>xG ⟨⟨_,H⟩,?_⟩);exact H1 cu _ _ (F.su) H _ (by kernel_rfl)
     refine kC H (dF (R:=oP) (y:=(Line.mk 2 T.var T.value T.con)) underlying35 sizeOf77 zeroValue77 rfl rfl F rfl rfl H (Eo.agg (oP.m (show xO (2) by decide) i4 i5 i6)) fun a w cx H F=>xG ⟨⟨_,H⟩,?_⟩);refine xE H 4 rfl (by kernel_rfl) (oB isAgg35 F rfl rfl (H.b 1 rfl) rfl fun a F=>xG ⟨⟨_,H⟩,?_⟩);exact H1 cx _ _ (F.su) H _ (by kernel_rfl)
   rintro a w ⟨M,t,rfl,F,H⟩
   have d:=xY cn;refine xH (xF (xV (xA 2 F rfl fun a F=>?_)));obtain⟨w3,rfl⟩:∃ x,x=w:=⟨_,rfl⟩;have fc:=H.sm;obtain⟨X4,N3,g5,e3,H,ar,fd⟩:=(H.s [1,0,2,3] rfl rfl).fza;have U:=g5.rd;obtain⟨z4,c4,d⟩:=xB d;obtain⟨X5,K3,cy⟩:=Sep.lend (K:=[bx f [n,p,xC i,xC I,t,h,.bool C] 73,rl 4 oP 77 t M,rl 1 xI 2 h D]) (L:=[]) H;refine oG F rfl call87 rfl (mI z4 c4 _ H.hN K3 (H.u (e3 ab)) (H.u (e3 ac)) al (kQ c1) (H.u U)) (fun a J w ⟨fe,S,i7⟩ F=>?_);subst J;have H:Sep X4 N3 w3 w [bx f [n,p,xC i,xC I,t,h,.bool C] 73,rl 4 oP 77 t M,rl 1 xI 2 h D]:=cy S;refine xA 1 F rfl fun a F=>vE (xA 2 F rfl fun a F=>xG (qS F rfl (fun b7=>?_) (fun b7=>?_)))
   ·
    replace d:=vY b7 d;refine xV (xA 2 F rfl fun a F=>qJ F rfl rfl fun a F=>oD nJ F rfl rfl rfl fun a F=>oB isAgg35 F rfl rfl (H.b 0 rfl) rfl fun a F=>xA 1 F rfl fun a F=>kY underlying77 zeroValue77 (fun w=>by simp [sizeOf2];rfl) F rfl rfl rfl rfl rfl (oc rfl (oc rfl on)) rfl rfl fun a F=>dF (R:=oP) (y:=(Line.mk 3 z4 0 0)) underlying35 sizeOf77 zeroValue77 rfl rfl F rfl rfl H (Eo.agg (oP.m (show xO (3) by decide) i7 (show xO 0 by decide) (show xO 0 by decide))) (fun a w ff H F=>?_));obtain⟨z5,c5,d⟩:=xB d;refine oPL (sz:=4) (R:=oP) (z:=(.agg #[xC 0,xC 0,xC 0,xC 0])) (bytes:=32) underlying35 (by kernel_rfl) rfl rfl F rfl rfl rfl (H.s [2,0,1,3] rfl rfl) c5 fun a w cz H F=>qJ F rfl rfl fun a F=>oD nJ F rfl rfl rfl fun a F=>oW sizeOf35 F rfl rfl rfl (H.s [1,0,2] rfl rfl) ((H.s [1,0,2] rfl rfl).l 1 rfl).one rfl rfl fun w H=>vE (xA 1 F rfl fun a F=>xG ?_);refine xP (oJ (vO (oJ ?_)));replace d:=kK d ah;refine vO (oJ ?_);replace d:=kI d ag;have H:=(ar.1 H (Ns.all ⟨n0,⟨n0,⟨n0,trivial⟩⟩⟩));refine xR F rfl (xX F rfl) ?_;obtain rfl:=oj d;exact⟨_,rfl,cz,h,rfl,(H.s [1,2,3,0] rfl rfl),(kQ c1)⟩
   replace d:=vX b7 d;refine xS (xH (xV (xA 2 F rfl fun a F=>?_)));obtain⟨z6,c6,d⟩:=xB d;obtain⟨X6,K4,d0⟩:=Sep.lend (K:=[bx f [n,p,xC i,xC I,t,h,.bool C] 73,rl 4 oP 77 t M,rl 1 xI 2 h D]) (L:=[]) H;refine oG F rfl call88 rfl (mZ z6 c6 _ H.hN K4 (H.u (e3 ab)) (H.u (e3 ac)) al (kQ c1) (H.u U)) (fun a J w ⟨fg,S,i8⟩ F=>?_);subst J;have H:Sep X4 N3 w3 w [bx f [n,p,xC i,xC I,t,h,.bool C] 73,rl 4 oP 77 t M,rl 1 xI 2 h D]:=d0 S;refine xA 1 F rfl fun a F=>xG (xF (xV (xA 2 F rfl fun a F=>xG (qS F rfl (fun b8=>?_) (fun b8=>?_)))))
   ·
    replace d:=vY b8 d;refine xF (xV (xA 1 F rfl fun a F=>xG ?_));obtain⟨o3,d,d1⟩:=xT d;refine oR (fun a w=>∃ (b9:List Int) (au:Value),o3= .nx b9∧Sk a 151 [(0,qC f),(1,j)]∧Sep X4 N3 w3 w [bx f [n,p,xC i,xC I,t,au,.bool C] 73,rl 4 oP 77 t M,rl 1 xI 2 au b9]) ?_ ?_
    ·
     refine oQ ?_;obtain⟨d2,d3,d⟩:=qZ d;refine qY (fun g a w=>∃ (k2:Nat) (t3:List (List Int)) (aj:List Int) (V:Value),(k2≤A.2.length∧A.2.drop k2=t3)∧t3.length=g∧qR d2 t3 k2 aj=some o3∧Sk a 151 [(9,xC (k2:Int)),(0,qC f),(1,j)]∧Sep X4 N3 w3 w [bx f [n,p,xC i,xC I,t,V,.bool C] 73,rl 4 oP 77 t M,rl 1 xI 2 V aj]) A.2.length ?_ ?_
     ·
      exact⟨0,A.2,D,h,⟨Nat.zero_le _,rfl⟩,rfl,d,F.su,H⟩
     intro g6 a w ⟨k2,t3,aj,V,P,d4,d,F,H⟩
     cases t3 with
     | nil=>
      replace d:=vA d;have q2:=vC P.1 P.2;have l2:=zK q2;refine xF (xV (xA 2 F rfl fun a F=>oL underlying55 F rfl rfl U fun a i9 F=>xA 1 F rfl fun a F=>xG (zS F rfl l2 (qV ?_))));refine qX (qX (kF (xH ?_)));exact⟨aj,V,(zL d),F.su,H⟩
     | cons x3 t3=>
      subst d4;replace P:=qE P.2;have y2:=vH P.2.1;obtain⟨fh,d,d5⟩:=qM d;rw[d3] at d;have l2:=vR P.1;refine xF (xV (xA 2 F rfl fun a F=>oL underlying55 F rfl rfl U fun a bu F=>xA 1 F rfl fun a F=>xG (zQ F rfl l2 (xS ?_))));refine xH (xF ?_);have j2:=k64 (Nat.le_of_lt P.1) bu;have m2:=kO P.1 bu;refine oQ ?_;obtain⟨z7,c7,d⟩:=xB d;obtain⟨z8,c8,d⟩:=xB d;refine xD H (by kernel_rfl) fun w H=>dp (fun G=>∀ (ba:Value) (a:Act) (w:World),Sk a 151 [(0,qC f),(1,j),(9,xC (k2:Int)),(99,qC f),(103,V),(110,ba)]→Sep X4 N3 w3 w [rl 1 xI 2 ba ([z7]),bx f [n,p,xC i,xC I,t,V,.bool C] 73,rl 4 oP 77 t M,rl 1 xI 2 V aj]→∀ ls,ls = #[true,true,true,true,true,true,true,true,true,true,true,true,false,false,false,false]→G 4 ls a w) ?_ (fun H2=>?_)
      ·
       intro ba a w F H ls b6;subst b6;refine xE H 12 rfl (by kernel_rfl) (oPL (sz:=1) (R:=xI) (z:=(xC 0)) (bytes:=8) underlying32 (by kernel_rfl) rfl rfl F rfl rfl rfl (H.s [3,0,1,2] rfl rfl) c8 fun a w d6 H F=>xG ⟨⟨_,H⟩,?_⟩);refine oV 13 rfl (by kernel_rfl) (xN F rfl (fun w l=>oY F rfl) fun a F=>oV 14 rfl (by kernel_rfl) (xN F rfl (fun w l=>xU xEo F rfl rfl) fun a F=>xE H 15 rfl (by kernel_rfl) (oW sizeOf32 F rfl rfl rfl (H.s [1,0,2] rfl rfl) ((H.s [1,0,2] rfl rfl).l 1 rfl).one rfl rfl fun w H=>xG ⟨⟨_,H⟩,?_⟩)));refine vP (by kernel_rfl) (vK (xH (oM (xA 1 F rfl fun a F=>zG F rfl rfl rfl m2 fun a F=>xA 1 F rfl fun a F=>xG ?_))));replace d:=zM d d5;exact⟨_,Nat.lt_succ_self _,k2+1,t3,z8,d6,⟨P.1,P.2.2⟩,rfl,d,F.su,(H.s [0,2,1] rfl rfl)⟩
      refine qP 0 rfl (by kernel_rfl) (xN F rfl (fun w l=>xL F rfl) fun a F=>qP 1 rfl (by kernel_rfl) (xN F rfl (fun w l=>xL F rfl) fun a F=>oV 2 rfl (by kernel_rfl) (xN F rfl (fun w l=>oY F rfl) fun a F=>oV 3 rfl (by kernel_rfl) (xN F rfl (fun w l=>xU xEo F rfl rfl) fun a F=>qP 5 rfl (by kernel_rfl) (xN F rfl (fun w l=>xL F rfl) fun a F=>qP 6 rfl (by kernel_rfl) ?_)))));refine xN F rfl (fun w l=>xL F rfl) fun a F=>oV 7 rfl (by kernel_rfl) (vI underlying55 sizeOf32 F rfl rfl rfl U y2 fun a p7 h9 F=>oV 8 rfl (by kernel_rfl) (vlS isAgg32 F rfl rfl H.v h9 fun a fi d7 F=>oV 9 rfl (by kernel_rfl) (vI underlying32 sizeOf2 F rfl rfl rfl d7 c7 fun a p8 d8 F=>oV 10 rfl (by kernel_rfl) (vlI isAgg2 F rfl rfl H.v d8 fun a bv F=>kH [4,11] (by kernel_rfl) (by simp) ⟨⟨_,rfl,?_⟩,⟨_,rfl,?_⟩,trivial⟩))))
      ·
       refine kC H (oB isAgg32 F rfl rfl (H.b 0 rfl) rfl fun a F=>xG ⟨⟨_,H⟩,?_⟩);refine xE H 11 rfl (by kernel_rfl) (dF (R:=xI) (y:=z7) underlying32 sizeOf2 zeroValue2 rfl rfl F rfl rfl H (Eo.int bv) fun a w d9 H F=>xG ⟨⟨_,H⟩,?_⟩);exact H2 d9 _ _ (F.su) H _ (by kernel_rfl)
      refine kC H (dF (R:=xI) (y:=z7) underlying32 sizeOf2 zeroValue2 rfl rfl F rfl rfl H (Eo.int bv) fun a w da H F=>xG ⟨⟨_,H⟩,?_⟩);refine xE H 4 rfl (by kernel_rfl) (oB isAgg32 F rfl rfl (H.b 1 rfl) rfl fun a F=>xG ⟨⟨_,H⟩,?_⟩);exact H2 da _ _ (F.su) H _ (by kernel_rfl)
    rintro a w ⟨b9,au,rfl,F,H⟩
    have d:=xY d1;refine xH (xV (xA 1 F rfl fun a F=>xG (xP (oJ (vO (oJ ?_))))));replace d:=kK d ah;refine vO (oJ ?_);replace d:=kI d ag;have H:=(ar.1 H (Ns.all ⟨n0,⟨n0,⟨n0,trivial⟩⟩⟩));refine xR F rfl (xX F rfl) ?_;obtain rfl:=oj d;exact⟨_,rfl,t,au,rfl,(H.s [1,2,3,0] rfl rfl),(kQ c1)⟩
   replace d:=vX b8 d;refine xS (xH (xV (xA 2 F rfl fun a F=>?_)));obtain⟨z9,c9,d⟩:=xB d;refine oI underlying55 sizeOf32 F rfl rfl rfl U c9 fun a p9 db F=>gX isAgg32 F rfl rfl H.sm db (fun a fj dc F=>?_);obtain⟨bb,dd,d⟩:=xB d;refine oI underlying32 sizeOf2 F rfl rfl rfl dc dd fun a fk de F=>olI isAgg2 F rfl rfl H.sm de fun a bc F=>xA 1 F rfl fun a F=>vE (xA 2 F rfl fun a F=>qJ F rfl rfl fun a F=>oD nJ F rfl rfl rfl (fun a F=>?_));refine oB isAgg35 F rfl rfl (H.b 0 rfl) rfl fun a F=>xA 2 F rfl fun a F=>kY underlying77 zeroValue77 (fun w=>by simp [sizeOf2];rfl) F rfl rfl rfl rfl rfl (oc rfl (oc rfl (oc rfl on))) rfl rfl fun a F=>dF (R:=oP) (y:=(Line.mk 1 z6 bb 0)) underlying35 sizeOf77 zeroValue77 rfl rfl F rfl rfl H (Eo.agg (oP.m (show xO (1) by decide) i8 bc (show xO 0 by decide))) (fun a w fl H F=>?_);obtain⟨df,dg,d⟩:=xB d;refine oPL (sz:=4) (R:=oP) (z:=(.agg #[xC 0,xC 0,xC 0,xC 0])) (bytes:=32) underlying35 (by kernel_rfl) rfl rfl F rfl rfl rfl (H.s [2,0,1,3] rfl rfl) dg fun a w c0 H F=>qJ F rfl rfl fun a F=>oD nJ F rfl rfl rfl fun a F=>oW sizeOf35 F rfl rfl rfl (H.s [1,0,2] rfl rfl) ((H.s [1,0,2] rfl rfl).l 1 rfl).one rfl rfl fun w H=>vE (xA 1 F rfl fun a F=>?_);obtain⟨z12,dh,d⟩:=xB d;refine oG F rfl call89 rfl (sO z12 dh _ aA (H.a U)) (fun a J w ⟨v25,fm,S⟩ F=>?_);subst J;have H:=H.r1 S n0;refine xA 1 F rfl fun a F=>vE (xA 3 F rfl fun a F=>dF (R:=xI) (y:=bb) underlying32 sizeOf2 zeroValue2 rfl rfl F rfl rfl H (Eo.int bc) (fun a w fn H F=>?_));obtain⟨fo,c13,d⟩:=xB d;refine oRl underlying55 sizeOf32 F rfl rfl rfl H 1 rfl c13 (fun a fp fq di F=>?_);have H:=(H.s [1,0,2,3,4] rfl rfl).lw;refine oSc sizeOf32 F rfl rfl rfl H di (fQ c13) n0 (fun e q=>(Eo.sl q.ld)) (H.l 1 rfl).one rfl fun w H=>xG (xF (xV (xA 2 F rfl fun a F=>?_)));obtain⟨Q,dj,d⟩:=xB d;obtain⟨X7,K5,dk⟩:=Sep.lend (K:=[bx f [n,p,xC i,xC I,c0,h,.bool C] 73,rl 4 oP 77 c0 df,rl 1 xI 2 h D,rw N0 1 (qK 1 xI) 32 v25 (z12.set (z6).toNat ([bb]))]) (L:=[]) (H.s [1,2,3,0] rfl rfl);refine oG F rfl call50 rfl (ih Q dj _ H.hN K5 (H.u (e3 ab)) (H.u (e3 ac)) al (kQ c1)) (fun a J w ⟨av,aw,fs,S,i13⟩ F=>?_);subst J;have H:Sep X4 N3 w3 w [bx f [n,p,xC i,xC Q.2.1,av,aw,.bool Q.2.2.2.2.1] 73,rl 4 oP 77 av Q.2.2.1,rl 1 xI 2 aw Q.2.2.2.1,rw N0 1 (qK 1 xI) 32 v25 Q.2.2.2.2.2]:=dk S;refine xG (qS F rfl (fun be=>?_) (fun be=>?_))
   ·
    replace d:=vY be d;refine xV (xA 1 F rfl fun a F=>xG (xP (oJ (vO (oJ ?_)))));replace d:=kK d ah;refine vO (oJ ?_);replace d:=kI d ag;have H:=(ar.1 H (Ns.all ⟨n0,⟨n0,⟨n0,⟨n0,trivial⟩⟩⟩⟩));refine xR F rfl (xX F rfl) ?_;obtain rfl:=oj d;exact⟨_,rfl,av,aw,rfl,(H.s [1,2,3,0] rfl rfl),i13⟩
   replace d:=vX be d;refine xS (xH (oM (xA 4 F rfl fun a F=>oI underlying55 sizeOf32 F rfl rfl rfl U c9 fun a ft dl F=>gX isAgg32 F rfl rfl H.sm dl fun a fu dm F=>xA 1 F rfl fun a F=>?_)));obtain⟨z15,dq,d⟩:=xB d;refine oG F rfl call90 rfl (jZ z15 dq _ aA (H.a dm) bc) (fun a J w ⟨fv,fw,S⟩ F=>?_);subst J;have H:=H.r1 S n0;have H:=(ar.1 H (Ns.all ⟨n0,⟨n0,⟨n0,⟨n0,⟨n0,trivial⟩⟩⟩⟩⟩));refine oRi underlying55 sizeOf32 F rfl rfl rfl H 0 rfl c9 fun a fx fy dr F=>oSc sizeOf32 F rfl rfl rfl H dr (fQ c9) n0 (fun e q=>(Eo.sl q.ld)) (H.l 1 rfl).one rfl fun w H=>zE (vK (xH ?_));replace d:=zM d ah;exact⟨t1,(by omega),(A.2.set (z6).toNat z15),Q.2.1,Q.2.2.1,av,Q.2.2.2.1,aw,Q.2.2.2.2.1,d,F.su,(H.s [1,2,3,0] rfl rfl),i13⟩
  rintro a w ⟨s1,s2,s3,v2,s4,v3,s5,rfl,F,H,ds⟩
  have d:=xY ag;refine xIj (xR F rfl (xX F rfl) ?_);obtain rfl:=oj d;exact⟨_,rfl,v2,v3,rfl,H,ds⟩
theorem mJ {B:Nat→Prop} {N:Nat} {p:Template} {t:Instance} {e f:Int} {x:List Line} {y:List Int} {A:Bool} {G:List (List Int)} (r:Bool×Int×(List Line)×(List Int)×Bool×(List (List Int))) (M:kB N p t e f x y A G=some r) {j:Nat} {h:Value} {i:Value} {C:Value} {D:Value} {n:Value} {H:List Nat} (d:World) (O:∀ c,B c→c<d.heap.size) (P:Sep H B d d [bx j [h,i,xC e,xC f,C,D,.bool A] 73,rl 4 oP 77 C x,rl 1 xI 2 D y,rw N0 1 (qK 1 xI) 32 n G]) (I:Bo B d (Pt 2 xJ) h p) (J:Bo B d (Pt 2 xK) i t) (K:xO e) (L:xO f):Calls Tryz.prog 50 #[qC j,n] d (Gv (fun v w'=>∃ (E F:Value),v= .bool r.1∧Sep H B d w' [bx j [h,i,xC e,xC r.2.1,E,F,.bool r.2.2.2.2.1] 73,rl 4 oP 77 E r.2.2.1,rl 1 xI 2 F r.2.2.2.1,rw N0 1 (qK 1 xI) 32 n r.2.2.2.2.2]∧xO r.2.1)):=
  lS N r M d O P I J K L
def gB (N:Nat) (d:Template) (e:Instance) (h:List (List Int)) (f:Int):Option ((Template×Instance×Int×Int×(List Line)×(List Int)×Bool)×Int×(List (List Int))):=
 xZ (kB N d e f 0 ([]) ([]) false h) fun c=>
 if c.2.2.2.2.1 then
  some ((d,e,f,c.2.1,c.2.2.1,c.2.2.2.1,c.2.2.2.2.1),7,c.2.2.2.2.2)
 else
  if c.1 then
   some ((d,e,f,c.2.1,c.2.2.1,c.2.2.2.1,c.2.2.2.2.1),0,c.2.2.2.2.2)
  else
   some ((d,e,f,c.2.1,c.2.2.1,c.2.2.2.1,c.2.2.2.2.1),6,c.2.2.2.2.2)
theorem pZ {B:Nat→Prop} {N:Nat} {T:Template} {U:Instance} {G:List (List Int)} {i:Int} (r:(Template×Instance×Int×Int×(List Line)×(List Int)×Bool)×Int×(List (List Int))) (d:gB N T U G i=some r) {f:Value} {h:Value} {j:Value} {I:List Nat} (e:World) (hN:∀ c,B c→c<e.heap.size) (W:Sep I B e e [rw N0 1 (qK 1 xI) 32 j G]) (p:Bo B e (Pt 2 xJ) f T) (t:Bo B e (Pt 2 xK) h U) (C:xO i):Calls Tryz.prog 25 #[f,h,j,xC i] e (Gv (fun v w'=>∃ (M:Nat) (O P Q R:Value),v= .tuple #[qC M,xC r.2.1]∧Sep I B e w' [bx M [O,P,xC r.1.2.2.1,xC r.1.2.2.2.1,Q,R,.bool r.1.2.2.2.2.2.2] 73,rl 4 oP 77 Q r.1.2.2.2.2.1,rl 1 xI 2 R r.1.2.2.2.2.2.1,rw N0 1 (qK 1 xI) 32 j r.2.2]∧Bo B e (Pt 2 xJ) O r.1.1∧Bo B e (Pt 2 xK) P r.1.2.1∧xO r.1.2.2.1∧xO r.1.2.2.2.1∧xO r.2.1)):=by
 unfold gB at d
 refine xW (L:=[(0,f),(1,h),(2,j),(3,xC i)]) func25 rfl rfl rfl (sc rfl (sc rfl (sc rfl (sc rfl sn)))) (fun a F=>?_);have H:=W;refine xV (xA 2 F rfl fun a F=>vE (xA 3 F rfl fun a F=>?_));refine kY underlying73 zeroValue73 (fun w=>by simp [sizeOf2,sizeOf32,sizeOf35,sizeOf4,sizeOf53,sizeOf54];rfl) F rfl rfl rfl rfl rfl (oc (H.a p).pone (oc (H.a t).pone (oc rfl on))) rfl rfl fun a F=>oX F rfl rfl rfl H fun a w x H F=>xA 1 F rfl fun a F=>vE (xA 2 F rfl fun a F=>?_);have H:=H.nl 4 oP 77;have H:=H.nl 1 xI 2;obtain⟨n,X,d⟩:=xB d;obtain⟨Z,K1,V⟩:=Sep.lend (K:=[bx x [f,h,xC i,xC 0,qQ,qQ,.bool false] 73,rl 4 oP 77 qQ ([]),rl 1 xI 2 qQ ([]),rw N0 1 (qK 1 xI) 32 j G]) (L:=[]) (H.s [2,1,0,3] rfl rfl);refine oG F rfl call50 rfl (mJ n X _ H.hN K1 (H.u p) (H.u t) C (show xO 0 by decide)) (fun a Y w ⟨y,A,a0,S,J⟩ F=>?_);subst Y;have H:Sep I B e w [bx x [f,h,xC i,xC n.2.1,y,A,.bool n.2.2.2.2.1] 73,rl 4 oP 77 y n.2.2.1,rl 1 xI 2 A n.2.2.2.1,rw N0 1 (qK 1 xI) 32 j n.2.2.2.2.2]:=V S;refine xA 1 F rfl fun a F=>xG (xF (oQ (xV (xA 1 F rfl fun a F=>qJ F rfl rfl fun a F=>oD xJw F rfl rfl rfl fun a F=>oB isAgg4 F rfl rfl (H.b 0 rfl) rfl (fun a F=>?_)))));refine xA 1 F rfl fun a F=>xG (qS F rfl (fun D=>?_) (fun D=>?_))
 ·
  replace d:=vY D d;refine xV (xA 3 F rfl fun a F=>xG (xP (vO (oJ (vV F rfl (xX F rfl) (xX F rfl) ?_)))));obtain rfl:=oj d;exact⟨_,rfl,x,f,h,y,A,rfl,H,p,t,C,J,(show xO (7) by decide)⟩
 replace d:=vX D d;refine xV (xA 2 F rfl fun a F=>xG (qS F rfl (fun E=>?_) (fun E=>?_)))
 ·
  replace d:=vY E d;refine xV (xA 3 F rfl fun a F=>xG (xP (vO (oJ (vV F rfl (xX F rfl) (xX F rfl) ?_)))));obtain rfl:=oj d;exact⟨_,rfl,x,f,h,y,A,rfl,H,p,t,C,J,(show xO (0) by decide)⟩
 replace d:=vX E d;refine xS (vK (xH (xV (xA 3 F rfl fun a F=>xG (xP ?_)))));refine vV F rfl (xX F rfl) (xX F rfl) ?_;obtain rfl:=oj d;exact⟨_,rfl,x,f,h,y,A,rfl,H,p,t,C,J,(show xO (6) by decide)⟩
def dL (N:Nat) (d:Template) (e:Instance) (f:Int):Option ((List Int)×Int×Int):=
 xZ (bC (Template.mk d.size d.rels) (Instance.mk e.vars e.cons) f) fun h=>
 if (h != 0) then
  some ([],0,h)
 else
  xZ (dX (Template.mk d.size d.rels) (Instance.mk e.vars e.cons)) fun i=>
  xZ (gB N (Template.mk d.size d.rels) (Instance.mk e.vars e.cons) i f) fun c=>
  if (c.2.1==0) then
   some (c.1.2.2.2.2.2.1,c.1.2.2.2.1,0)
  else
   if (c.2.1==6) then
    some ([],c.1.2.2.2.1,c.2.1)
   else
    some ([],0,c.2.1)
theorem sT {B:Nat→Prop} {N:Nat} {P:Template} {Q:Instance} {h:Int} (r:(List Int)×Int×Int) (d:dL N P Q h=some r) {t:Value} {y:Value} (f:World) (hN:∀ c,B c→c<f.heap.size) (A0:Bo B f (kJ 2 xJ) t P) (A1:Bo B f (kJ 2 xK) y Q) (J:xO h):Calls Tryz.prog 7 #[t,y,xC h] f (Gv (fun v w'=>∃ (M:Value),v= .tuple #[M,xC r.2.1,xC r.2.2]∧Sep [] B f w' [rl 1 xI 2 M r.1]∧xO r.2.1∧xO r.2.2)):=by
 unfold dL at d
 refine xW (L:=[(0,t),(1,y),(2,xC h)]) func7 rfl rfl rfl (sc rfl (sc rfl (sc rfl sn))) (fun a F=>?_);have H:=Sep.start hN;refine xV ?_;obtain⟨v2,rfl,A,C⟩:=xJ.o A0;refine oX F rfl rfl rfl H (fun a w b1 H F=>?_);obtain⟨ao,rfl,D,E⟩:=xK.o A1;refine oX F rfl rfl rfl H fun a w b2 H F=>xA 3 F rfl fun a F=>xG (xF (xV (xA 1 F rfl fun a F=>?_)));obtain⟨z1,c1,d⟩:=xB d;refine oKI F rfl call24 rfl H (lM z1 c1 _ aA (xJ.b (H.g 1 rfl).bk A (H.a C)) (xK.b (H.g 0 rfl).bk D (H.a E)) J) fun a w H a1 F=>xA 1 F rfl fun a F=>vE (xA 2 F rfl fun a F=>xG (qS F rfl (fun i=>?_) (fun i=>?_)))
 ·
  replace d:=vY i d;refine xV (oR0 (R:=xI) underlying32 sizeOf2 F rfl H fun a w v3 H F=>xA 4 F rfl fun a F=>xG (xP (oJ ?_)));refine jL F rfl (xX F rfl) (xX F rfl) (xX F rfl) ?_;obtain rfl:=oj d;exact⟨_,rfl,v3,rfl,(H.s [0] rfl rfl),(show xO (0) by decide),a1⟩
 replace d:=vX i d;refine xS (xH (xV ?_));obtain⟨T,c2,d⟩:=xB d;refine oG F rfl call26 rfl (nL T c2 _ aA (xJ.b (H.g 1 rfl).bk A (H.a C)) (xK.b (H.g 0 rfl).bk D (H.a E))) (fun a G w ⟨U,aq,S⟩ F=>?_);subst G;have H:=H.r1 S n0;refine xA 1 F rfl fun a F=>?_;obtain⟨w1,rfl⟩:∃ x,x=w:=⟨_,rfl⟩;have ar:=H.sm;obtain⟨X1,N1,V,O,H,j,au⟩:=(H.s [2,1,0] rfl rfl).mg.fza;have K1:=V.l.bk;have K2:=V.r.bk;obtain⟨e,c3,d⟩:=xB d;have H:=H.lw;obtain⟨X2,K3,a2⟩:=Sep.lend (K:=[rw N0 1 (qK 1 xI) 32 U T]) (L:=[]) H;refine oG F rfl call25 rfl (pZ e c3 _ H.hN K3 (xJ.b (K1.to H.sm) A (H.u (O C))) (xK.b (K2.to H.sm) D (H.u (O E))) J) (fun a G w ⟨b3,v5,v6,W,I,av,S,X,Y,i3,Z,i5⟩ F=>?_);subst G;have X:=H.dn X;have Y:=H.dn Y;have H:Sep X1 N1 w1 w [bx b3 [v5,v6,xC e.1.2.2.1,xC e.1.2.2.2.1,W,I,.bool e.1.2.2.2.2.2.2] 73,rl 4 oP 77 W e.1.2.2.2.2.1,rl 1 xI 2 I e.1.2.2.2.2.2.1,rw N0 1 (qK 1 xI) 32 U e.2.2]:=a2 S;refine xA 5 F rfl fun a F=>xG (xF (xV (xA 1 F rfl fun a F=>?_)));refine xG (oQ (xV (xA 2 F rfl fun a F=>xG (qS F rfl (fun n=>?_) (fun n=>?_)))))
 ·
  replace d:=vY n d;refine xF (xQ H (by kernel_rfl) (by kernel_rfl) (xM F rfl (fun w l=>xL F rfl) fun a F=>xM F rfl (fun w l=>oY F rfl) fun a F=>xM F rfl (fun w l=>xU xEo F rfl rfl) fun a F=>qB isAgg32 F rfl rfl (H.qb 0 rfl) rfl fun a F=>xM F rfl (fun w l=>xL F rfl) fun a F=>xM F rfl (fun w l=>oY F rfl) fun a F=>xM F rfl (fun w l=>xU wF F rfl rfl) fun a F=>qB isAgg2 F rfl rfl (H.qb 0 rfl) rfl fun a F=>xM F rfl (fun w l=>qU F rfl) (fun a F=>?_)));refine xM F rfl (fun w l=>qU F rfl) fun a F=>xM F rfl (fun w l=>qU F rfl) fun a F=>kT fun w H=>xH (xP (vO (oJ ?_)));have H:=(j.1 H (Ns.all ⟨n0,⟨n0,⟨n0,⟨n0,trivial⟩⟩⟩⟩)).um;refine jL F rfl (xX F rfl) (xX F rfl) (xX F rfl) ?_;obtain rfl:=oj d;exact⟨_,rfl,I,rfl,(H.s [4] rfl rfl),Z,(show xO (0) by decide)⟩
 replace d:=vX n d;refine xV (xA 2 F rfl fun a F=>xG (qS F rfl (fun p=>?_) (fun p=>?_)))
 ·
  replace d:=vY p d;refine xF ?_;obtain⟨w2,rfl⟩:∃ x,x=w:=⟨_,rfl⟩;have aw:=H.sm;obtain⟨X3,N2,a3,e1,H,a4,ax⟩:=H.fza;have K4:=a3.bk;refine xD H (by kernel_rfl) fun w H=>qP 1 rfl (by kernel_rfl) (xN F rfl (fun w l=>xL F rfl) fun a F=>oV 2 rfl (by kernel_rfl) (xN F rfl (fun w l=>oY F rfl) fun a F=>oV 3 rfl (by kernel_rfl) (xN F rfl (fun w l=>xU wF F rfl rfl) fun a F=>oV 4 rfl (by kernel_rfl) (vB isAgg2 F rfl rfl (K4.v H.sm) rfl fun a F=>qP 5 rfl (by kernel_rfl) (xN F rfl (fun w l=>xL F rfl) (fun a F=>?_))))));refine xE H 0 rfl (by kernel_rfl) (oR0 (R:=xI) underlying32 sizeOf2 F rfl H fun a w v9 H F=>xG ⟨⟨_,H⟩,?_⟩);refine qP 6 rfl (by kernel_rfl) (xN F rfl (fun w l=>qU F rfl) fun a F=>qP 7 rfl (by kernel_rfl) (xN F rfl (fun w l=>qU F rfl) fun a F=>qP 8 rfl (by kernel_rfl) (xN F rfl (fun w l=>qU F rfl) fun a F=>vP (by kernel_rfl) (xH (xP (vO (oJ ?_)))))));have H:=(j.1 (a4.1 H (Ns.all ⟨n0,⟨n0,⟨n0,⟨n0,trivial⟩⟩⟩⟩)) (Ns.all ⟨n0,⟨n0,⟨n0,⟨n0,⟨n0,trivial⟩⟩⟩⟩⟩)).um;refine jL F rfl (xX F rfl) (xX F rfl) (xX F rfl) ?_;obtain rfl:=oj d;exact⟨_,rfl,v9,rfl,(H.s [3] rfl rfl),Z,i5⟩
 replace d:=vX p d;refine xS (vK (xH (xV (oR0 (R:=xI) underlying32 sizeOf2 F rfl H fun a w a5 H F=>xA 4 F rfl fun a F=>zE ?_))));refine xH (xP ?_);have H:=(j.1 H (Ns.all ⟨n0,⟨n0,⟨n0,⟨n0,⟨n0,trivial⟩⟩⟩⟩⟩)).um;refine jL F rfl (xX F rfl) (xX F rfl) (xX F rfl) ?_;obtain rfl:=oj d;exact⟨_,rfl,a5,rfl,(H.s [2] rfl rfl),(show xO (0) by decide),i5⟩
def eU (N:Nat) (d:Template) (e:Instance) (f:Int):Option ((List Line)×Int):=
 xZ (dX d e) fun h=>
 xZ (gB N d e h f) fun c=>
 if (c.2.1==7) then
  some ([],c.2.1)
 else
  if (c.2.1==0) then
   some ([],6)
  else
   if (decide (4000<(c.1.2.2.2.2.1.length:Int))) then
    some ([],3)
   else
    some (c.1.2.2.2.2.1,0)
theorem sS {B:Nat→Prop} {N:Nat} {C:Template} {D:Instance} {h:Int} (r:(List Line)×Int) (d:eU N C D h=some r) {p:Value} {t:Value} (f:World) (V:∀ c,B c→c<f.heap.size) (E:Bo B f (Pt 2 xJ) p C) (G:Bo B f (Pt 2 xK) t D) (Q:xO h):Calls Tryz.prog 27 #[p,t,xC h] f (Gv (fun v w'=>∃ (A:Value),v= .tuple #[A,xC r.2]∧Sep [] B f w' [rl 4 oP 77 A r.1]∧xO r.2)):=by
 unfold eU at d
 refine xW (L:=[(0,p),(1,t),(2,xC h)]) func27 rfl rfl rfl (sc rfl (sc rfl (sc rfl sn))) (fun a F=>?_);have H:=Sep.start V;refine xV (xA 2 F rfl fun a F=>vE (xA 3 F rfl fun a F=>?_));refine xA 1 F rfl fun a F=>?_;obtain⟨I,W,d⟩:=xB d;refine oG F rfl call26 rfl (nL I W _ aA (H.a E) (H.a G)) (fun a x w ⟨J,a4,S⟩ F=>?_);subst x;have H:=H.r1 S n0;refine xA 1 F rfl fun a F=>?_;obtain⟨e,X,d⟩:=xB d;have H:=H.lw;obtain⟨X1,K1,T⟩:=Sep.lend (K:=[rw N0 1 (qK 1 xI) 32 J I]) (L:=[]) H;refine oG F rfl call25 rfl (pZ e X _ H.hN K1 (H.u E) (H.u G) Q) (fun a x w ⟨Y,Z,v4,y,M,a5,S,O,P,i1,i2,U⟩ F=>?_);subst x;have O:=H.dn O;have P:=H.dn P;have H:Sep [] B f w [bx Y [Z,v4,xC e.1.2.2.1,xC e.1.2.2.2.1,y,M,.bool e.1.2.2.2.2.2.2] 73,rl 4 oP 77 y e.1.2.2.2.2.1,rl 1 xI 2 M e.1.2.2.2.2.2.1,rw N0 1 (qK 1 xI) 32 J e.2.2]:=T S;refine xA 5 F rfl fun a F=>xG (xF (oQ (xV ?_)));refine xA 3 F rfl fun a F=>xG (qS F rfl (fun i=>?_) (fun i=>?_))
 ·
  replace d:=vY i d;refine xV (oR0 (R:=oP) underlying35 sizeOf77 F rfl H fun a w v7 H F=>xA 3 F rfl fun a F=>xG (xP (vO (oJ ?_))));refine vV F rfl (xX F rfl) (xX F rfl) ?_;obtain rfl:=oj d;exact⟨_,rfl,v7,rfl,(H.s [0] rfl rfl),U⟩
 replace d:=vX i d;refine xV (xA 3 F rfl fun a F=>xG (qS F rfl (fun j=>?_) (fun j=>?_)))
 ·
  replace d:=vY j d;refine xV (oR0 (R:=oP) underlying35 sizeOf77 F rfl H fun a w v8 H F=>xA 2 F rfl fun a F=>xG (xP (vO (oJ (vV F rfl (xX F rfl) (xX F rfl) ?_)))));obtain rfl:=oj d;exact⟨_,rfl,v8,rfl,(H.s [0] rfl rfl),(show xO (6) by decide)⟩
 replace d:=vX j d;refine xV (xA 1 F rfl fun a F=>qJ F rfl rfl fun a F=>oD nJ F rfl rfl rfl fun a F=>oB isAgg35 F rfl rfl (H.b 0 rfl) rfl fun a F=>oL underlying35 F rfl rfl (H.l 1 rfl) fun a i3 F=>xA 2 F rfl fun a F=>xG ?_);refine qS F rfl (fun n=>?_) (fun n=>?_)
 ·
  replace d:=vY n d;refine xV (oR0 (R:=oP) underlying35 sizeOf77 F rfl H fun a w v9 H F=>xA 2 F rfl fun a F=>xG (xP (vO (oJ (vV F rfl (xX F rfl) (xX F rfl) ?_)))));obtain rfl:=oj d;exact⟨_,rfl,v9,rfl,(H.s [0] rfl rfl),(show xO (3) by decide)⟩
 replace d:=vX n d;refine xS (vK (xH (xV (xA 1 F rfl fun a F=>qJ F rfl rfl fun a F=>oD nJ F rfl rfl rfl fun a F=>oB isAgg35 F rfl rfl (H.b 0 rfl) rfl fun a F=>xA 2 F rfl fun a F=>?_))));refine xG (xP (vV F rfl (xX F rfl) (xX F rfl) ?_));obtain rfl:=oj d;exact⟨_,rfl,y,rfl,(H.s [1] rfl rfl),(show xO (0) by decide)⟩
def aR (N:Nat) (c:Template) (d:Instance) (e:Int):Option ((List Line)×Int):=
 xZ (bC (Template.mk c.size c.rels) (Instance.mk d.vars d.cons) e) fun f=>
 if (f != 0) then
  some ([],f)
 else
  xZ (eU N (Template.mk c.size c.rels) (Instance.mk d.vars d.cons) e) fun h=>
  some (h.1,h.2)
theorem nB {B:Nat→Prop} {N:Nat} {t:Template} {x:Instance} {f:Int} (r:(List Line)×Int) (d:aR N t x f=some r) {i:Value} {j:Value} (e:World) (G:∀ c,B c→c<e.heap.size) (I:Bo B e (kJ 2 xJ) i t) (J:Bo B e (kJ 2 xK) j x) (n:xO f):Calls Tryz.prog 9 #[i,j,xC f] e (Gv (fun v w'=>∃ (p:Value),v= .tuple #[p,xC r.2]∧Sep [] B e w' [rl 4 oP 77 p r.1]∧xO r.2)):=by
 unfold aR at d
 refine xW (L:=[(0,i),(1,j),(2,xC f)]) func9 rfl rfl rfl (sc rfl (sc rfl (sc rfl sn))) (fun a F=>?_);have H:=Sep.start G;refine xV ?_;obtain⟨Y,rfl,y,A⟩:=xJ.o I;refine oX F rfl rfl rfl H (fun a w Z H F=>?_);obtain⟨W,rfl,C,D⟩:=xK.o J;refine oX F rfl rfl rfl H fun a w b2 H F=>xA 2 F rfl fun a F=>xG (xF (xV (xA 1 F rfl fun a F=>?_)));obtain⟨K,M,d⟩:=xB d;refine oKI F rfl call24 rfl H (lM K M _ aA (xJ.b (H.g 1 rfl).bk y (H.a A)) (xK.b (H.g 0 rfl).bk C (H.a D)) n) fun a w H E F=>xA 1 F rfl fun a F=>vE (xA 2 F rfl fun a F=>xG (qS F rfl (fun h=>?_) (fun h=>?_)))
 ·
  replace d:=vY h d;refine xV (oR0 (R:=oP) underlying35 sizeOf77 F rfl H fun a w O H F=>xA 3 F rfl fun a F=>xG (xP (oJ (vV F rfl (xX F rfl) (xX F rfl) ?_))));obtain rfl:=oj d;exact⟨_,rfl,O,rfl,(H.s [0] rfl rfl),E⟩
 replace d:=vX h d;refine xS (xH (xV (xA 1 F rfl fun a F=>?_)));obtain⟨P,Q,d⟩:=xB d;refine oG F rfl call27 rfl (sS P Q _ aA (xJ.b (H.g 1 rfl).bk y (H.a A)) (xK.b (H.g 0 rfl).bk C (H.a D)) n) (fun a T w ⟨U,X,S,V⟩ F=>?_);subst T;have H:=H.r1 S n0;refine xA 4 F rfl fun a F=>xG (xP (vV F rfl (xX F rfl) (xX F rfl) ?_));obtain rfl:=oj d;exact⟨_,rfl,U,rfl,(H.s [0] rfl rfl),V⟩
def iL (c d:Int):Option Int:=
 if (decide (d<c)) then
  some c
 else
  some d
theorem yS {B:Nat→Prop} {e f:Int} (r:Int) (d:iL e f=some r)  (i:World) (p:∀ c,B c→c<i.heap.size) (j:xO e) (n:xO f):Calls Tryz.prog 126 #[xC e,xC f] i (gF r i):=by
 unfold iL at d
 refine xW (L:=[(0,xC e),(1,xC f)]) func126 rfl rfl rfl (sc rfl (sc rfl sn)) (fun a F=>?_);have H:=Sep.start p;refine xV (xA 1 F rfl fun a F=>xG (xF (xV (xA 3 F rfl fun a F=>?_))));refine xG (qS F rfl (fun h=>?_) (fun h=>?_))
 ·
  replace d:=vY h d;refine xV (xA 2 F rfl fun a F=>xG (xP (oJ (xR F rfl (xX F rfl) ?_))));obtain rfl:=oj d;exact⟨⟨rfl,H.bl⟩,j⟩
 replace d:=vX h d;refine xS (xH (xV (xA 2 F rfl fun a F=>xG (xP (xR F rfl (xX F rfl) ?_)))));obtain rfl:=oj d;exact⟨⟨rfl,H.bl⟩,n⟩
def jQ (c d:List Int):Option (List Int):=
 zW (σ:=(List Int)) (
  qR (σ:=(List Int)) (ρ:=(List Int)) (fun (n:Nat) (e:Int) (f:(List Int))=>
   xZ (ix c e) fun h=>
   xZ (ap f ([h])) fun i=>
   some (.go i)) d 0 []) fun j=>
 some j
theorem xBo {B:Nat→Prop} {I i:List Int} (r:(List Int)) (d:jQ I i=some r) {n:Value} {p:Value} (f:World) (Q:∀ c,B c→c<f.heap.size) (S:Bo B f (Sl 1 xI) n I) (C:Bo B f (Sl 1 xI) p i):Calls Tryz.prog 148 #[n,p] f (Gv (fun v w'=>∃ (E:Value),v=E∧Sep [] B f w' [rl 1 xI 2 E r])):=by
 unfold jQ at d
 refine xW (L:=[(0,n),(1,p)]) func148 rfl rfl rfl (sc rfl (sc rfl sn)) (fun a F=>?_);have H:=Sep.start Q;refine xV (xA 1 F rfl fun a F=>vE (oR0 (R:=xI) underlying32 sizeOf2 F rfl H fun a w T H F=>xA 1 F rfl fun a F=>xG ?_));refine xF (xV (xA 1 F rfl fun a F=>xG ?_));obtain⟨G,d,K⟩:=xT d;refine oR (fun a w=>∃ (D:List Int) (t:Value),G= .nx D∧Sk a 25 [(5,t)]∧Sep [] B f w [rl 1 xI 2 t D]) ?_ ?_
 ·
  refine oQ ?_;obtain⟨M,N,d⟩:=qZ d;refine qY (fun g a w=>∃ (j:Nat) (h x:List Int) (A:Value),(j≤i.length∧i.drop j=h)∧h.length=g∧qR M h j x=some G∧Sk a 25 [(6,xC (j:Int)),(0,n),(1,p),(5,A)]∧Sep [] B f w [rl 1 xI 2 A x]) i.length ?_ ?_
  ·
   exact⟨0,i,[],T,⟨Nat.zero_le _,rfl⟩,rfl,d,F.su,H⟩
  intro g1 a w ⟨j,h,x,A,e,O,d,F,H⟩
  cases h with
  | nil=>
   replace d:=vA d;have U:=vC e.1 e.2;have l1:=zK U;refine xF (xV (xA 2 F rfl fun a F=>oL underlying32 F rfl rfl C fun a i1 F=>xA 1 F rfl fun a F=>xG (zS F rfl l1 (qV ?_))));refine qX (qX (kF (xH ?_)));exact⟨x,A,(zL d),F.su,H⟩
  | cons x2 h=>
   subst O;replace e:=qE e.2;have V:=vH e.2.1;obtain⟨a5,d,P⟩:=qM d;rw[N] at d;have l1:=vR e.1;refine xF (xV (xA 2 F rfl fun a F=>oL underlying32 F rfl rfl C fun a J F=>xA 1 F rfl fun a F=>xG (zQ F rfl l1 (xS ?_))));refine xH (xF ?_);have j1:=k64 (Nat.le_of_lt e.1) J;have W:=kO e.1 J;refine oQ (oM (xA 4 F rfl fun a F=>oI underlying32 sizeOf2 F rfl rfl rfl C V fun a p1 X F=>olI isAgg2 F rfl rfl H.sm X (fun a i3 F=>?_)));obtain⟨Y,Z,d⟩:=xB d;refine oI underlying32 sizeOf2 F rfl rfl rfl S Z fun a p2 h2 F=>olI isAgg2 F rfl rfl H.sm h2 fun a i4 F=>dF (R:=xI) (y:=Y) underlying32 sizeOf2 zeroValue2 rfl rfl F rfl rfl H (Eo.int i4) (fun a w v5 H F=>?_);obtain⟨z2,c2,d⟩:=xB d;refine oPL (sz:=1) (R:=xI) (z:=(xC 0)) (bytes:=8) underlying32 (by kernel_rfl) rfl rfl F rfl rfl rfl (H.s [1,0] rfl rfl) c2 fun a w v6 H F=>xA 1 F rfl fun a F=>zE (vK (xH (oM (xA 1 F rfl fun a F=>zG F rfl rfl rfl W fun a F=>xA 1 F rfl fun a F=>xG ?_))));replace d:=zM d P;exact⟨_,Nat.lt_succ_self _,j+1,h,z2,v6,⟨e.1,e.2.2⟩,rfl,d,F.su,H⟩
 rintro a w ⟨D,t,rfl,F,H⟩
 have d:=xY K;refine xH (xV (xA 2 F rfl fun a F=>xG (xP (xR F rfl (xX F rfl) ?_))));obtain rfl:=oj d;exact⟨_,rfl,t,rfl,H⟩
def fC (c d:List Int):Option Bool:=
 if ((c.length:Int) != (d.length:Int)) then
  some false
 else
  zW (σ:=Unit) (
   qR (σ:=Unit) (ρ:=Bool) (fun (e:Nat) (f:Int) (s:Unit)=>
     match s with
     | _=>
     xZ (ix d (e:Int)) fun h=>
     if (f != h) then
      some (.ret false)
     else
      some (.go ())) c 0 ()) fun _=>
  some true
theorem nG {B:Nat→Prop} {i D:List Int} (r:Bool) (d:fC i D=some r) {n:Value} {p:Value} (h:World) (N:∀ c,B c→c<h.heap.size) (t:Bo B h (Sl 1 xI) n i) (E:Bo B h (Sl 1 xI) p D):Calls Tryz.prog 29 #[n,p] h (kU (.bool r) h):=by
 unfold fC at d
 refine xW (L:=[(0,n),(1,p)]) func29 rfl rfl rfl (sc rfl (sc rfl sn)) (fun a F=>?_);have H:=Sep.start N;refine xV (xA 1 F rfl fun a F=>xG (xF (xV (xA 1 F rfl fun a F=>oL underlying32 F rfl rfl t fun a V F=>xA 1 F rfl fun a F=>?_))));refine oL underlying32 F rfl rfl E fun a W F=>xA 1 F rfl fun a F=>xG (qS F rfl (fun x=>?_) (fun x=>?_))
 ·
  replace d:=vY x d;refine xV (xA 1 F rfl fun a F=>xG (xP (oJ (xR F rfl (xX F rfl) ?_))));obtain rfl:=oj d;exact⟨rfl,H.bl⟩
 replace d:=vX x d;refine xS (xH (xF (xV (xA 1 F rfl fun a F=>xG ?_))));obtain⟨G,d,A⟩:=xT d;refine oR (fun a w=>G= .nx ()∧Sk a 26 []∧Sep [] B h w []) ?_ ?_
 ·
  refine oQ ?_;obtain⟨J,K,d⟩:=qZ d;refine qY (fun g a w=>∃ (j:Nat) (f:List Int),(j≤i.length∧i.drop j=f)∧f.length=g∧qR J f j ()=some G∧Sk a 26 [(5,xC (j:Int)),(0,n),(1,p)]∧Sep [] B h w []) i.length ?_ ?_
  ·
   exact⟨0,i,⟨Nat.zero_le _,rfl⟩,rfl,d,F.su,H⟩
  intro X a w ⟨j,f,e,M,d,F,H⟩
  cases f with
  | nil=>
   replace d:=vA d;have O:=vC e.1 e.2;have l1:=zK O;refine xF (xV (xA 2 F rfl fun a F=>oL underlying32 F rfl rfl t fun a Y F=>xA 1 F rfl fun a F=>xG (zS F rfl l1 (qV ?_))));refine qX (qX (kF (xH ?_)));exact⟨(zL d),F.sub sn,H⟩
  | cons Z f=>
   subst M;replace e:=qE e.2;have P:=vH e.2.1;obtain⟨U,d,C⟩:=qM d;rw[K] at d;have l1:=vR e.1;refine xF (xV (xA 2 F rfl fun a F=>oL underlying32 F rfl rfl t fun a I F=>xA 1 F rfl fun a F=>xG (zQ F rfl l1 (xS ?_))));refine xH (xF ?_);have j1:=k64 (Nat.le_of_lt e.1) I;have Q:=kO e.1 I;refine oQ (xF (xQ H (by kernel_rfl) (by kernel_rfl) (xM F rfl (fun w l=>xL F rfl) fun a F=>xM F rfl (fun w l=>xL F rfl) fun a F=>qI underlying32 sizeOf2 F rfl rfl rfl t P fun a p1 R F=>qlI isAgg2 F rfl rfl H.q R fun a i5 F=>xM F rfl (fun w l=>xL F rfl) fun a F=>xM F rfl (fun w l=>xL F rfl) (fun a F=>?_))));obtain⟨z1,S,d⟩:=xB d;refine qI underlying32 sizeOf2 F rfl rfl rfl E S fun a p2 T F=>qlI isAgg2 F rfl rfl H.q T fun a i6 F=>xM F rfl (fun w l=>rS F rfl rfl) fun a F=>kT fun w H=>xH (qS F rfl (fun y=>?_) (fun y=>?_))
   ·
    replace d:=vY y d;refine xV (xA 1 F rfl fun a F=>xG (xP (vO (oJ (oJ ?_)))));replace d:=kK d C;refine vO (oJ ?_);replace d:=kI d A;refine oJ (xR F rfl (xX F rfl) ?_);obtain rfl:=oj d;exact⟨rfl,H.bl⟩
   replace d:=vX y d;refine xS (vK (xH (oM (xA 1 F rfl fun a F=>zG F rfl rfl rfl Q fun a F=>xA 1 F rfl fun a F=>xG ?_))));replace d:=zM d C;exact⟨_,Nat.lt_succ_self _,j+1,f,⟨e.1,e.2.2⟩,rfl,d,F.su,H⟩
 rintro a w ⟨rfl,F,H⟩
 have d:=xY A;refine xH (xV (xA 1 F rfl fun a F=>xG (xP (xR F rfl (xX F rfl) ?_))));obtain rfl:=oj d;exact⟨rfl,H.bl⟩
def iN (c:Rel) (d:List Int):Option Bool:=
 zW (σ:=Unit) (
  qR (σ:=Unit) (ρ:=Bool) (fun (h:Nat) (e:(List Int)) (s:Unit)=>
    match s with
    | _=>
    xZ (fC e d) fun f=>
    if f then
     some (.ret true)
    else
     some (.go ())) c.tuples 0 ()) fun _=>
 some false
theorem yP {B:Nat→Prop} {i:Rel} {D:List Int} (r:Bool) (d:iN i D=some r) {p:Value} {t:Value} (f:World) (K:∀ c,B c→c<f.heap.size) (j:Bo B f (Pt 2 qG) p i) (M:Bo B f (Sl 1 xI) t D):Calls Tryz.prog 147 #[p,t] f (kU (.bool r) f):=by
 unfold iN at d
 refine xW (L:=[(0,p),(1,t)]) func147 rfl rfl rfl (sc rfl (sc rfl sn)) (fun a F=>?_);have H:=Sep.start K;refine xV (xA 1 F rfl fun a F=>xG (xF (xV (xA 1 F rfl fun a F=>xG ?_))));obtain⟨y,d,A⟩:=xT d;refine oR (fun a w=>y= .nx ()∧Sk a 24 []∧Sep [] B f w []) ?_ ?_
 ·
  refine oQ ?_;obtain⟨G,I,d⟩:=qZ d;refine qY (fun g a w=>∃ (n:Nat) (h:List (List Int)),(n≤i.tuples.length∧i.tuples.drop n=h)∧h.length=g∧qR G h n ()=some y∧Sk a 24 [(5,xC (n:Int)),(0,p),(1,t)]∧Sep [] B f w []) i.tuples.length ?_ ?_
  ·
   exact⟨0,i.tuples,⟨Nat.zero_le _,rfl⟩,rfl,d,F.su,H⟩
  intro g1 a w ⟨n,h,e,J,d,F,H⟩
  cases h with
  | nil=>
   replace d:=vA d;have N:=vC e.1 e.2;have l1:=zK N;refine xF (xV (xA 2 F rfl fun a F=>oN F rfl rfl j fun a F=>oF (s':=1) bJ F rfl rfl j qG.f1 fun a p1 O F=>gX isAgg55 F rfl rfl H.sm O fun a v2 P F=>oL underlying55 F rfl rfl P fun a i64 F=>xA 1 F rfl fun a F=>zE ?_));refine xH (zS F rfl l1 (qV (qX (qX (kF (xH ?_))))));exact⟨(zL d),F.sub sn,H⟩
  | cons x2 h=>
   subst J;replace e:=qE e.2;have Q:=vH e.2.1;obtain⟨a0,d,C⟩:=qM d;rw[I] at d;have l1:=vR e.1;refine xF (xV (xA 2 F rfl fun a F=>oN F rfl rfl j fun a F=>oF (s':=1) bJ F rfl rfl j qG.f1 fun a p2 R F=>gX isAgg55 F rfl rfl H.sm R fun a v3 S F=>oL underlying55 F rfl rfl S fun a E F=>xA 1 F rfl fun a F=>zE ?_));refine xH (zQ F rfl l1 (xS (xH (xF ?_))));have j1:=k64 (Nat.le_of_lt e.1) E;have T:=kO e.1 E;refine oQ (xV (xA 1 F rfl fun a F=>oN F rfl rfl j fun a F=>oF (s':=1) bJ F rfl rfl j qG.f1 fun a p3 U F=>gX isAgg55 F rfl rfl H.sm U fun a v4 V F=>xA 1 F rfl fun a F=>oI underlying55 sizeOf32 F rfl rfl rfl V Q fun a p4 W F=>gX isAgg32 F rfl rfl H.sm W fun a v5 X F=>xA 1 F rfl fun a F=>?_));obtain⟨Y,Z,d⟩:=xB d;refine oK F rfl call29 rfl H (nG Y Z _ aA (H.a X) (H.a M)) fun a w H F=>xG (qS F rfl (fun x=>?_) (fun x=>?_))
   ·
    replace d:=vY x d;refine xV (xA 1 F rfl fun a F=>xG (xP (vO (oJ (oJ ?_)))));replace d:=kK d C;refine vO (oJ ?_);replace d:=kI d A;refine oJ (xR F rfl (xX F rfl) ?_);obtain rfl:=oj d;exact⟨rfl,H.bl⟩
   replace d:=vX x d;refine xS (vK (xH (oM (xA 1 F rfl fun a F=>zG F rfl rfl rfl T fun a F=>xA 1 F rfl fun a F=>xG ?_))));replace d:=zM d C;exact⟨_,Nat.lt_succ_self _,n+1,h,⟨e.1,e.2.2⟩,rfl,d,F.su,H⟩
 rintro a w ⟨rfl,F,H⟩
 have d:=xY A;refine xH (xV (xA 1 F rfl fun a F=>xG (xP (xR F rfl (xX F rfl) ?_))));obtain rfl:=oj d;exact⟨rfl,H.bl⟩
def fK (d:Template) (c:Con) (e:List Int):Option Bool:=
 xZ (ix d.rels c.rel) fun f=>
 xZ (jQ e c.scope) fun h=>
 xZ (iN f h) fun i=>
 some i
theorem tY {B:Nat→Prop} {n:Template} {p:Con} {t:List Int} (r:Bool) (d:fK n p t=some r) {h:Value} {i:Value} {j:Value} (e:World) (A:∀ c,B c→c<e.heap.size) (x:Bo B e (Pt 2 xJ) h n) (f:Bo B e (Pt 2 qH) i p) (C:Bo B e (Sl 1 xI) j t):Calls Tryz.prog 127 #[h,i,j] e (kU (.bool r) e):=by
 unfold fK at d
 refine xW (L:=[(0,h),(1,i),(2,j)]) func127 rfl rfl rfl (sc rfl (sc rfl (sc rfl sn))) (fun a F=>?_);have H:=Sep.start A;refine xV (xA 1 F rfl fun a F=>xG (xF ?_));obtain⟨T,D,d⟩:=xB d;obtain⟨E,G,d⟩:=xB d;obtain⟨I,y,d⟩:=xB d;refine xD H (by kernel_rfl) fun w H=>qP 0 rfl (by kernel_rfl) (xN F rfl (fun w l=>xL F rfl) fun a F=>oV 1 rfl (by kernel_rfl) (vN F rfl rfl x fun a F=>oV 2 rfl (by kernel_rfl) (vF (s':=1) kW F rfl rfl x xJ.f1 fun a U J F=>oV 3 rfl (by kernel_rfl) (vlS isAgg24 F rfl rfl H.v J fun a V K F=>qP 4 rfl (by kernel_rfl) (xN F rfl (fun w l=>xL F rfl) (fun a F=>?_))))));refine oV 5 rfl (by kernel_rfl) (vN F rfl rfl f fun a F=>oV 6 rfl (by kernel_rfl) (vF (s':=1) mP F rfl rfl f qH.f0 fun a W M F=>oV 7 rfl (by kernel_rfl) (vlI isAgg2 F rfl rfl H.v M fun a X F=>oV 8 rfl (by kernel_rfl) (vI underlying24 sizeOf57 F rfl rfl rfl K D fun a Y N F=>qP 9 rfl (by kernel_rfl) (xN F rfl (fun w l=>xL F rfl) fun a F=>qP 10 rfl (by kernel_rfl) ?_)))));refine xN F rfl (fun w l=>xL F rfl) fun a F=>oV 11 rfl (by kernel_rfl) (vN F rfl rfl f fun a F=>oV 12 rfl (by kernel_rfl) (vF (s':=1) dD F rfl rfl f qH.f1 fun a Z O F=>oV 13 rfl (by kernel_rfl) (vlS isAgg32 F rfl rfl H.v O fun a v4 P F=>xE H 14 rfl (by kernel_rfl) (oG F rfl call148 rfl (xBo E G _ aA (H.a C) (H.a P)) (fun a Q w ⟨v5,R,S⟩ F=>?_)))));subst Q;have H:=H.r1 S n0;refine xG ⟨⟨_,H⟩,?_⟩;refine xE H 15 rfl (by kernel_rfl) (oK F rfl call147 rfl H (yP I y _ aA (H.a N) (H.l 0 rfl)) fun a w H F=>xG ⟨⟨_,H⟩,?_⟩);refine qP 16 rfl (by kernel_rfl) (xN F rfl (fun w l=>qU F rfl) fun a F=>vP (by kernel_rfl) (xH (xP (xR F rfl (xX F rfl) ?_))));obtain rfl:=oj d;exact⟨rfl,H.bl⟩
def cW (c:l05Find) (d:List Int):Option Bool:=
 xZ (ck ((d.length:Int) - 1)) fun f=>
 zW (σ:=Unit) (
  qR (σ:=Unit) (ρ:=Bool) (fun (A:Nat) (e:Con) (s:Unit)=>
    match s with
    | _=>
    zW (σ:=Int) (
     qR (σ:=Int) (ρ:=(Ctl (Unit) Bool)) (fun (B:Nat) (h i:Int)=>
      xZ (iL i h) fun j=>
      some (.go j)) e.scope 0 0) fun n=>
    zW (σ:=Bool) (
     if (n==f) then  xZ (fK c.t e d) fun p=>
      some (.nx (!p)) else  some (.nx false)) fun y=>
    if y then
     some (.ret false)
    else
     some (.go ())) c.x.cons 0 ()) fun _=>
 some true
theorem pJ {B:Nat→Prop} {C:l05Find} {R:List Int} (r:Bool) (d:cW C R=some r) {p:Value} {t:Value} (h:World) (hN:∀ c,B c→c<h.heap.size) (j:Bo B h (Pt 5 kG) p C) (S:Bo B h (Sl 1 xI) t R):Calls Tryz.prog 92 #[p,t] h (kU (.bool r) h):=by
 unfold cW at d
 refine xW (L:=[(0,p),(1,t)]) func92 rfl rfl rfl (sc rfl (sc rfl sn)) (fun a F=>?_);have H:=Sep.start hN;refine xV (xA 1 F rfl fun a F=>vE (xA 1 F rfl fun a F=>oL underlying32 F rfl rfl S (fun a i1 F=>?_)));obtain⟨G,c1,d⟩:=xB d;refine fL F rfl rfl rfl c1 fun a F=>xA 1 F rfl fun a F=>xG (xF (xV (xA 1 F rfl fun a F=>xG ?_)));obtain⟨T,d,O⟩:=xT d;refine oR (fun a w=>T= .nx ()∧Sk a 65 []∧Sep [] B h w []) ?_ ?_
 ·
  refine oQ ?_;obtain⟨a3,a4,d⟩:=qZ d;refine qY (fun g a w=>∃ (i:Nat) (y:List Con),(i≤C.x.cons.length∧C.x.cons.drop i=y)∧y.length=g∧qR a3 y i ()=some T∧Sk a 65 [(6,xC (i:Int)),(0,p),(1,t),(5,xC G)]∧Sep [] B h w []) C.x.cons.length ?_ ?_
  ·
   exact⟨0,C.x.cons,⟨Nat.zero_le _,rfl⟩,rfl,d,F.su,H⟩
  intro g1 a w ⟨i,y,e,a5,d,F,H⟩
  cases y with
  | nil=>
   replace d:=vA d;have q1:=vC e.1 e.2;have l1:=zK q1;refine xF (xV (xA 2 F rfl fun a F=>oN F rfl rfl j fun a F=>oF (s':=1) uE F rfl rfl j kG.f1 fun a p1 h1 F=>olP isAgg54 F rfl rfl H.sm h1 fun a v2 U F=>oN F rfl rfl U fun a F=>oF (s':=1) aD F rfl rfl U xK.f1 fun a p2 h3 F=>gX isAgg27 F rfl rfl H.sm h3 (fun a v3 h4 F=>?_)));refine oL underlying27 F rfl rfl h4 fun a i2 F=>xA 1 F rfl fun a F=>xG (zS F rfl l1 (qV (qX (qX (kF (xH ?_))))));exact⟨(zL d),F.sub sn,H⟩
  | cons K y=>
   subst a5;replace e:=qE e.2;have y1:=vH e.2.1;obtain⟨ba,d,P⟩:=qM d;rw[a4] at d;have l1:=vR e.1;refine xF (xV (xA 2 F rfl fun a F=>oN F rfl rfl j fun a F=>oF (s':=1) uE F rfl rfl j kG.f1 fun a p3 h5 F=>olP isAgg54 F rfl rfl H.sm h5 fun a v4 V F=>oN F rfl rfl V fun a F=>oF (s':=1) aD F rfl rfl V xK.f1 fun a p4 h7 F=>gX isAgg27 F rfl rfl H.sm h7 (fun a v5 h8 F=>?_)));refine oL underlying27 F rfl rfl h8 fun a W F=>xA 1 F rfl fun a F=>xG (zQ F rfl l1 (xS (xH (xF ?_))));have j1:=k64 (Nat.le_of_lt e.1) W;have m1:=kO e.1 W;refine oQ (xV (xA 1 F rfl fun a F=>oN F rfl rfl j fun a F=>oF (s':=1) uE F rfl rfl j kG.f1 fun a p5 h9 F=>olP isAgg54 F rfl rfl H.sm h9 fun a v6 Q F=>oN F rfl rfl Q fun a F=>oF (s':=1) aD F rfl rfl Q xK.f1 fun a p6 a6 F=>gX isAgg27 F rfl rfl H.sm a6 fun a v7 a7 F=>xA 1 F rfl fun a F=>?_));refine oI underlying27 sizeOf60 F rfl rfl rfl a7 y1 fun a X n F=>xA 1 F rfl fun a F=>vE (xA 1 F rfl fun a F=>xG (xF (xF ?_)));refine oM (xA 1 F rfl fun a F=>xG ?_);obtain⟨Y,d,a8⟩:=xT d;refine oR (fun a w=>∃ (I:Int),Y= .nx I∧Sk a 65 [(0,p),(1,t),(5,xC G),(6,xC (i:Int)),(7,X),(8,xC I)]∧Sep [] B h w []∧xO I) ?_ ?_
   ·
    refine oQ ?_;obtain⟨a9,aa,d⟩:=qZ d;refine qY (fun g a w=>∃ (D:Nat) (A:List Int) (J:Int),(D≤K.scope.length∧K.scope.drop D=A)∧A.length=g∧qR a9 A D J=some Y∧Sk a 65 [(9,xC (D:Int)),(0,p),(1,t),(5,xC G),(6,xC (i:Int)),(7,X),(8,xC J)]∧Sep [] B h w []∧xO J) K.scope.length ?_ ?_
    ·
     exact⟨0,K.scope,0,⟨Nat.zero_le _,rfl⟩,rfl,d,F.su,H,(show xO (0) by decide)⟩
    intro g2 a w ⟨D,A,J,f,ab,d,F,H,Z⟩
    cases A with
    | nil=>
     replace d:=vA d;have q2:=vC f.1 f.2;have l2:=zK q2;refine xF (xV (xA 2 F rfl fun a F=>oN F rfl rfl n fun a F=>oF (s':=1) dD F rfl rfl n qH.f1 fun a p8 ac F=>gX isAgg32 F rfl rfl H.sm ac fun a v8 ad F=>oL underlying32 F rfl rfl ad fun a i5 F=>xA 1 F rfl fun a F=>zE ?_));refine xH (zS F rfl l2 (qV (qX (qX (kF (xH ?_))))));exact⟨J,(zL d),F.su,H,Z⟩
    | cons x3 A=>
     subst ab;replace f:=qE f.2;have y2:=vH f.2.1;obtain⟨bb,d,ae⟩:=qM d;rw[aa] at d;have l2:=vR f.1;refine xF (xV (xA 2 F rfl fun a F=>oN F rfl rfl n fun a F=>oF (s':=1) dD F rfl rfl n qH.f1 fun a p9 af F=>gX isAgg32 F rfl rfl H.sm af fun a v9 ag F=>oL underlying32 F rfl rfl ag fun a i6 F=>xA 1 F rfl fun a F=>zE ?_));refine xH (zQ F rfl l2 (xS (xH (xF ?_))));have j2:=k64 (Nat.le_of_lt f.1) i6;have m2:=kO f.1 i6;refine oQ (oM (xA 2 F rfl fun a F=>oN F rfl rfl n fun a F=>oF (s':=1) dD F rfl rfl n qH.f1 fun a bc ah F=>gX isAgg32 F rfl rfl H.sm ah fun a be ai F=>xA 1 F rfl fun a F=>oI underlying32 sizeOf2 F rfl rfl rfl ai y2 fun a bf aj F=>olI isAgg2 F rfl rfl H.sm aj (fun a i7 F=>?_)));obtain⟨z2,c2,d⟩:=xB d;refine oKI F rfl call126 rfl H (yS z2 c2 _ aA Z i7) fun a w H ak F=>xA 1 F rfl fun a F=>zE (vK (xH (oM (xA 1 F rfl fun a F=>zG F rfl rfl rfl m2 fun a F=>xA 1 F rfl fun a F=>xG ?_))));replace d:=zM d ae;exact⟨_,Nat.lt_succ_self _,D+1,A,z2,⟨f.1,f.2.2⟩,rfl,d,F.su,H,ak⟩
   rintro a w ⟨I,rfl,F,H,i8⟩
   have d:=xY a8;refine xH (xF ?_);obtain⟨o3,d,al⟩:=xT d;refine oR (fun a w=>∃ (N:Bool),o3= .nx N∧Sk a 65 [(0,p),(1,t),(5,xC G),(6,xC (i:Int)),(64,.bool N)]∧Sep [] B h w []) ?_ ?_
   ·
    refine oM (xA 4 F rfl fun a F=>?_)
    rcases vJ (I==G) with E | E
    ·
     replace d:=vY E d;have F:=F.eb 55 rfl E;refine xA 1 F rfl fun a F=>oN F rfl rfl j fun a F=>oF (s':=1) xBx F rfl rfl j kG.f0 fun a bg am F=>olP isAgg53 F rfl rfl H.sm am fun a bh an F=>xA 2 F rfl fun a F=>?_;obtain⟨z3,c3,d⟩:=xB d;refine oK F rfl call127 rfl H (tY z3 c3 _ aA (H.a an) (H.a n) (H.a S)) fun a w H F=>xA 2 F rfl fun a F=>xG ?_;exact⟨(!z3),(zL d),F.su,H⟩
    replace d:=vX E d;have F:=F.eb 55 rfl E;refine xA 9 F rfl fun a F=>xG ?_;exact⟨false,(zL d),F.su,H⟩
   rintro a w ⟨N,rfl,F,H⟩
   have d:=xY al;refine xH (qS F rfl (fun M=>?_) (fun M=>?_))
   ·
    replace d:=vY M d;refine xV (xA 1 F rfl fun a F=>xG (xP (vO (oJ (oJ ?_)))));replace d:=kK d P;refine vO (oJ ?_);replace d:=kI d O;refine oJ (xR F rfl (xX F rfl) ?_);obtain rfl:=oj d;exact⟨rfl,H.bl⟩
   replace d:=vX M d;refine xS (vK (xH (oM (xA 1 F rfl fun a F=>zG F rfl rfl rfl m1 fun a F=>xA 1 F rfl fun a F=>xG ?_))));replace d:=zM d P;exact⟨_,Nat.lt_succ_self _,i+1,y,⟨e.1,e.2.2⟩,rfl,d,F.su,H⟩
 rintro a w ⟨rfl,F,H⟩
 have d:=xY O;refine xH (xV (xA 1 F rfl fun a F=>xG (xP (xR F rfl (xX F rfl) ?_))));obtain rfl:=oj d;exact⟨rfl,H.bl⟩
def zX:Nat→Template→Instance→Int→(List (List Int))→Int→(List Int)→Option ((List (List Int))×Int)
  | 0,_,_,_,_,_,_=>none
  | N+1,h,i,c,e,n,j=>
  if ((j.length:Int)==i.vars) then
   xZ (ck (n+1)) fun x=>
   zW (σ:=(List (List Int))) (
    if (decide ((e.length:Int)<c)) then
     xZ (dS j) fun y=>
     xZ (ap e ([y])) fun A=>
     some (.nx A)
    else
     some (.nx e)) fun B=>
   some (B,x)
  else
   zW (σ:=(List (List Int))×Int) (
    dQ (σ:=(List (List Int))×Int) (ρ:=(List (List Int))×Int) (fun(C:Nat) (s:(List (List Int))×Int)=>
      match s with
      | (d,f)=>
      zW (σ:=Bool) (
       if (decide (0<c)) then  some (.nx ((d.length:Int)==c)) else  some (.nx false)) fun D=>
      if D then
       some (.ret (d,f))
      else
       xZ (dS j) fun E=>
       xZ (ap E ([(C:Int)])) fun p=>
       xZ (cW (l05Find.mk h i c d f) p) fun F=>
       if F then
        xZ (zX N h i c d f p) fun t=>
        some (.go (t.1,t.2))
       else
        some (.go (d,f))) h.size.toNat 0 (e,n)) fun(G,H)=>
   some (G,H)
theorem nH:∀ (N:Nat) {B:Nat→Prop} {P:Template} {a0:Instance} {h:Int} {C:List (List Int)} {Q:Int} {x1:List Int} (r:(List (List Int))×Int) (e:zX N P a0 h C Q x1=some r) {f:Nat} {j:Value} {n:Value} {p:Value} {T:Value} {A:List Nat} (i:World) (hN:∀ c,B c→c<i.heap.size) (S0:Sep A B i i [bx f [j,n,xC h,p,xC Q] 117,rl 1 (qK 1 xI) 32 p C]) (J:Bo B i (Pt 2 xJ) j P) (V:Bo B i (Pt 2 xK) n a0) (a6:xO h) (ak:xO Q) (X:Bo B i (Sl 1 xI) T x1),Calls Tryz.prog 52 #[qC f,T] i (Gv (fun v w'=>∃ (al:Value),v= .tuple #[]∧Sep A B i w' [bx f [j,n,xC h,al,xC r.2] 117,rl 1 (qK 1 xI) 32 al r.1]∧xO r.2)):=by
  intro N
  induction N with
  | zero=>intro B P a0 h C Q x1 r e;unfold zX at e;cases e
  | succ N ih=>
  intro B P a0 h C Q x1 r e f j n p T A i hN S0 J V a6 ak X;rw[zX] at e;refine xW (L:=[(0,qC f),(1,T)]) func52 rfl rfl rfl (sc rfl (sc rfl sn)) (fun a F=>?_);have H:=S0;refine xF (xV (xA 1 F rfl fun a F=>oL underlying32 F rfl rfl X fun a i1 F=>xA 1 F rfl fun a F=>qJ F rfl rfl fun a F=>oD uE F rfl rfl rfl fun a F=>oB isAgg54 F rfl rfl (H.b 0 rfl) rfl fun a F=>oN F rfl rfl V fun a F=>oF (s':=1) fH F rfl rfl V xK.f0 (fun a p1 h1 F=>?_)));refine olI isAgg2 F rfl rfl H.sm h1 fun a i2 F=>xA 1 F rfl fun a F=>xG (qS F rfl (fun a7=>?_) (fun a7=>?_))
  ·
   replace e:=vY a7 e;refine xV (xA 1 F rfl fun a F=>qJ F rfl rfl fun a F=>oD xFs F rfl rfl rfl fun a F=>oB isAgg2 F rfl rfl (H.b 0 rfl) rfl (fun a F=>?_));obtain⟨a8,c1,e⟩:=xB e;refine cR F rfl rfl rfl c1 fun a F=>qJ F rfl rfl fun a F=>oD xFs F rfl rfl rfl fun a F=>oW sizeOf2 F rfl rfl rfl H rfl rfl rfl fun w H=>xG (xF (xF (xQ H (by kernel_rfl) (by kernel_rfl) (xM F rfl (fun w l=>xL F rfl) fun a F=>xM F rfl (fun w l=>oY F rfl) (fun a F=>?_)))));refine xM F rfl (fun w l=>xU rZ F rfl rfl) fun a F=>qB isAgg55 F rfl rfl (H.qb 0 rfl) rfl fun a F=>qL underlying55 F rfl rfl (H.l 1 rfl) fun a i3 F=>xM F rfl (fun w l=>xL F rfl) fun a F=>xM F rfl (fun w l=>oY F rfl) fun a F=>xM F rfl (fun w l=>xU xCa F rfl rfl) fun a F=>qB isAgg3 F rfl rfl (H.qb 0 rfl) rfl fun a F=>xM F rfl (fun w l=>mT F rfl rfl) fun a F=>kT fun w H=>xH ?_;obtain⟨o1,e,b0⟩:=xT e;refine oR (fun a w=>∃ (s1:List (List Int)) (v2:Value),o1= .nx s1∧Sk a 83 [(0,qC f)]∧Sep A B i w [bx f [j,n,xC h,v2,xC a8] 117,rl 1 (qK 1 xI) 32 v2 s1]) ?_ ?_
   ·
    refine qS F rfl (fun a9=>?_) (fun a9=>?_)
    ·
     replace e:=vY a9 e;obtain⟨U,c2,e⟩:=xB e;obtain⟨z2,c3,e⟩:=xB e;refine xD H (by kernel_rfl) fun w H=>dp (fun G=>∀ (v3:Value) (a:Act) (w:World),Sk a 83 [(0,qC f),(33,qC f),(37,p),(40,v3)]→Sep A B i w [rl 1 (qK 1 xI) 32 v3 ([U]),bx f [j,n,xC h,p,xC a8] 117,rl 1 (qK 1 xI) 32 p C]→∀ M,M = #[true,true,true,true,true,true,true,true,false,false,false,false]→G 4 M a w) ?_ (fun H1=>?_)
     ·
      intro v3 a w F H M aa;subst aa;refine xE H 8 rfl (by kernel_rfl) (oPL (sz:=1) (R:=(qK 1 xI)) (z:=(qQ)) (bytes:=24) underlying55 (by kernel_rfl) rfl rfl F rfl rfl rfl (H.s [2,0,1] rfl rfl) c3 fun a w v4 H F=>xG ⟨⟨_,H⟩,?_⟩);refine oV 9 rfl (by kernel_rfl) (xN F rfl (fun w l=>oY F rfl) fun a F=>oV 10 rfl (by kernel_rfl) (xN F rfl (fun w l=>xU rZ F rfl rfl) fun a F=>xE H 11 rfl (by kernel_rfl) (oW sizeOf55 F rfl rfl rfl (H.s [1,0] rfl rfl) ((H.s [1,0] rfl rfl).l 1 rfl).one rfl rfl fun w H=>xG ⟨⟨_,H⟩,?_⟩)));refine vP (by kernel_rfl) (xH ?_);exact⟨z2,v4,(zL e),F.su,H⟩
     refine dp (fun G=>∀ (v5:Value) (a:Act) (w:World),Sk a 83 [(0,qC f),(33,qC f),(37,p),(39,v5)]→Sep A B i w [rl 1 xI 2 v5 U,bx f [j,n,xC h,p,xC a8] 117,rl 1 (qK 1 xI) 32 p C]→∀ M,M = #[true,true,true,true,true,true,true,false,false,false,false,false]→G 5 M a w) ?_ (fun H2=>?_)
     ·
      intro v5 a w F H M aa;subst aa;refine xE H 7 rfl (by kernel_rfl) ?_;have H:=H.os;refine dY (R:=(qK 1 xI)) (y:=U) underlying55 sizeOf32 zeroValue32 rfl rfl F rfl rfl H El.sl fun a w v6 H F=>xG ⟨⟨_,H⟩,?_⟩;exact H1 v6 _ _ (F.su) H _ (by kernel_rfl)
     refine qP 0 rfl (by kernel_rfl) (xN F rfl (fun w l=>xL F rfl) fun a F=>qP 1 rfl (by kernel_rfl) (xN F rfl (fun w l=>xL F rfl) fun a F=>oV 2 rfl (by kernel_rfl) (xN F rfl (fun w l=>oY F rfl) fun a F=>oV 3 rfl (by kernel_rfl) (xN F rfl (fun w l=>xU rZ F rfl rfl) fun a F=>qP 5 rfl (by kernel_rfl) (xN F rfl (fun w l=>xL F rfl) fun a F=>kH [4,6] (by kernel_rfl) (by simp) ⟨⟨_,rfl,?_⟩,⟨_,rfl,?_⟩,trivial⟩)))))
     ·
      refine kC H (oB isAgg55 F rfl rfl (H.b 0 rfl) rfl fun a F=>xG ⟨⟨_,H⟩,?_⟩);refine xE H 6 rfl (by kernel_rfl) (oG F rfl call91 rfl (fO U c2 _ aA (H.a X)) (fun a O w ⟨v7,hv1,S⟩ F=>?_));subst O;have H:=H.r1 S n0;refine xG ⟨⟨_,H⟩,?_⟩;exact H2 v7 _ _ (F.su) H _ (by kernel_rfl)
     refine kC H (oG F rfl call91 rfl (fO U c2 _ aA (H.a X)) (fun a O w ⟨v8,hv2,S⟩ F=>?_));subst O;have H:=H.r1 S n0;refine xG ⟨⟨_,H⟩,?_⟩;refine kH [4,7] (by kernel_rfl) (by simp) ⟨⟨_,rfl,?_⟩,⟨_,rfl,?_⟩,trivial⟩
     ·
      refine kC H (oB isAgg55 F rfl rfl (H.b 1 rfl) rfl fun a F=>xG ⟨⟨_,H⟩,?_⟩);exact H2 v8 _ _ (F.su) H _ (by kernel_rfl)
     refine kC H ?_;have H:=H.os;refine dY (R:=(qK 1 xI)) (y:=U) underlying55 sizeOf32 zeroValue32 rfl rfl F rfl rfl H El.sl fun a w v9 H F=>xG ⟨⟨_,H⟩,?_⟩;refine xE H 4 rfl (by kernel_rfl) (oB isAgg55 F rfl rfl (H.b 1 rfl) rfl fun a F=>xG ⟨⟨_,H⟩,?_⟩);exact H1 v9 _ _ (F.su) H _ (by kernel_rfl)
    replace e:=vX a9 e;refine xS (xH ?_);exact⟨C,p,(zL e),F.su,H⟩
   rintro a w ⟨s1,v2,rfl,F,H⟩
   have e:=xY b0;refine xH (xP (oJ (bodyPost_ret (results_none rfl _ _ _) F.d ?_)));obtain rfl:=oj e;exact⟨_,rfl,v2,rfl,H,(kQ c1)⟩
  replace e:=vX a7 e;refine xS (xH (xV (xA 1 F rfl fun a F=>xG ?_)));obtain⟨o2,e,am⟩:=xT e;refine oR (fun a w=>∃ (s2:List (List Int)) (a1:Value) (s3:Int),o2= .nx (s2,s3)∧Sk a 83 [(0,qC f)]∧Sep A B i w [bx f [j,n,xC h,a1,xC s3] 117,rl 1 (qK 1 xI) 32 a1 s2]∧xO s3) ?_ ?_
  ·
   refine oQ ?_;obtain⟨b1,b2,e⟩:=fT e;refine qY (fun g a w=>∃ (D:Nat) (E:List (List Int)) (t:Value) (I:Int),D+g=P.size.toNat∧dQ b1 g D (E,I)=some o2∧Sk a 83 [(4,xC (D:Int)),(0,qC f),(1,T)]∧Sep A B i w [bx f [j,n,xC h,t,xC I] 117,rl 1 (qK 1 xI) 32 t E]∧xO I) P.size.toNat ?_ ?_
   ·
    exact⟨0,C,p,Q,(Nat.zero_add _),e,F.su,H,ak⟩
   intro g1 a w ⟨D,E,t,I,a2,e,F,H,Y⟩
   cases g1 with
   | zero=>
    replace e:=eD e;have l1:=iH a2;refine xF (xV (xA 2 F rfl fun a F=>qJ F rfl rfl fun a F=>oD xBx F rfl rfl rfl fun a F=>oB isAgg53 F rfl rfl (H.b 0 rfl) rfl fun a F=>oN F rfl rfl J fun a F=>oF (s':=1) lD F rfl rfl J xJ.f0 fun a p2 h2 F=>olI isAgg2 F rfl rfl H.sm h2 (fun a i5 F=>?_)));refine xA 1 F rfl fun a F=>xG (zS F rfl l1 (qV (qX (qX (kF (xH ?_))))));exact⟨E,t,I,(zL e),F.su,H,Y⟩
   | succ g1=>
    obtain⟨c8,e,ab⟩:=eE e;rw[b2] at e;have l1:=fS a2;refine xF (xV (xA 2 F rfl fun a F=>qJ F rfl rfl fun a F=>oD xBx F rfl rfl rfl fun a F=>oB isAgg53 F rfl rfl (H.b 0 rfl) rfl fun a F=>oN F rfl rfl J fun a F=>oF (s':=1) lD F rfl rfl J xJ.f0 fun a p3 h3 F=>olI isAgg2 F rfl rfl H.sm h3 (fun a i6 F=>?_)));refine xA 1 F rfl fun a F=>xG (zQ F rfl l1 (xS (xH (xF ?_))));have j1:=yN a2 i6;have m1:=lH a2 i6;refine oQ (xF (xF ?_));obtain⟨o3,e,b3⟩:=xT e;refine oR (fun a w=>∃ (s6:Bool),o3= .nx s6∧Sk a 83 [(0,qC f),(1,T),(4,xC (D:Int)),(71,.bool s6)]∧Sep A B i w [bx f [j,n,xC h,t,xC I] 117,rl 1 (qK 1 xI) 32 t E]) ?_ ?_
    ·
     refine xQ H (by kernel_rfl) (by kernel_rfl) (xM F rfl (fun w l=>xL F rfl) fun a F=>xM F rfl (fun w l=>oY F rfl) fun a F=>xM F rfl (fun w l=>xU xCa F rfl rfl) fun a F=>qB isAgg3 F rfl rfl (H.qb 0 rfl) rfl fun a F=>xM F rfl (fun w l=>xAw F rfl rfl) fun a F=>xM F rfl (fun w l=>xL F rfl) (fun a F=>?_))
     rcases vJ (decide (0<h)) with W | W
     ·
      replace e:=vY W e;have F:=F.eb 60 rfl W;refine xM F rfl (fun w l=>xL F rfl) fun a F=>xM F rfl (fun w l=>oY F rfl) fun a F=>xM F rfl (fun w l=>xU rZ F rfl rfl) fun a F=>qB isAgg55 F rfl rfl (H.qb 0 rfl) rfl fun a F=>qL underlying55 F rfl rfl (H.l 1 rfl) fun a i7 F=>xM F rfl (fun w l=>xL F rfl) fun a F=>xM F rfl (fun w l=>oY F rfl) fun a F=>xM F rfl (fun w l=>xU xCa F rfl rfl) fun a F=>qB isAgg3 F rfl rfl (H.qb 0 rfl) rfl fun a F=>xM F rfl (fun w l=>uS F rfl rfl) fun a F=>xM F rfl (fun w l=>aX F rfl rfl) (fun a F=>?_);refine kT fun w H=>xH ?_;exact⟨((E.length:Int)==h),(zL e),F.su,H⟩
     replace e:=vX W e;have F:=F.eb 60 rfl W;refine qD F rfl rfl fun a F=>qD F rfl rfl fun a F=>qD F rfl rfl fun a F=>qD F rfl rfl fun a F=>qD F rfl rfl fun a F=>qD F rfl rfl fun a F=>qD F rfl rfl fun a F=>qD F rfl rfl fun a F=>qD F rfl rfl fun a F=>qD F rfl rfl fun a F=>xM F rfl (fun w l=>bO F rfl rfl) (fun a F=>?_);refine kT fun w H=>xH ?_;exact⟨false,(zL e),F.su,H⟩
    rintro a w ⟨s6,rfl,F,H⟩
    have e:=xY b3;refine xH (qS F rfl (fun ac=>?_) (fun ac=>?_))
    ·
     replace e:=vY ac e;refine xP (oJ (vO (oJ (oJ ?_))));replace e:=kK e ab;refine vO (oJ ?_);replace e:=kI e am;refine bodyPost_ret (results_none rfl _ _ _) F.d ?_;obtain rfl:=oj e;exact⟨_,rfl,t,rfl,H,Y⟩
    replace e:=vX ac e;refine xS (xH (xV (xA 1 F rfl fun a F=>?_)));obtain⟨z3,c4,e⟩:=xB e;refine oG F rfl call91 rfl (fO z3 c4 _ aA (H.a X)) (fun a O w ⟨c9,ca,S⟩ F=>?_);subst O;have H:=H.r1 S n0;refine xA 1 F rfl fun a F=>dF (R:=xI) (y:=(D:Int)) underlying32 sizeOf2 zeroValue2 rfl rfl F rfl rfl H (Eo.int j1) (fun a w cb H F=>?_);obtain⟨z4,c5,e⟩:=xB e;refine oPL (sz:=1) (R:=xI) (z:=(xC 0)) (bytes:=8) underlying32 (by kernel_rfl) rfl rfl F rfl rfl rfl (H.s [1,0,2,3] rfl rfl) c5 fun a w cc H F=>xA 1 F rfl fun a F=>vE (xA 2 F rfl fun a F=>?_);obtain⟨z5,c6,e⟩:=xB e;refine oK F rfl call92 rfl H (pJ z5 c6 _ aA (kG.b (H.g 1 rfl).bk (H.a J) (H.a V) a6 (H.l 2 rfl) Y) (H.l 0 rfl)) fun a w H F=>xG (qS F rfl (fun ad=>?_) (fun ad=>?_))
    ·
     replace e:=vY ad e;refine oM (xA 2 F rfl fun a F=>?_);obtain⟨w1,rfl⟩:∃ x,x=w:=⟨_,rfl⟩;have cd:=H.sm;obtain⟨X1,N1,g2,e1,H,b4,ce⟩:=H.fza;have h4:=g2.ld;obtain⟨Z,c7,e⟩:=xB e;obtain⟨X2,K1,b5⟩:=Sep.lend (K:=[bx f [j,n,xC h,t,xC I] 117,rl 1 (qK 1 xI) 32 t E]) (L:=[]) H;refine oG F rfl call52 rfl (ih Z c7 _ H.hN K1 (H.u (e1 J)) (H.u (e1 V)) a6 Y (H.u h4)) (fun a O w ⟨ae,cf,S,i8⟩ F=>?_);subst O;have H:Sep X1 N1 w1 w [bx f [j,n,xC h,ae,xC Z.2] 117,rl 1 (qK 1 xI) 32 ae Z.1]:=b5 S;refine zE (vK (xH (oM (xA 1 F rfl fun a F=>zG F rfl rfl rfl m1 fun a F=>xA 1 F rfl fun a F=>xG ?_))));replace e:=zM e ab;exact⟨_,Nat.lt_succ_self _,D+1,Z.1,ae,Z.2,(by omega),e,F.su,((b4.1 H (Ns.all ⟨n0,⟨n0,trivial⟩⟩)).s [1,2] rfl rfl),i8⟩
    replace e:=vX ad e;refine xS (vK (xH (oM (xA 1 F rfl fun a F=>zG F rfl rfl rfl m1 fun a F=>xA 1 F rfl fun a F=>xG ?_))));replace e:=zM e ab;exact⟨_,Nat.lt_succ_self _,D+1,E,t,I,(by omega),e,F.su,(H.s [1,2] rfl rfl),Y⟩
  rintro a w ⟨s2,a1,s3,rfl,F,H,i9⟩
  have e:=xY am;refine xIj (bodyPost_ret (results_none rfl _ _ _) F.d ?_);obtain rfl:=oj e;exact⟨_,rfl,a1,rfl,H,i9⟩
theorem pG {B:Nat→Prop} {N:Nat} {n:Template} {p:Instance} {e:Int} {t:List (List Int)} {f:Int} {A:List Int} (r:(List (List Int))×Int) (I:zX N n p e t f A=some r) {j:Nat} {h:Value} {i:Value} {x:Value} {C:Value} {D:List Nat} (d:World) (J:∀ c,B c→c<d.heap.size) (K:Sep D B d d [bx j [h,i,xC e,x,xC f] 117,rl 1 (qK 1 xI) 32 x t]) (E:Bo B d (Pt 2 xJ) h n) (F:Bo B d (Pt 2 xK) i p) (G:xO e) (H:xO f) (L:Bo B d (Sl 1 xI) C A):Calls Tryz.prog 52 #[qC j,C] d (Gv (fun v w'=>∃ (y:Value),v= .tuple #[]∧Sep D B d w' [bx j [h,i,xC e,y,xC r.2] 117,rl 1 (qK 1 xI) 32 y r.1]∧xO r.2)):=
  nH N r I d J K E F G H L
def eJ (N:Nat) (c:Template) (d:Instance) (e:Int):Option (List (List Int)):=
 xZ (zX N c d e ([]) 0 ([])) fun f=>
 some f.1
theorem pO {B:Nat→Prop} {N:Nat} {t:Template} {y:Instance} {d:Int} (r:(List (List Int))) (i:eJ N t y d=some r) {e:Value} {f:Value} (h:World) (O:∀ c,B c→c<h.heap.size) (A:Bo B h (Pt 2 xJ) e t) (C:Bo B h (Pt 2 xK) f y) (G:xO d):Calls Tryz.prog 28 #[e,f,xC d] h (Gv (fun v w'=>∃ (p:Value),v=p∧Sep [] B h w' [rl 1 (qK 1 xI) 32 p r])):=by
 unfold eJ at i
 refine xW (L:=[(0,e),(1,f),(2,xC d)]) func28 rfl rfl rfl (sc rfl (sc rfl (sc rfl sn))) (fun a F=>?_);have H:=Sep.start O;refine xV (xA 1 F rfl fun a F=>vE (xA 3 F rfl fun a F=>kY underlying117 zeroValue117 (fun w=>by simp [sizeOf2,sizeOf3,sizeOf53,sizeOf54,sizeOf55];rfl) F rfl rfl rfl rfl rfl (oc (H.a A).pone (oc (H.a C).pone (oc rfl on))) rfl rfl (fun a F=>?_)));refine oX F rfl rfl rfl H fun a w D H F=>xA 1 F rfl fun a F=>vE (xA 1 F rfl fun a F=>oR0 (R:=xI) underlying32 sizeOf2 F rfl H (fun a w v2 H F=>?_));have H:=H.nl 1 (qK 1 xI) 32;obtain⟨P,rfl⟩:∃ x,x=w:=⟨_,rfl⟩;have Y:=H.sm;obtain⟨Q,I,T,E,H,J,Z⟩:=(H.s [1,0,2] rfl rfl).fza;have U:=T.ld;obtain⟨j,V,i⟩:=xB i;obtain⟨X2,K1,M⟩:=Sep.lend (K:=[bx D [e,f,xC d,qQ,xC 0] 117,rl 1 (qK 1 xI) 32 qQ ([])]) (L:=[]) (H.s [1,0] rfl rfl);refine oG F rfl call52 rfl (pG j V _ H.hN K1 (H.u (E A)) (H.u (E C)) G (show xO 0 by decide) (H.u U)) (fun a W w ⟨n,X,S,i1⟩ F=>?_);subst W;have H:Sep Q I P w [bx D [e,f,xC d,n,xC j.2] 117,rl 1 (qK 1 xI) 32 n j.1]:=M S;refine vE (xA 1 F rfl fun a F=>qJ F rfl rfl fun a F=>oD rZ F rfl rfl rfl fun a F=>oB isAgg55 F rfl rfl (H.b 0 rfl) rfl fun a F=>xA 1 F rfl fun a F=>xG ?_);refine xP ?_;have H:=(J.1 H (Ns.all ⟨n0,⟨n0,trivial⟩⟩));refine xR F rfl (xX F rfl) ?_;obtain rfl:=oj i;exact⟨_,rfl,n,rfl,(H.s [2] rfl rfl)⟩
def cB (N:Nat) (c:Template) (d:Instance):Option ((List Int)×Int):=
 xZ (eS (Template.mk c.size c.rels) (Instance.mk d.vars d.cons)) fun f=>
 if (!f) then
  some ([],1)
 else
  xZ (eJ N (Template.mk c.size c.rels) (Instance.mk d.vars d.cons) 1) fun e=>
  if ((e.length:Int)==0) then
   some ([],6)
  else
   xZ (ix e 0) fun h=>
   some (h,0)
theorem nP {B:Nat→Prop} {N:Nat} {p:Template} {t:Instance} (r:(List Int)×Int) (d:cB N p t=some r) {i:Value} {j:Value} (e:World) (G:∀ c,B c→c<e.heap.size) (I:Bo B e (kJ 2 xJ) i p) (J:Bo B e (kJ 2 xK) j t):Calls Tryz.prog 10 #[i,j] e (Gv (fun v w'=>∃ (n:Value),v= .tuple #[n,xC r.2]∧Sep [] B e w' [ro B (V:=(Sl 1 xI)) n r.1]∧xO r.2)):=by
 unfold cB at d
 refine xW (L:=[(0,i),(1,j)]) func10 rfl rfl rfl (sc rfl (sc rfl sn)) (fun a F=>?_);have H:=Sep.start G;refine xV ?_;obtain⟨v2,rfl,y,A⟩:=xJ.o I;refine oX F rfl rfl rfl H (fun a w b1 H F=>?_);obtain⟨a2,rfl,C,D⟩:=xK.o J;refine oX F rfl rfl rfl H fun a w b2 H F=>xA 2 F rfl fun a F=>xG (xF (xV ?_));obtain⟨K,M,d⟩:=xB d;refine oK F rfl call19 rfl H (mN K M _ aA (xJ.b (H.g 1 rfl).bk y (H.a A)) (xK.b (H.g 0 rfl).bk C (H.a D))) fun a w H F=>xA 1 F rfl fun a F=>xG (qS F rfl (fun f=>?_) (fun f=>?_))
 ·
  replace d:=vY f d;refine xV (oR0 (R:=xI) underlying32 sizeOf2 F rfl H fun a w O H F=>xA 2 F rfl fun a F=>xG (xP (oJ ?_)));have H:=(H.s [0] rfl rfl);have H:=H.lw.rwo.rok;refine vV F rfl (xX F rfl) (xX F rfl) ?_;obtain rfl:=oj d;exact⟨_,rfl,O,rfl,H,(show xO (1) by decide)⟩
 replace d:=vX f d;refine xS (xH (xV ?_));obtain⟨P,Q,d⟩:=xB d;refine oG F rfl call28 rfl (pO P Q _ aA (xJ.b (H.g 1 rfl).bk y (H.a A)) (xK.b (H.g 0 rfl).bk C (H.a D)) (show xO (1) by decide)) (fun a T w ⟨v4,a3,S⟩ F=>?_);subst T;have H:=H.r1 S n0;refine xA 1 F rfl fun a F=>xG (xF (xV (xA 1 F rfl fun a F=>oL underlying55 F rfl rfl (H.l 0 rfl) fun a i3 F=>xA 1 F rfl fun a F=>xG ?_)));refine qS F rfl (fun h=>?_) (fun h=>?_)
 ·
  replace d:=vY h d;refine xV (oR0 (R:=xI) underlying32 sizeOf2 F rfl H fun a w U H F=>xA 2 F rfl fun a F=>xG (xP (oJ ?_)));have H:=(H.s [0] rfl rfl);have H:=H.lw.rwo.rok;refine vV F rfl (xX F rfl) (xX F rfl) ?_;obtain rfl:=oj d;exact⟨_,rfl,U,rfl,H,(show xO (6) by decide)⟩
 replace d:=vX h d;refine xS (xH (xV (xA 1 F rfl fun a F=>?_)));obtain⟨z3,W,d⟩:=xB d;obtain⟨w1,rfl⟩:∃ x,x=w:=⟨_,rfl⟩;have a4:=H.sm;obtain⟨X1,N1,X,e1,H,E,a5⟩:=H.fza;have Y:=X.ld;refine oI underlying55 sizeOf32 F rfl rfl rfl Y W fun a p1 Z F=>gX isAgg32 F rfl rfl H.sm Z fun a v6 h5 F=>xA 2 F rfl fun a F=>xG (xP ?_);have H:=H.rob h5;have H:=(E.2.1 (H.s [0] rfl rfl) (Ns.all trivial));refine vV F rfl (xX F rfl) (xX F rfl) ?_;obtain rfl:=oj d;exact⟨_,rfl,v6,rfl,H,(show xO (0) by decide)⟩
def dO (c d:List Int):Option Bool:=
 xZ (fC c d) fun e=>
 some e
theorem rG {B:Nat→Prop} {i j:List Int} (r:Bool) (e:dO i j=some r) {f:Value} {h:Value} (d:World) (n:∀ c,B c→c<d.heap.size) (p:Bo B d (Sl 1 xI) f i) (t:Bo B d (Sl 1 xI) h j):Calls Tryz.prog 11 #[f,h] d (kU (.bool r) d):=by
 unfold dO at e
 refine xW (L:=[(0,f),(1,h)]) func11 rfl rfl rfl (sc rfl (sc rfl sn)) (fun a F=>?_);have H:=Sep.start n;refine xV (xA 1 F rfl fun a F=>vE (xA 2 F rfl fun a F=>?_));obtain⟨x,y,e⟩:=xB e;refine oK F rfl call29 rfl H (nG x y _ aA (H.a p) (H.a t)) fun a w H F=>xA 1 F rfl fun a F=>xG (xP (xR F rfl (xX F rfl) ?_));obtain rfl:=oj e;exact⟨rfl,H.bl⟩
def dJ (e f:List Line):Option Bool:=
 if ((e.length:Int) != (f.length:Int)) then
  some false
 else
  zW (σ:=Unit) (
   qR (σ:=Unit) (ρ:=Bool) (fun (h:Nat) (c:Line) (s:Unit)=>
     match s with
     | _=>
     xZ (ix f (h:Int)) fun d=>
     if (!(c.kind==d.kind && c.var==d.var && c.value==d.value && c.con==d.con)) then
      some (.ret false)
     else
      some (.go ())) e 0 ()) fun _=>
  some true
theorem lW {B:Nat→Prop} {i D:List Line} (r:Bool) (d:dJ i D=some r) {n:Value} {p:Value} (f:World) (N:∀ c,B c→c<f.heap.size) (t:Bo B f (Sl 4 oP) n i) (E:Bo B f (Sl 4 oP) p D):Calls Tryz.prog 12 #[n,p] f (kU (.bool r) f):=by
 unfold dJ at d
 refine xW (L:=[(0,n),(1,p)]) func12 rfl rfl rfl (sc rfl (sc rfl sn)) (fun a F=>?_);have H:=Sep.start N;refine xV (xA 1 F rfl fun a F=>xG (xF (xV (xA 1 F rfl fun a F=>oL underlying35 F rfl rfl t fun a X F=>xA 1 F rfl fun a F=>?_))));refine oL underlying35 F rfl rfl E fun a Y F=>xA 1 F rfl fun a F=>xG (qS F rfl (fun x=>?_) (fun x=>?_))
 ·
  replace d:=vY x d;refine xV (xA 1 F rfl fun a F=>xG (xP (oJ (xR F rfl (xX F rfl) ?_))));obtain rfl:=oj d;exact⟨rfl,H.bl⟩
 replace d:=vX x d;refine xS (xH (xF (xV (xA 1 F rfl fun a F=>xG ?_))));obtain⟨G,d,A⟩:=xT d;refine oR (fun a w=>G= .nx ()∧Sk a 26 []∧Sep [] B f w []) ?_ ?_
 ·
  refine oQ ?_;obtain⟨K,J,d⟩:=qZ d;refine qY (fun g a w=>∃ (j:Nat) (h:List Line),(j≤i.length∧i.drop j=h)∧h.length=g∧qR K h j ()=some G∧Sk a 26 [(5,xC (j:Int)),(0,n),(1,p)]∧Sep [] B f w []) i.length ?_ ?_
  ·
   exact⟨0,i,⟨Nat.zero_le _,rfl⟩,rfl,d,F.su,H⟩
  intro Z a w ⟨j,h,e,M,d,F,H⟩
  cases h with
  | nil=>
   replace d:=vA d;have O:=vC e.1 e.2;have l1:=zK O;refine xF (xV (xA 2 F rfl fun a F=>oL underlying35 F rfl rfl t fun a i3 F=>xA 1 F rfl fun a F=>xG (zS F rfl l1 (qV ?_))));refine qX (qX (kF (xH ?_)));exact⟨(zL d),F.sub sn,H⟩
  | cons x2 h=>
   subst M;replace e:=qE e.2;have P:=vH e.2.1;obtain⟨W,d,C⟩:=qM d;rw[J] at d;have l1:=vR e.1;refine xF (xV (xA 2 F rfl fun a F=>oL underlying35 F rfl rfl t fun a I F=>xA 1 F rfl fun a F=>xG (zQ F rfl l1 (xS ?_))));refine xH (xF ?_);have j1:=k64 (Nat.le_of_lt e.1) I;have Q:=kO e.1 I;refine oQ (xF (xQ H (by kernel_rfl) (by kernel_rfl) (xM F rfl (fun w l=>xL F rfl) fun a F=>xM F rfl (fun w l=>xL F rfl) fun a F=>qI underlying35 sizeOf77 F rfl rfl rfl t P fun a p1 R F=>qlA isAgg77 sizeOf77 F rfl rfl H.q R fun a v2 S F=>xM F rfl (fun w l=>xL F rfl) fun a F=>xM F rfl (fun w l=>xL F rfl) (fun a F=>?_))));obtain⟨z1,T,d⟩:=xB d;refine qI underlying35 sizeOf77 F rfl rfl rfl E T fun a p2 U F=>qlA isAgg77 sizeOf77 F rfl rfl H.q U fun a v3 V F=>xM F rfl (fun w l=>xJi F rfl rfl S V) fun a F=>kT fun w H=>xH (qS F rfl (fun y=>?_) (fun y=>?_))
   ·
    replace d:=vY y d;refine xV (xA 1 F rfl fun a F=>xG (xP (vO (oJ (oJ ?_)))));replace d:=kK d C;refine vO (oJ ?_);replace d:=kI d A;refine oJ (xR F rfl (xX F rfl) ?_);obtain rfl:=oj d;exact⟨rfl,H.bl⟩
   replace d:=vX y d;refine xS (vK (xH (oM (xA 1 F rfl fun a F=>zG F rfl rfl rfl Q fun a F=>xA 1 F rfl fun a F=>xG ?_))));replace d:=zM d C;exact⟨_,Nat.lt_succ_self _,j+1,h,⟨e.1,e.2.2⟩,rfl,d,F.su,H⟩
 rintro a w ⟨rfl,F,H⟩
 have d:=xY A;refine xH (xV (xA 1 F rfl fun a F=>xG (xP (xR F rfl (xX F rfl) ?_))));obtain rfl:=oj d;exact⟨rfl,H.bl⟩
end Go.Proofs.YtghihmkhdhjhiaaGreatDoor
