import Derived.Test.YtfmnjkpddljdcaaGreatDoorQ1
import Derived.Test.YtfmnjkpddljdcaaGreatDoorGB
namespace Go.Proofs.YtfmnjkpddljdcaaGreatDoor
open Go.Proofs.Tryz
set_option maxHeartbeats 1000000
set_option linter.unusedVariables false
set_option linter.unusedSimpArgs false
set_option maxRecDepth 100000
open Go.RowKit
def kV (c:Line):Option (List Int):=
 xY (ck (c.kind - 1)) fun d=>
 xY (ix ([2,3,1]) d) fun e=>
 xY (sl ([c.var,c.value,c.con]) 0 e) fun f=>
 some f
theorem fD {B:Nat→Prop} {e:Line} (r:(List Int)) (f:kV e=some r) {C:Value} (n:World) (J:∀ c,B c→c<n.heap.size) (K:Bo B n (aY 4 qS) C e):Calls Tryz.prog 51 #[C] n (Gv (fun v w'=>∃ (E:Value),v=E∧Sep [] B n w' [rl 1 xM 2 E r])):=by
 unfold kV at f
 refine xW (L:=[(0,C)]) func51 rfl rfl rfl (sc rfl sn) (fun a F=>?_);have H:=Sep.start J;refine xX ?_;obtain⟨rfl,i1,p,t,y⟩:=qS.o K;refine oX F rfl rfl rfl H fun a w b1 H F=>xA 1 F rfl fun a F=>xJ (xG ?_);obtain⟨Z,M,f⟩:=xB f;obtain⟨z1,D,f⟩:=xB f;obtain⟨z2,A,f⟩:=xB f;obtain⟨w1,rfl⟩:∃ x,x=w:=⟨_,rfl⟩;have a0:=H.sm;obtain⟨X1,N1,N,e1,H,j,a1⟩:=H.fza;have K1:=N.bk;refine lU H fun w H=>qJ 0 rfl (qT F rfl (fun w l=>oD gR F rfl rfl) fun a F=>qJ 1 rfl (vB xN F rfl rfl (K1.v H.sm) rfl fun a F=>qJ 2 rfl (qT F rfl (fun w l=>oD mN F rfl rfl) fun a F=>qJ 3 rfl (vB xN F rfl rfl (K1.v H.sm) rfl fun a F=>qJ 4 rfl (qT F rfl (fun w l=>oD tV F rfl rfl) (fun a F=>?_))))));refine qJ 5 rfl (vB xN F rfl rfl (K1.v H.sm) rfl fun a F=>qJ 8 rfl (qT F rfl (fun w l=>oD sR F rfl rfl) fun a F=>qJ 9 rfl (vB xN F rfl rfl (K1.v H.sm) rfl fun a F=>qV 10 rfl (qT F rfl (fun w l=>nU F rfl rfl M) fun a F=>aT [6,7] (by kernel_rfl) (by simp) ⟨⟨_,rfl,?_⟩,⟨_,rfl,?_⟩,trivial⟩))))
 ·
  refine aM H (oRI (xs:=[.tmp 4,.tmp 6,.tmp 8]) (l:=[e.var,e.value,e.con]) xC xI qQ rfl F rfl rfl rfl rfl rfl rfl (by simp only[List.forall_mem_cons,List.not_mem_nil,false_implies,implies_true,and_true];exact⟨p,t,y⟩) H fun a w v1 H F=>xJ ⟨⟨_,H⟩,?_⟩);refine kT H 7 rfl (oRI (xs:=[.const (xF 2),.const (xF 3),.const (xF 1)]) (l:=[2,3,1]) hJ mX zeroValue3 rfl F rfl rfl rfl rfl rfl rfl (by simp only[List.forall_mem_cons,List.not_mem_nil,false_implies,implies_true,and_true];exact⟨(show xS (2) by decide),(show xS (3) by decide),(show xS (1) by decide)⟩) H fun a w v2 H F=>xJ ⟨⟨_,H⟩,?_⟩);refine kT H 11 rfl ?_;obtain⟨w2,rfl⟩:∃ x,x=w:=⟨_,rfl⟩;have a2:=H.sm;obtain⟨X2,N2,O,e2,H,h,a3⟩:=H.fza;have P:=O.ld;refine oI hJ mX F rfl rfl rfl P D fun a p1 Q F=>xJ ⟨⟨_,(h.1 H (Ns.all ⟨n0,trivial⟩))⟩,?_⟩;refine xE (h.1 H (Ns.all ⟨n0,trivial⟩)) 12 rfl (by kernel_rfl) (olI mM F rfl rfl H.sm Q fun a i64 F=>xJ ⟨⟨_,(h.1 H (Ns.all ⟨n0,trivial⟩))⟩,?_⟩);refine xE (h.1 H (Ns.all ⟨n0,trivial⟩)) 13 rfl (by kernel_rfl) (oT xC xI F rfl rfl rfl H.lw A (fun a R H F=>?_));have H:=H.tl;refine xJ ⟨⟨_,(h.1 H (Ns.all ⟨n0,trivial⟩))⟩,?_⟩;refine qV 14 rfl (kA F rfl rfl fun a F=>zN (xH (xP ?_)));have H:=(j.1 (h.1 H (Ns.all ⟨n0,trivial⟩)) (Ns.all ⟨n0,⟨n0,trivial⟩⟩));refine xR F rfl (xZ F rfl) ?_;obtain rfl:=oj f;exact⟨_,rfl,R,rfl,(H.s [2] rfl rfl)⟩
 refine aM H (oRI (xs:=[.const (xF 2),.const (xF 3),.const (xF 1)]) (l:=[2,3,1]) hJ mX zeroValue3 rfl F rfl rfl rfl rfl rfl rfl (by simp only[List.forall_mem_cons,List.not_mem_nil,false_implies,implies_true,and_true];exact⟨(show xS (2) by decide),(show xS (3) by decide),(show xS (1) by decide)⟩) H fun a w v4 H F=>xJ ⟨⟨_,H⟩,?_⟩);refine aT [6,11] (by kernel_rfl) (by simp) ⟨⟨_,rfl,?_⟩,⟨_,rfl,?_⟩,trivial⟩
 ·
  refine aM H (oRI (xs:=[.tmp 4,.tmp 6,.tmp 8]) (l:=[e.var,e.value,e.con]) xC xI qQ rfl F rfl rfl rfl rfl rfl rfl (by simp only[List.forall_mem_cons,List.not_mem_nil,false_implies,implies_true,and_true];exact⟨p,t,y⟩) H fun a w v5 H F=>xJ ⟨⟨_,H⟩,?_⟩);refine kT H 11 rfl ?_;obtain⟨w3,rfl⟩:∃ x,x=w:=⟨_,rfl⟩;have a4:=H.sm;obtain⟨X3,N3,S,e3,H,i,a5⟩:=(H.s [1,0] rfl rfl).fza;have T:=S.ld;refine oI hJ mX F rfl rfl rfl T D fun a p2 U F=>xJ ⟨⟨_,(i.1 H (Ns.all ⟨n0,trivial⟩))⟩,?_⟩;refine xE (i.1 H (Ns.all ⟨n0,trivial⟩)) 12 rfl (by kernel_rfl) (olI mM F rfl rfl H.sm U fun a i5 F=>xJ ⟨⟨_,(i.1 H (Ns.all ⟨n0,trivial⟩))⟩,?_⟩);refine xE (i.1 H (Ns.all ⟨n0,trivial⟩)) 13 rfl (by kernel_rfl) (oT xC xI F rfl rfl rfl H.lw A (fun a V H F=>?_));have H:=H.tl;refine xJ ⟨⟨_,(i.1 H (Ns.all ⟨n0,trivial⟩))⟩,?_⟩;refine qV 14 rfl (kA F rfl rfl fun a F=>zN (xH (xP ?_)));have H:=(j.1 (i.1 H (Ns.all ⟨n0,trivial⟩)) (Ns.all ⟨n0,⟨n0,trivial⟩⟩));refine xR F rfl (xZ F rfl) ?_;obtain rfl:=oj f;exact⟨_,rfl,V,rfl,(H.s [2] rfl rfl)⟩
 refine aM H ?_;obtain⟨w4,rfl⟩:∃ x,x=w:=⟨_,rfl⟩;have a6:=H.sm;obtain⟨X4,N4,W,e4,H,d,a7⟩:=H.fza;have X:=W.ld;refine oI hJ mX F rfl rfl rfl X D fun a p3 G F=>xJ ⟨⟨_,(d.1 H (Ns.all trivial))⟩,?_⟩;refine aT [6,12] (by kernel_rfl) (by simp) ⟨⟨_,rfl,?_⟩,⟨_,rfl,?_⟩,trivial⟩
 ·
  refine aM (d.1 H (Ns.all trivial)) (oRI (xs:=[.tmp 4,.tmp 6,.tmp 8]) (l:=[e.var,e.value,e.con]) xC xI qQ rfl F rfl rfl rfl rfl rfl rfl (by simp only[List.forall_mem_cons,List.not_mem_nil,false_implies,implies_true,and_true];exact⟨p,t,y⟩) H fun a w v7 H F=>xJ ⟨⟨_,(d.1 H (Ns.all ⟨n0,trivial⟩))⟩,?_⟩);refine xE (d.1 H (Ns.all ⟨n0,trivial⟩)) 12 rfl (by kernel_rfl) (olI mM F rfl rfl H.sm G fun a i6 F=>xJ ⟨⟨_,(d.1 H (Ns.all ⟨n0,trivial⟩))⟩,?_⟩);refine xE (d.1 H (Ns.all ⟨n0,trivial⟩)) 13 rfl (by kernel_rfl) (oT xC xI F rfl rfl rfl H.lw A (fun a Y H F=>?_));have H:=H.tl;refine xJ ⟨⟨_,(d.1 H (Ns.all ⟨n0,trivial⟩))⟩,?_⟩;refine qV 14 rfl (kA F rfl rfl fun a F=>zN (xH (xP ?_)));have H:=(j.1 (d.1 H (Ns.all ⟨n0,trivial⟩)) (Ns.all ⟨n0,⟨n0,trivial⟩⟩));refine xR F rfl (xZ F rfl) ?_;obtain rfl:=oj f;exact⟨_,rfl,Y,rfl,(H.s [2] rfl rfl)⟩
 refine aM (d.1 H (Ns.all trivial)) (olI mM F rfl rfl H.sm G fun a i7 F=>xJ ⟨⟨_,(d.1 H (Ns.all trivial))⟩,?_⟩);refine xE (d.1 H (Ns.all trivial)) 6 rfl (by kernel_rfl) (oRI (xs:=[.tmp 4,.tmp 6,.tmp 8]) (l:=[e.var,e.value,e.con]) xC xI qQ rfl F rfl rfl rfl rfl rfl rfl (by simp only[List.forall_mem_cons,List.not_mem_nil,false_implies,implies_true,and_true];exact⟨p,t,y⟩) H fun a w v9 H F=>xJ ⟨⟨_,(d.1 H (Ns.all ⟨n0,trivial⟩))⟩,?_⟩);refine xE (d.1 H (Ns.all ⟨n0,trivial⟩)) 13 rfl (by kernel_rfl) (oT xC xI F rfl rfl rfl H.lw A (fun a I H F=>?_));have H:=H.tl;refine xJ ⟨⟨_,(d.1 H (Ns.all ⟨n0,trivial⟩))⟩,?_⟩;refine qV 14 rfl (kA F rfl rfl fun a F=>zN (xH (xP ?_)));have H:=(j.1 (d.1 H (Ns.all ⟨n0,trivial⟩)) (Ns.all ⟨n0,⟨n0,trivial⟩⟩));refine xR F rfl (xZ F rfl) ?_;obtain rfl:=oj f;exact⟨_,rfl,I,rfl,(H.s [2] rfl rfl)⟩
def jI (c:Int):Option Bool:=
 some ((c != 0))
theorem yA {B:Nat→Prop} {d:Int} (r:Bool) (f:jI d=some r)  (e:World) (h:∀ c,B c→c<e.heap.size) (i:xS d):Calls Tryz.prog 54 #[xF d] e (bK (.bool r) e):=by
 unfold jI at f
 refine xW (L:=[(0,xF d)]) func54 rfl rfl rfl (sc rfl sn) (fun a F=>?_);have H:=Sep.start h;refine xX (xA 1 F rfl fun a F=>zR (xA 3 F rfl fun a F=>vP ?_));refine xH (xP (xR F rfl (xZ F rfl) ?_));obtain rfl:=oj f;exact⟨rfl,H.bl⟩
def fC (c:Line):Option Bool:=
 kY (σ:=Bool) (
  xY (bA c.kind 1 3) fun d=>
  if (!d) then  some (.nx true) else  xY (aK 1000 ([c.var,c.value,c.con]) 3) fun e=>
   some (.nx (!e))) fun f=>
 if f then
  some false
 else
  xY (kV (Line.mk c.kind c.var c.value c.con)) fun h=>
  xY (sl ([c.var,c.value,c.con]) (h.length:Int) (([c.var,c.value,c.con]).length:Int)) fun i=>
  xY (vQ i (fun j=>jI j)) fun n=>
  some ((!n))
theorem rX {B:Nat→Prop} {e:Line} (r:Bool) (d:fC e=some r) {n:Value} (i:World) (K:∀ c,B c→c<i.heap.size) (M:Bo B i (aY 4 qS) n e):Calls Tryz.prog 21 #[n] i (bK (.bool r) i):=by
 unfold fC at d
 refine xW (L:=[(0,n)]) func21 rfl rfl rfl (sc rfl sn) (fun a F=>?_);have H:=Sep.start K;refine xX ?_;obtain⟨rfl,y,A,C,D⟩:=qS.o M;refine oX F rfl rfl rfl H fun a w E H F=>xA 1 F rfl fun a F=>zR (oQ gR F rfl rfl rfl fun a F=>oB xN F rfl rfl (H.b 0 rfl) rfl fun a F=>oQ mN F rfl rfl rfl fun a F=>oB xN F rfl rfl (H.b 0 rfl) rfl fun a F=>oQ tV F rfl rfl rfl (fun a F=>?_));refine oB xN F rfl rfl (H.b 0 rfl) rfl fun a F=>oRI (xs:=[.tmp 5,.tmp 7,.tmp 9]) (l:=[e.var,e.value,e.con]) xC xI qQ rfl F rfl rfl rfl rfl rfl rfl (by simp only[List.forall_mem_cons,List.not_mem_nil,false_implies,implies_true,and_true];exact⟨A,C,D⟩) H fun a w t H F=>xA 1 F rfl fun a F=>xJ (xG (xG ?_));obtain⟨N,d,J⟩:=xV d;refine qG (fun a w=>∃ (p:Bool),N= .nx p∧Sk a 27 [(1,vA E),(3,t),(19,.bool p)]∧Sep [] B i w [rl 1 xM 2 t ([e.var,e.value,e.con]),bx E [xF e.kind,xF e.var,xF e.value,xF e.con] 45]) ?_ ?_
 ·
  refine oO (oQ sR F rfl rfl rfl fun a F=>oB xN F rfl rfl (H.b 1 rfl) rfl (fun a F=>?_));obtain⟨G,O,d⟩:=xB d;refine oK F rfl mC rfl H (dN G O _ aA y (show xS (1) by decide) (show xS (3) by decide)) fun a w H F=>xA 2 F rfl fun a F=>?_
  rcases zC (!G) with f | f
  ·
   replace d:=zW f d;have F:=F.eb 15 rfl f;refine xA 4 F rfl fun a F=>xJ ?_;exact⟨true,(kQ d),F.su,H⟩
  replace d:=zV f d;have F:=F.eb 15 rfl f;refine xA 1 F rfl fun a F=>?_;obtain⟨I,P,d⟩:=xB d;refine oK F rfl call37 rfl H (jN I P _ aA (show xS (1000) by decide) (H.l 0 rfl) (show xS (3) by decide)) fun a w H F=>xA 2 F rfl fun a F=>xJ ?_;exact⟨(!I),(kQ d),F.su,H⟩
 rintro a w ⟨p,rfl,F,H⟩
 have d:=oJ J;refine xH (vK F rfl (fun j=>?_) (fun j=>?_))
 ·
  replace d:=zW j d;refine xX (xA 1 F rfl fun a F=>xJ (xP (qH (xR F rfl (xZ F rfl) ?_))));obtain rfl:=oj d;exact⟨rfl,H.bl⟩
 replace d:=zV j d;refine xT (xH (xX (xA 1 F rfl fun a F=>lT dI vD F rfl rfl (H.b 1 rfl) rfl rfl (fun a F=>?_))));obtain⟨Q,R,d⟩:=xB d;refine oG F rfl call51 rfl (fD Q R _ aA (qS.m y A C D)) (fun a T w ⟨v1,Z,S⟩ F=>?_);subst T;have H:=H.r1 S n0;refine oL xC F rfl rfl (H.l 0 rfl) (fun a i5 F=>?_);obtain⟨z4,U,d⟩:=xB d;refine oC xC xI F rfl rfl rfl rfl (H.l 1 rfl) U (fun a v2 V F=>?_);obtain⟨X,Y,d⟩:=xB d;refine oK F rfl call53 rfl H (eU X Y _ aA V call54 (fun a0 r h W l1 f0=>yA r h W aA f0)) fun a w H F=>xA 2 F rfl fun a F=>xJ (xP (xR F rfl (xZ F rfl) ?_));obtain rfl:=oj d;exact⟨rfl,H.bl⟩
def gH:Option (List ByteArray):=
 some ([(kL [99,104,111,111,115,101]),(kL [114,101,109,111,118,101]),(kL [101,109,112,116,121])])
theorem mZ {B:Nat→Prop} (r:(List ByteArray)) (f:gH=some r)  (d:World) (h:∀ c,B c→c<d.heap.size):Calls Tryz.prog 48 #[] d (Gv (fun v w'=>∃ (e:Value),v=e∧Sep [] B d w' [rl 1 pZ 9 e r])):=by
 unfold gH at f
 refine xW (L:=[]) func48 rfl rfl rfl sn (fun a F=>?_);have H:=Sep.start h;refine xX (xA 1 F rfl fun a F=>zR (oRE Value.string _ xUu (fun _=>rfl) (xs:=[.const (.string (kL [99,104,111,111,115,101])),.const (.string (kL [114,101,109,111,118,101])),.const (.string (kL [101,109,112,116,121]))]) (l:=[(kL [99,104,111,111,115,101]),(kL [114,101,109,111,118,101]),(kL [101,109,112,116,121])]) kG gA zeroValue9 rfl F rfl rfl rfl rfl rfl rfl (by simp only[List.forall_mem_cons,List.not_mem_nil,false_implies,implies_true,and_true];exact⟨(by decide),(by decide),(by decide)⟩) H fun a w i H F=>xA 1 F rfl fun a F=>xJ ?_));refine xP (xR F rfl (xZ F rfl) ?_);obtain rfl:=oj f;exact⟨_,rfl,i,rfl,H⟩
def pX (c:Int):Option ByteArray:=
 xY (fN c 10) fun d=>
 some d
theorem xCv {B:Nat→Prop} {d:Int} (r:ByteArray) (e:pX d=some r)  (f:World) (i:∀ c,B c→c<f.heap.size) (hG:Glo f) (h:xS d):Calls Tryz.prog 84 #[xF d] f (Gv (fun v w'=>v= .string r∧Sep [] B f w' []∧r.size≤maxLen)):=by
 unfold pX at e
 refine xW (L:=[(0,xF d)]) func84 rfl rfl rfl (sc rfl sn) (fun a F=>?_);have H:=Sep.start i;refine xX (xA 1 F rfl fun a F=>zR (xA 1 F rfl fun a F=>?_));obtain⟨j,n,e⟩:=xB e;refine oG F rfl call123 rfl (wD j n _ aA (hG.go H.bl) h (show xS (10) by decide)) (fun a p w ⟨y,S,t⟩ F=>?_);subst p;have H:=H.r0 S;refine xA 1 F rfl fun a F=>xJ (xP (xR F rfl (xZ F rfl) ?_));obtain rfl:=oj e;exact⟨_,rfl,rfl,H,t⟩
def lP (c:List Int):Option ByteArray:=
 kY (σ:=(List ByteArray)) (
  qW (σ:=(List ByteArray)) (ρ:=ByteArray) (fun (n:Nat) (d:Int) (e:(List ByteArray))=>
   xY (pX d) fun f=>
   xY (ap e ([f])) fun h=>
   some (.go h)) c 0 []) fun i=>
 xY (mH i (kL [32])) fun j=>
 some j
theorem iE {B:Nat→Prop} {f:List Int} (r:ByteArray) (d:lP f=some r) {n:Value} (h:World) (Q:∀ c,B c→c<h.heap.size) (hG:Glo h) (E:Bo B h (Sl 1 xM) n f):Calls Tryz.prog 50 #[n] h (Gv (fun v w'=>v= .string r∧Sep [] B h w' []∧r.size≤maxLen)):=by
 unfold lP at d
 refine xW (L:=[(0,n)]) func50 rfl rfl rfl (sc rfl sn) (fun a F=>?_);have H:=Sep.start Q;refine xX (xA 1 F rfl fun a F=>zR (oR0 (R:=pZ) kG gA F rfl H fun a w T H F=>xA 1 F rfl fun a F=>xJ ?_));refine xG (xX (xA 1 F rfl fun a F=>oL xC F rfl rfl E fun a G F=>xA 1 F rfl fun a F=>xJ ?_));obtain⟨I,d,K⟩:=xV d;refine qG (fun a w=>∃ (A:List ByteArray) (C:Value),I= .nx A∧Sk a 21 [(3,C)]∧Sep [] B h w [rl 1 pZ 9 C A]) ?_ ?_
 ·
  refine qM ?_;obtain⟨M,N,d⟩:=vY d;refine vT (fun g a w=>∃ (j:Nat) (i:List Int) (p:List ByteArray) (t:Value),(j≤f.length∧f.drop j=i)∧i.length=g∧qW M i j p=some I∧Sk a 21 [(9,xF (j:Int)),(3,t),(7,n),(8,xF (f.length:Int))]∧Sep [] B h w [rl 1 pZ 9 t p]) f.length ?_ ?_
  ·
   exact⟨0,f,[],T,⟨Nat.zero_le _,rfl⟩,rfl,d,F.su,H⟩
  intro g1 a w ⟨j,i,p,t,e,O,d,F,H⟩
  cases i with
  | nil=>
   replace d:=vX d;have U:=vZ e.1 e.2;have l1:=kW U;refine xX (xA 1 F rfl fun a F=>xJ (xG (aC F rfl l1 (vU (vV (vV (bC ?_)))))));refine xH ?_;exact⟨p,t,(kQ d),F.su,H⟩
  | cons x1 i=>
   subst O;replace e:=qY e.2;have V:=zI e.2.1;obtain⟨a8,d,P⟩:=vE d;rw[N] at d;have l1:=zT e.1;refine xX (xA 1 F rfl fun a F=>xJ (xG (aD F rfl l1 (xT (xH (xG ?_))))));have j1:=k64 (Nat.le_of_lt e.1) G;have W:=bG e.1 G;refine qM (xX (oI xC xI F rfl rfl rfl E V fun a p1 X F=>olI xN F rfl rfl H.sm X fun a Y F=>xA 1 F rfl fun a F=>xJ (oO (xA 2 F rfl fun a F=>?_))));obtain⟨J,Z,d⟩:=xB d;refine oG F rfl call84 rfl (xCv J Z _ aA (hG.go H.bl) Y) (fun a D w ⟨a9,S,i3⟩ F=>?_);subst D;have H:=H.r0 S;refine iN (R:=pZ) (y:=J) kG gA zeroValue9 rfl rfl F rfl rfl H (Eo.str i3) (fun a w v4 H F=>?_);obtain⟨z2,c2,d⟩:=xB d;refine oPL (sz:=1) (R:=pZ) (z:=(.string ByteArray.empty)) (bytes:=16) kG (by kernel_rfl) rfl rfl F rfl rfl rfl (H.s [1,0] rfl rfl) c2 fun a w v5 H F=>xA 1 F rfl fun a F=>vP (zG (xH (oO (kO F rfl rfl rfl W fun a F=>xA 1 F rfl fun a F=>xJ ?_))));replace d:=aB d P;exact⟨_,Nat.lt_succ_self _,j+1,i,z2,v5,⟨e.1,e.2.2⟩,rfl,d,F.su,H⟩
 rintro a w ⟨A,C,rfl,F,H⟩
 have d:=oJ K;refine xH (xX (xA 1 F rfl fun a F=>?_));obtain⟨z3,c3,d⟩:=xB d;refine oG F rfl call85 rfl (xDt z3 c3 _ aA (H.l 0 rfl) (by decide)) (fun a D w ⟨a7,S,i4⟩ F=>?_);subst D;have H:=H.r0 S;refine xA 1 F rfl fun a F=>xJ (xP (xR F rfl (xZ F rfl) ?_));obtain rfl:=oj d;exact⟨_,rfl,rfl,(H.s [] rfl rfl),i4⟩
def eT (c:Line):Option ByteArray:=
 xY (fC (Line.mk c.kind c.var c.value c.con)) fun d=>
 if (!d) then
  some ((kL []))
 else
  xY (ck (c.kind - 1)) fun e=>
  xY (gH) fun f=>
  xY (ix f e) fun h=>
  xY (xJn h (kL [32])) fun i=>
  xY (kV (Line.mk c.kind c.var c.value c.con)) fun j=>
  xY (lP j) fun n=>
  xY (xJn i n) fun p=>
  some p
theorem tE {B:Nat→Prop} {P:Line} (r:ByteArray) (d:eT P=some r) {J:Value} (y:World) (T:∀ c,B c→c<y.heap.size) (hG:Glo y) (U:Bo B y (aY 4 qS) J P):Calls Tryz.prog 20 #[J] y (Gv (fun v w'=>v= .string r∧Sep [] B y w' []∧r.size≤maxLen)):=by
 unfold eT at d
 refine xW (L:=[(0,J)]) func20 rfl rfl rfl (sc rfl sn) (fun a F=>?_);have H:=Sep.start T;refine xX ?_;obtain⟨rfl,C,D,E,G⟩:=qS.o U;refine oX F rfl rfl rfl H fun a w b1 H F=>xA 1 F rfl fun a F=>xJ (xG (xX (lT dI vD F rfl rfl (H.b 0 rfl) rfl rfl (fun a F=>?_))));obtain⟨R,V,d⟩:=xB d;refine oK F rfl call21 rfl H (rX R V _ aA (qS.m C D E G)) fun a w H F=>xA 1 F rfl fun a F=>xJ (vK F rfl (fun I=>?_) (fun I=>?_))
 ·
  replace d:=zW I d;refine xX (xA 1 F rfl fun a F=>xJ (xP (qH (xR F rfl (xZ F rfl) ?_))));obtain rfl:=oj d;exact⟨_,rfl,rfl,(H.s [] rfl rfl),(by decide)⟩
 replace d:=zV I d;refine xT (xH (xG ?_));obtain⟨z1,W,d⟩:=xB d;obtain⟨X,Y,d⟩:=xB d;obtain⟨z3,K,d⟩:=xB d;obtain⟨z4,n,d⟩:=xB d;obtain⟨M,N,d⟩:=xB d;obtain⟨p,t,d⟩:=xB d;obtain⟨z7,j,d⟩:=xB d;obtain⟨w1,rfl⟩:∃ x,x=w:=⟨_,rfl⟩;have a8:=H.sm;obtain⟨X1,N1,Z,e1,H,i,a9⟩:=H.fza;have K1:=Z.bk;refine lU H fun w H=>qJ 1 rfl (qT F rfl (fun w l=>oD sR F rfl rfl) fun a F=>qJ 2 rfl (vB xN F rfl rfl (K1.v H.sm) rfl fun a F=>qV 3 rfl (qT F rfl (fun w l=>nU F rfl rfl W) fun a F=>qJ 7 rfl (vBA dI vD F rfl rfl (K1.v H.sm) rfl rfl fun a F=>kT H 0 rfl (oG F rfl call48 rfl (mZ X Y _ aA) (fun a f w ⟨v1,a7,S⟩ F=>?_))))));subst f;have H:=H.r1 S n0;refine xJ ⟨⟨_,H⟩,?_⟩;refine aT [4,8] (by kernel_rfl) (by simp) ⟨⟨_,rfl,?_⟩,⟨_,rfl,?_⟩,trivial⟩
 ·
  refine aM H ?_;obtain⟨w2,rfl⟩:∃ x,x=w:=⟨_,rfl⟩;have aa:=H.sm;obtain⟨X2,N2,g2,e2,H,e,ab⟩:=H.fza;have h1:=g2.ld;refine oI kG gA F rfl rfl rfl h1 K fun a p1 O F=>xJ ⟨⟨_,(e.1 H (Ns.all trivial))⟩,?_⟩;refine aT [5,8] (by kernel_rfl) (by simp) ⟨⟨_,rfl,?_⟩,⟨_,rfl,?_⟩,trivial⟩
  ·
   refine aM (e.1 H (Ns.all trivial)) (olT jB F rfl rfl H.sm O fun a i5 F=>xJ ⟨⟨_,(e.1 H (Ns.all trivial))⟩,?_⟩);refine qV 6 rfl (qT F rfl (fun w l=>nM F rfl rfl n) fun a F=>xE (e.1 H (Ns.all trivial)) 8 rfl (by kernel_rfl) (oG F rfl call51 rfl (fD M N _ aA (qS.m C D E G)) (fun a f w ⟨v2,ac,S⟩ F=>?_)));subst f;have H:=H.r1 S n0;refine xJ ⟨⟨_,(e.1 H (Ns.all ⟨n0,trivial⟩))⟩,?_⟩;refine xE (e.1 H (Ns.all ⟨n0,trivial⟩)) 9 rfl (by kernel_rfl) (oG F rfl call50 rfl (iE p t _ aA (hG.go (i.1 (e.1 H (Ns.all ⟨n0,trivial⟩)) (Ns.all ⟨n0,⟨n0,trivial⟩⟩)).bl) (H.l 0 rfl)) (fun a f w ⟨ad,S,i6⟩ F=>?_));subst f;have H:=H.r0 S;refine xJ ⟨⟨_,(e.1 H (Ns.all ⟨n0,trivial⟩))⟩,?_⟩;refine qV 10 rfl (qT F rfl (fun w l=>nM F rfl rfl j) fun a F=>qV 11 rfl (kA F rfl rfl fun a F=>zN (xH (xP ?_))));have H:=(i.1 (e.1 H (Ns.all ⟨n0,trivial⟩)) (Ns.all ⟨n0,⟨n0,trivial⟩⟩));refine xR F rfl (xZ F rfl) ?_;obtain rfl:=oj d;exact⟨_,rfl,rfl,(H.s [] rfl rfl),(uO j)⟩
  refine aM (e.1 H (Ns.all trivial)) (oG F rfl call51 rfl (fD M N _ aA (qS.m C D E G)) (fun a f w ⟨v3,ae,S⟩ F=>?_));subst f;have H:=H.r1 S n0;refine xJ ⟨⟨_,(e.1 H (Ns.all ⟨n0,trivial⟩))⟩,?_⟩;refine aT [5,9] (by kernel_rfl) (by simp) ⟨⟨_,rfl,?_⟩,⟨_,rfl,?_⟩,trivial⟩
  ·
   refine aM (e.1 H (Ns.all ⟨n0,trivial⟩)) (olT jB F rfl rfl H.sm O fun a i7 F=>xJ ⟨⟨_,(e.1 H (Ns.all ⟨n0,trivial⟩))⟩,?_⟩);refine qV 6 rfl (qT F rfl (fun w l=>nM F rfl rfl n) fun a F=>xE (e.1 H (Ns.all ⟨n0,trivial⟩)) 9 rfl (by kernel_rfl) (oG F rfl call50 rfl (iE p t _ aA (hG.go (i.1 (e.1 H (Ns.all ⟨n0,trivial⟩)) (Ns.all ⟨n0,⟨n0,trivial⟩⟩)).bl) (H.l 0 rfl)) (fun a f w ⟨af,S,i8⟩ F=>?_)));subst f;have H:=H.r0 S;refine xJ ⟨⟨_,(e.1 H (Ns.all ⟨n0,trivial⟩))⟩,?_⟩;refine qV 10 rfl (qT F rfl (fun w l=>nM F rfl rfl j) fun a F=>qV 11 rfl (kA F rfl rfl fun a F=>zN (xH (xP ?_))));have H:=(i.1 (e.1 H (Ns.all ⟨n0,trivial⟩)) (Ns.all ⟨n0,⟨n0,trivial⟩⟩));refine xR F rfl (xZ F rfl) ?_;obtain rfl:=oj d;exact⟨_,rfl,rfl,(H.s [] rfl rfl),(uO j)⟩
  refine aM (e.1 H (Ns.all ⟨n0,trivial⟩)) (oG F rfl call50 rfl (iE p t _ aA (hG.go (i.1 (e.1 H (Ns.all ⟨n0,trivial⟩)) (Ns.all ⟨n0,⟨n0,trivial⟩⟩)).bl) (H.l 0 rfl)) (fun a f w ⟨ag,S,i9⟩ F=>?_));subst f;have H:=H.r0 S;refine xJ ⟨⟨_,(e.1 H (Ns.all ⟨n0,trivial⟩))⟩,?_⟩;refine xE (e.1 H (Ns.all ⟨n0,trivial⟩)) 5 rfl (by kernel_rfl) (olT jB F rfl rfl H.sm O fun a ah F=>xJ ⟨⟨_,(e.1 H (Ns.all ⟨n0,trivial⟩))⟩,?_⟩);refine qV 6 rfl (qT F rfl (fun w l=>nM F rfl rfl n) fun a F=>qV 10 rfl (qT F rfl (fun w l=>nM F rfl rfl j) fun a F=>qV 11 rfl (kA F rfl rfl fun a F=>zN (xH (xP ?_)))));have H:=(i.1 (e.1 H (Ns.all ⟨n0,trivial⟩)) (Ns.all ⟨n0,⟨n0,trivial⟩⟩));refine xR F rfl (xZ F rfl) ?_;obtain rfl:=oj d;exact⟨_,rfl,rfl,(H.s [] rfl rfl),(uO j)⟩
 refine aM H (oG F rfl call51 rfl (fD M N _ aA (qS.m C D E G)) (fun a f w ⟨v4,ai,S⟩ F=>?_));subst f;have H:=H.r1 S n0;refine xJ ⟨⟨_,H⟩,?_⟩;refine aT [4,9] (by kernel_rfl) (by simp) ⟨⟨_,rfl,?_⟩,⟨_,rfl,?_⟩,trivial⟩
 ·
  refine aM H ?_;obtain⟨w3,rfl⟩:∃ x,x=w:=⟨_,rfl⟩;have aj:=H.sm;obtain⟨X3,N3,g3,e3,H,h,ak⟩:=(H.s [1,0] rfl rfl).fza;have h3:=g3.ld;refine oI kG gA F rfl rfl rfl h3 K fun a p2 Q F=>xJ ⟨⟨_,(h.1 H (Ns.all ⟨n0,trivial⟩))⟩,?_⟩;refine aT [5,9] (by kernel_rfl) (by simp) ⟨⟨_,rfl,?_⟩,⟨_,rfl,?_⟩,trivial⟩
  ·
   refine aM (h.1 H (Ns.all ⟨n0,trivial⟩)) (olT jB F rfl rfl H.sm Q fun a al F=>xJ ⟨⟨_,(h.1 H (Ns.all ⟨n0,trivial⟩))⟩,?_⟩);refine qV 6 rfl (qT F rfl (fun w l=>nM F rfl rfl n) fun a F=>xE (h.1 H (Ns.all ⟨n0,trivial⟩)) 9 rfl (by kernel_rfl) (oG F rfl call50 rfl (iE p t _ aA (hG.go (i.1 (h.1 H (Ns.all ⟨n0,trivial⟩)) (Ns.all ⟨n0,⟨n0,trivial⟩⟩)).bl) (H.l 0 rfl)) (fun a f w ⟨am,S,an⟩ F=>?_)));subst f;have H:=H.r0 S;refine xJ ⟨⟨_,(h.1 H (Ns.all ⟨n0,trivial⟩))⟩,?_⟩;refine qV 10 rfl (qT F rfl (fun w l=>nM F rfl rfl j) fun a F=>qV 11 rfl (kA F rfl rfl fun a F=>zN (xH (xP ?_))));have H:=(i.1 (h.1 H (Ns.all ⟨n0,trivial⟩)) (Ns.all ⟨n0,⟨n0,trivial⟩⟩));refine xR F rfl (xZ F rfl) ?_;obtain rfl:=oj d;exact⟨_,rfl,rfl,(H.s [] rfl rfl),(uO j)⟩
  refine aM (h.1 H (Ns.all ⟨n0,trivial⟩)) (oG F rfl call50 rfl (iE p t _ aA (hG.go (i.1 (h.1 H (Ns.all ⟨n0,trivial⟩)) (Ns.all ⟨n0,⟨n0,trivial⟩⟩)).bl) (H.l 0 rfl)) (fun a f w ⟨ao,S,aq⟩ F=>?_));subst f;have H:=H.r0 S;refine xJ ⟨⟨_,(h.1 H (Ns.all ⟨n0,trivial⟩))⟩,?_⟩;refine xE (h.1 H (Ns.all ⟨n0,trivial⟩)) 5 rfl (by kernel_rfl) (olT jB F rfl rfl H.sm Q fun a ar F=>xJ ⟨⟨_,(h.1 H (Ns.all ⟨n0,trivial⟩))⟩,?_⟩);refine qV 6 rfl (qT F rfl (fun w l=>nM F rfl rfl n) fun a F=>qV 10 rfl (qT F rfl (fun w l=>nM F rfl rfl j) fun a F=>qV 11 rfl (kA F rfl rfl fun a F=>zN (xH (xP ?_)))));have H:=(i.1 (h.1 H (Ns.all ⟨n0,trivial⟩)) (Ns.all ⟨n0,⟨n0,trivial⟩⟩));refine xR F rfl (xZ F rfl) ?_;obtain rfl:=oj d;exact⟨_,rfl,rfl,(H.s [] rfl rfl),(uO j)⟩
 refine aM H (oG F rfl call50 rfl (iE p t _ aA (hG.go (i.1 H (Ns.all ⟨n0,⟨n0,trivial⟩⟩)).bl) (H.l 0 rfl)) (fun a f w ⟨au,S,aw⟩ F=>?_));subst f;have H:=H.r0 S;refine xJ ⟨⟨_,H⟩,?_⟩;refine kT H 4 rfl ?_;obtain⟨w4,rfl⟩:∃ x,x=w:=⟨_,rfl⟩;have ax:=H.sm;obtain⟨X4,N4,g4,e4,H,A,ay⟩:=(H.s [1,0] rfl rfl).fza;have h5:=g4.ld;refine oI kG gA F rfl rfl rfl h5 K fun a p3 h6 F=>xJ ⟨⟨_,(A.1 H (Ns.all ⟨n0,trivial⟩))⟩,?_⟩;refine xE (A.1 H (Ns.all ⟨n0,trivial⟩)) 5 rfl (by kernel_rfl) (olT jB F rfl rfl H.sm h6 fun a az F=>xJ ⟨⟨_,(A.1 H (Ns.all ⟨n0,trivial⟩))⟩,?_⟩);refine qV 6 rfl (qT F rfl (fun w l=>nM F rfl rfl n) fun a F=>qV 10 rfl (qT F rfl (fun w l=>nM F rfl rfl j) fun a F=>qV 11 rfl (kA F rfl rfl fun a F=>zN (xH (xP ?_)))));have H:=(i.1 (A.1 H (Ns.all ⟨n0,trivial⟩)) (Ns.all ⟨n0,⟨n0,trivial⟩⟩));refine xR F rfl (xZ F rfl) ?_;obtain rfl:=oj d;exact⟨_,rfl,rfl,(H.s [] rfl rfl),(uO j)⟩
def zY (c:List ByteArray) (d:ByteArray):Option Int:=
 kY (σ:=Unit) (
  qW (σ:=Unit) (ρ:=Int) (fun (e:Nat) (f:ByteArray) (s:Unit)=>
    match s with
    | _=>
    if (sEq d f) then
     some (.ret ((e:Int)))
    else
     some (.go ())) c 0 ()) fun _=>
 some ((-1))
theorem gJ {B:Nat→Prop} {f:List ByteArray} {n:ByteArray} (r:Int) (d:zY f n=some r) {p:Value} (i:World) (K:∀ c,B c→c<i.heap.size) (D:Bo B i (Sl 1 pZ) p f) (R:n.size≤maxLen):Calls Tryz.prog 47 #[p,.string n] i (lI r i):=by
 unfold zY at d
 refine xW (L:=[(0,p),(1,.string n)]) func47 rfl rfl rfl (sc rfl (sc rfl sn)) (fun a F=>?_);have H:=Sep.start K;refine xX (xA 1 F rfl fun a F=>xJ (xG (xX (xA 1 F rfl fun a F=>oL kG F rfl rfl D fun a E F=>xA 1 F rfl fun a F=>?_))));refine xJ ?_;obtain⟨y,d,A⟩:=xV d;refine qG (fun a w=>y= .nx ()∧Sk a 19 []∧Sep [] B i w []) ?_ ?_
 ·
  refine qM ?_;obtain⟨G,I,d⟩:=vY d;refine vT (fun g a w=>∃ (j:Nat) (h:List ByteArray),(j≤f.length∧f.drop j=h)∧h.length=g∧qW G h j ()=some y∧Sk a 19 [(8,xF (j:Int)),(0,p),(1,.string n),(7,xF (f.length:Int))]∧Sep [] B i w []) f.length ?_ ?_
  ·
   exact⟨0,f,⟨Nat.zero_le _,rfl⟩,rfl,d,F.su,H⟩
  intro T a w ⟨j,h,e,J,d,F,H⟩
  cases h with
  | nil=>
   replace d:=vX d;have M:=vZ e.1 e.2;have l1:=kW M;refine xX (xA 1 F rfl fun a F=>xJ (xG (aC F rfl l1 (vU (vV (vV (bC ?_)))))));refine xH ?_;exact⟨(kQ d),F.sub sn,H⟩
  | cons U h=>
   subst J;replace e:=qY e.2;have N:=zI e.2.1;obtain⟨S,d,C⟩:=vE d;rw[I] at d;have l1:=zT e.1;refine xX (xA 1 F rfl fun a F=>xJ (xG (aD F rfl l1 (xT (xH (xG ?_))))));have O:=k64 (Nat.le_of_lt e.1) E;have P:=bG e.1 E;refine qM (xX (xA 2 F rfl fun a F=>zR (xA 2 F rfl fun a F=>?_)));refine xA 1 F rfl fun a F=>oI kG gA F rfl rfl rfl D N fun a V Q F=>olT jB F rfl rfl H.sm Q fun a W F=>xRl F rfl rfl rfl fun a F=>xJ (vK F rfl (fun t=>?_) (fun t=>?_))
   ·
    replace d:=zW t d;refine xX (xA 2 F rfl fun a F=>xJ (xP (zZ (qH (qH ?_)))));replace d:=bQ d C;refine zZ (qH ?_);replace d:=bR d A;refine qH (xR F rfl (xZ F rfl) ?_);obtain rfl:=oj d;exact⟨⟨rfl,H.bl⟩,O⟩
   replace d:=zV t d;refine xT (zG (xH (oO (kO F rfl rfl rfl P fun a F=>xA 1 F rfl fun a F=>xJ ?_))));replace d:=aB d C;exact⟨_,Nat.lt_succ_self _,j+1,h,⟨e.1,e.2.2⟩,rfl,d,F.su,H⟩
 rintro a w ⟨rfl,F,H⟩
 have d:=oJ A;refine xH (xX (xA 1 F rfl fun a F=>xJ (xP (xR F rfl (xZ F rfl) ?_))));obtain rfl:=oj d;exact⟨⟨rfl,H.bl⟩,(show xS (-1) by decide)⟩
def kB (d:ByteArray):Option Int:=
 xY (eV d 10 64) fun c=>
 kY (σ:=Bool) (
  if (!c.2) then  some (.nx true) else  if (decide (c.1<0)) then  some (.nx true) else  xY (pX c.1) fun e=>
    some (.nx (!sEq e d))) fun f=>
 if f then
  some ((-2))
 else
  some c.1
theorem mE {B:Nat→Prop} {h:ByteArray} (r:Int) (d:kB h=some r)  (i:World) (E:∀ c,B c→c<i.heap.size) (hG:GloE i) (C:h.size≤maxLen):Calls Tryz.prog 49 #[.string h] i (lI r i):=by
 unfold kB at d
 refine xW (L:=[(0,.string h)]) func49 rfl rfl rfl (sc rfl sn) (fun a F=>?_);have H:=Sep.start E;refine xX (xA 1 F rfl fun a F=>zR (xA 1 F rfl fun a F=>?_));obtain⟨j,G,d⟩:=xB d;refine oG F rfl call83 rfl (wS j G _ aA (hG.go H.bl) C (show xS (10) by decide) (show xS (64) by decide)) (fun a p w ⟨N,K,S,y,hE15⟩ F=>?_);subst p;have H:=H.r0 S;refine xA 5 F rfl fun a F=>xJ (xG (xG ?_));obtain⟨I,d,D⟩:=xV d;refine qG (fun a w=>∃ (t:Bool),I= .nx t∧Sk a 23 [(3,xF j.1),(21,.bool t)]∧Sep [] B i w []) ?_ ?_
 ·
  refine oO (xA 1 F rfl fun a F=>xRn (by kernel_rfl) F rfl rfl hE15 fun a F=>xA 1 F rfl fun a F=>?_)
  rcases zC (!j.2) with e | e
  ·
   replace d:=zW e d;have F:=F.eb 12 rfl e;refine xA 9 F rfl fun a F=>xJ ?_;exact⟨true,(kQ d),F.su,H⟩
  replace d:=zV e d;have F:=F.eb 12 rfl e;refine xA 4 F rfl fun a F=>?_
  rcases zC (decide (j.1<0)) with f | f
  ·
   replace d:=zW f d;have F:=F.eb 16 rfl f;refine xA 5 F rfl fun a F=>xJ ?_;exact⟨true,(kQ d),F.su,H⟩
  replace d:=zV f d;have F:=F.eb 16 rfl f;refine xA 1 F rfl fun a F=>?_;obtain⟨A,J,d⟩:=xB d;refine oG F rfl call84 rfl (xCv A J _ aA (hG.go H.bl).toGlo y) (fun a p w ⟨M,S,O⟩ F=>?_);subst p;have H:=H.r0 S;refine xA 1 F rfl fun a F=>xPx F rfl rfl rfl fun a F=>xA 1 F rfl fun a F=>xJ ?_;exact⟨(!sEq A h),(kQ d),F.su,H⟩
 rintro a w ⟨t,rfl,F,H⟩
 have d:=oJ D;refine xH (vK F rfl (fun n=>?_) (fun n=>?_))
 ·
  replace d:=zW n d;refine xX (xA 1 F rfl fun a F=>xJ (xP (qH (xR F rfl (xZ F rfl) ?_))));obtain rfl:=oj d;exact⟨⟨rfl,H.bl⟩,(show xS (-2) by decide)⟩
 replace d:=zV n d;refine xT (xH (xX (xA 2 F rfl fun a F=>xJ (xP (xR F rfl (xZ F rfl) ?_)))));obtain rfl:=oj d;exact⟨⟨rfl,H.bl⟩,y⟩
def iL (e:ByteArray):Option (Line×Int):=
 xY (iK e (kL [32])) fun c=>
 xY (ix c 0) fun t=>
 xY (gH) fun y=>
 xY (zY y t) fun A=>
 xY (ck (A+1)) fun f=>
 kY (σ:=Int) (
  if (decide (1<(c.length:Int))) then
   xY (ix c 1) fun B=>
   xY (kB B) fun C=>
   some (.nx C)
  else
   some (.nx 0)) fun h=>
 kY (σ:=Int) (
  if (decide (2<(c.length:Int))) then
   xY (ix c 2) fun D=>
   xY (kB D) fun E=>
   some (.nx E)
  else
   some (.nx 0)) fun i=>
 kY (σ:=Int) (
  if (decide (3<(c.length:Int))) then
   xY (ix c 3) fun n=>
   xY (kB n) fun p=>
   some (.nx p)
  else
   some (.nx 0)) fun j=>
 xY (eT (Line.mk f h i j)) fun d=>
 kY (σ:=Bool) (
  if (sEq d (kL [])) then  some (.nx true) else  some (.nx (!sEq d e))) fun F=>
 if F then
  some ((Line.mk 0 0 0 0),5)
 else
  some ((Line.mk f h i j),0)
theorem xCf {B:Nat→Prop} {h:ByteArray} (r:Line×Int) (d:iL h=some r)  (O:World) (hN:∀ c,B c→c<O.heap.size) (hG:GloE O) (af:h.size≤maxLen):Calls Tryz.prog 19 #[.string h] O (Gv (fun v w'=>v= .tuple #[.agg #[xF r.1.kind,xF r.1.var,xF r.1.value,xF r.1.con],xF r.2]∧Sep [] B O w' []∧xS r.1.kind∧xS r.1.var∧xS r.1.value∧xS r.1.con∧xS r.2)):=by
 unfold iL at d
 refine xW (L:=[(0,.string h)]) func19 rfl rfl rfl (sc rfl sn) (fun a F=>?_);have H:=Sep.start hN;refine xX (oA kC F rfl rfl H fun a w f H F=>xA 1 F rfl fun a F=>zR (xA 1 F rfl fun a F=>?_));obtain⟨z1,c1,d⟩:=xB d;refine oG F rfl call46 rfl (xBp z1 c1 _ aA (hG.go H.bl).toGlo af (by decide)) (fun a t w ⟨N,hv16,S⟩ F=>?_);subst t;have H:=H.r1 S n0;refine xA 1 F rfl fun a F=>xJ (xG ?_);obtain⟨z2,c2,d⟩:=xB d;obtain⟨Z,c3,d⟩:=xB d;obtain⟨z4,c4,d⟩:=xB d;obtain⟨j,P,d⟩:=xB d;obtain⟨I,rfl⟩:∃ x,x=w:=⟨_,rfl⟩;have c5:=H.sm;obtain⟨D,J,g1,e1,H,E,ab1⟩:=H.fza;have y:=g1.ld;refine lU H fun w H=>dp (fun G=>∀ (e:Nat) (a:Act) (w:World),Sk a 53 [(0,.string h),(2,vA f),(4,N),(5,vA e),(17,(.agg #[xF j,xF 0,xF 0,xF 0]))]→Sep D J I w [bx e [xF 0,xF 0,xF 0,xF 0] 45,bx f [xF 0,xF 0,xF 0,xF 0] 45]→xS 0→xS 0→xS 0→xS 0→xS 0→xS 0→xS 0→xS 0→xS j→xS 0→xS 0→xS 0→∀ A,A = #[true,true,true,true,true,true,true,true,false]→G 1 A a w) ?_ (fun H1=>?_)
 ·
  intro e a w F H i1 i2 i3 i4 i5 i6 i7 i8 i9 ag ah ai A R;subst R;refine kT H 8 rfl (gN (vs:=[xF j,xF 0,xF 0,xF 0]) vD F rfl rfl rfl H (oc rfl (oc rfl (oc rfl (oc rfl on)))) rfl rfl fun w H=>xJ ⟨⟨_,H⟩,?_⟩);refine zN (xH (xG (xX (oQ gR F rfl rfl rfl fun a F=>oQ mN F rfl rfl rfl fun a F=>oQ tV F rfl rfl rfl fun a F=>oLB (xs:=[.tmp 18,.tmp 19,.tmp 20]) (l:=[.pointer (some ⟨e,1,none⟩),.pointer (some ⟨e,2,none⟩),.pointer (some ⟨e,3,none⟩)]) gT rF zeroValue107 rfl F rfl rfl rfl (by simp) (by simp) rfl (by simp only[List.forall_mem_cons,List.not_mem_nil,false_implies,implies_true,and_true];exact⟨rfl,rfl,rfl⟩) H fun a w K H F=>xUv gT F rfl rfl fun a F=>xA 1 F rfl fun a F=>?_))));refine xJ (qM (xOh 4 (xRp (xX (xA 1 F rfl fun a F=>?_)))));replace F:=F.cast (show Value.bool (decide ((0:Int)<3))= .bool true from rfl);refine xJ (xG (xMs F rfl (xT (xH (xG ?_)))));obtain⟨o1,d,aj⟩:=xV d;refine qG (fun a w=>∃ (n:Int),o1= .nx n∧Sk a 53 [(0,.string h),(2,vA f),(4,N),(5,vA e),(21,.slice (some ⟨K,0,none⟩) 3 3),(22,xF 3),(23,xF 0)]∧Sep D J I w [bx K [.pointer (some ⟨e,1,none⟩),.pointer (some ⟨e,2,none⟩),.pointer (some ⟨e,3,none⟩)] 107,bx e [xF j,xF n,xF 0,xF 0] 45,bx f [xF 0,xF 0,xF 0,xF 0] 45]∧xS n) ?_ ?_
  ·
   refine qM (xX (xA 1 F rfl fun a F=>xJz (i:=0) gT rF F rfl rfl rfl (by decide) fun a F=>oB isAgg107 F rfl rfl (H.b 0 rfl) rfl fun a F=>xA 2 F rfl fun a F=>xJ (xG ?_)));refine oO (xA 1 F rfl fun a F=>fF F rfl rfl rfl (show ck ((0:Int)+1)=some 1 from rfl) fun a F=>xA 1 F rfl fun a F=>oL kG F rfl rfl y fun a i13 F=>xA 1 F rfl fun a F=>xJ (vK F rfl (fun T=>?_) (fun T=>?_)))
   ·
    replace d:=zW T d;refine oO (xA 3 F rfl fun a F=>fF F rfl rfl rfl (show ck ((0:Int)+1)=some 1 from rfl) (fun a F=>?_));obtain⟨z6,c6,d⟩:=xB d;refine oI kG gA F rfl rfl rfl y c6 fun a p1 h2 F=>olT jB F rfl rfl H.sm h2 (fun a ak F=>?_);obtain⟨z7,c7,d⟩:=xB d;refine oKI F rfl call49 rfl H (mE z7 c7 _ aA (hG.go (E.1 H (Ns.all ⟨n0,⟨n0,⟨n0,trivial⟩⟩⟩)).bl) ak) fun a w H al F=>zB F rfl rfl fun a F=>oW xI F rfl rfl rfl (H.s [1,0,2] rfl rfl) rfl rfl rfl fun w H=>vP (zG (xH ?_));exact⟨z7,(kQ d),F.su,(H.s [1,0,2] rfl rfl),al⟩
   replace d:=zV T d;refine xT (zG (xH ?_));exact⟨0,(kQ d),F.su,H,ag⟩
  rintro a w ⟨n,rfl,F,H,a2⟩
  have d:=oJ aj;refine xH (oO (fF F rfl rfl rfl (show ck ((0:Int)+1)=some 1 from rfl) fun a F=>xA 1 F rfl fun a F=>xJ (xRp (xX (xA 1 F rfl fun a F=>?_)))));replace F:=F.cast (show Value.bool (decide ((1:Int)<3))= .bool true from rfl);refine xJ (xG (xMs F rfl (xT (xH (xG ?_)))));obtain⟨o2,d,am⟩:=xV d;refine qG (fun a w=>∃ (p:Int),o2= .nx p∧Sk a 53 [(0,.string h),(2,vA f),(4,N),(5,vA e),(21,.slice (some ⟨K,0,none⟩) 3 3),(22,xF 3),(23,xF 1)]∧Sep D J I w [bx K [.pointer (some ⟨e,1,none⟩),.pointer (some ⟨e,2,none⟩),.pointer (some ⟨e,3,none⟩)] 107,bx e [xF j,xF n,xF p,xF 0] 45,bx f [xF 0,xF 0,xF 0,xF 0] 45]∧xS p) ?_ ?_
  ·
   refine qM (xX (xA 1 F rfl fun a F=>xJz (i:=1) gT rF F rfl rfl rfl (by decide) fun a F=>oB isAgg107 F rfl rfl (H.b 0 rfl) rfl fun a F=>xA 2 F rfl fun a F=>xJ (xG ?_)));refine oO (xA 1 F rfl fun a F=>fF F rfl rfl rfl (show ck ((1:Int)+1)=some 2 from rfl) fun a F=>xA 1 F rfl fun a F=>oL kG F rfl rfl y fun a i16 F=>xA 1 F rfl fun a F=>xJ (vK F rfl (fun U=>?_) (fun U=>?_)))
   ·
    replace d:=zW U d;refine oO (xA 3 F rfl fun a F=>fF F rfl rfl rfl (show ck ((1:Int)+1)=some 2 from rfl) (fun a F=>?_));obtain⟨z8,c8,d⟩:=xB d;refine oI kG gA F rfl rfl rfl y c8 fun a p2 h3 F=>olT jB F rfl rfl H.sm h3 (fun a an F=>?_);obtain⟨z9,c9,d⟩:=xB d;refine oKI F rfl call49 rfl H (mE z9 c9 _ aA (hG.go (E.1 H (Ns.all ⟨n0,⟨n0,⟨n0,trivial⟩⟩⟩)).bl) an) fun a w H ao F=>zB F rfl rfl fun a F=>oW xI F rfl rfl rfl (H.s [1,0,2] rfl rfl) rfl rfl rfl fun w H=>vP (zG (xH ?_));exact⟨z9,(kQ d),F.su,(H.s [1,0,2] rfl rfl),ao⟩
   replace d:=zV U d;refine xT (zG (xH ?_));exact⟨0,(kQ d),F.su,H,ah⟩
  rintro a w ⟨p,rfl,F,H,a3⟩
  have d:=oJ am;refine xH (oO (fF F rfl rfl rfl (show ck ((1:Int)+1)=some 2 from rfl) fun a F=>xA 1 F rfl fun a F=>xJ (xRp (xX (xA 1 F rfl fun a F=>?_)))));replace F:=F.cast (show Value.bool (decide ((2:Int)<3))= .bool true from rfl);refine xJ (xG (xMs F rfl (xT (xH (xG ?_)))));obtain⟨o3,d,aq⟩:=xV d;refine qG (fun a w=>∃ (C:Int),o3= .nx C∧Sk a 53 [(0,.string h),(2,vA f),(4,N),(5,vA e),(21,.slice (some ⟨K,0,none⟩) 3 3),(22,xF 3),(23,xF 2)]∧Sep D J I w [bx K [.pointer (some ⟨e,1,none⟩),.pointer (some ⟨e,2,none⟩),.pointer (some ⟨e,3,none⟩)] 107,bx e [xF j,xF n,xF p,xF C] 45,bx f [xF 0,xF 0,xF 0,xF 0] 45]∧xS C) ?_ ?_
  ·
   refine qM (xX (xA 1 F rfl fun a F=>xJz (i:=2) gT rF F rfl rfl rfl (by decide) fun a F=>oB isAgg107 F rfl rfl (H.b 0 rfl) rfl fun a F=>xA 2 F rfl fun a F=>xJ (xG ?_)));refine oO (xA 1 F rfl fun a F=>fF F rfl rfl rfl (show ck ((2:Int)+1)=some 3 from rfl) fun a F=>xA 1 F rfl fun a F=>oL kG F rfl rfl y fun a i19 F=>xA 1 F rfl fun a F=>xJ (vK F rfl (fun V=>?_) (fun V=>?_)))
   ·
    replace d:=zW V d;refine oO (xA 3 F rfl fun a F=>fF F rfl rfl rfl (show ck ((2:Int)+1)=some 3 from rfl) (fun a F=>?_));obtain⟨ca,ar,d⟩:=xB d;refine oI kG gA F rfl rfl rfl y ar fun a p3 h4 F=>olT jB F rfl rfl H.sm h4 (fun a au F=>?_);obtain⟨a4,aw,d⟩:=xB d;refine oKI F rfl call49 rfl H (mE a4 aw _ aA (hG.go (E.1 H (Ns.all ⟨n0,⟨n0,⟨n0,trivial⟩⟩⟩)).bl) au) fun a w H ax F=>zB F rfl rfl fun a F=>oW xI F rfl rfl rfl (H.s [1,0,2] rfl rfl) rfl rfl rfl fun w H=>vP (zG (xH ?_));exact⟨a4,(kQ d),F.su,(H.s [1,0,2] rfl rfl),ax⟩
   replace d:=zV V d;refine xT (zG (xH ?_));exact⟨0,(kQ d),F.su,H,ai⟩
  rintro a w ⟨C,rfl,F,H,a5⟩
  have d:=oJ aq;refine xH (oO (fF F rfl rfl rfl (show ck ((2:Int)+1)=some 3 from rfl) fun a F=>xA 1 F rfl fun a F=>xJ (xRp (xX (xA 1 F rfl fun a F=>?_)))));replace F:=F.cast (show Value.bool (decide ((3:Int)<3))= .bool false from rfl);refine xJ (xG (xTi F rfl (vU (vV (vV (bC (xH (xG (xG ?_)))))))));refine oO (lT dI vD F rfl rfl (H.b 1 rfl) rfl rfl (fun a F=>?_));obtain⟨W,ay,d⟩:=xB d;refine oG F rfl call20 rfl (tE W ay _ aA (hG.go (E.1 H (Ns.all ⟨n0,⟨n0,⟨n0,trivial⟩⟩⟩)).bl).toGlo (qS.m i9 a2 a3 a5)) (fun a t w ⟨cb,S,cc⟩ F=>?_);subst t;have H:=H.r0 S;refine xA 1 F rfl fun a F=>xJ (xG ?_);obtain⟨o4,d,az⟩:=xV d;refine qG (fun a w=>∃ (s4:Bool),o4= .nx s4∧Sk a 53 [(2,vA f),(5,vA e),(50,.bool s4)]∧Sep D J I w [bx e [xF j,xF n,xF p,xF C] 45,bx f [xF 0,xF 0,xF 0,xF 0] 45]) ?_ ?_
  ·
   refine oO (xA 1 F rfl fun a F=>xRl F rfl rfl rfl fun a F=>xA 1 F rfl fun a F=>?_)
   rcases zC (sEq W (kL [])) with M | M
   ·
    replace d:=zW M d;have F:=F.eb 46 rfl M;refine xA 4 F rfl fun a F=>xJ ?_;exact⟨true,(kQ d),F.su,(H.s [1,2] rfl rfl)⟩
   replace d:=zV M d;have F:=F.eb 46 rfl M;refine xA 2 F rfl fun a F=>xPx F rfl rfl rfl fun a F=>xA 1 F rfl fun a F=>xJ ?_;exact⟨(!sEq W h),(kQ d),F.su,(H.s [1,2] rfl rfl)⟩
  rintro a w ⟨s4,rfl,F,H⟩
  have d:=oJ az;refine xH (vK F rfl (fun X=>?_) (fun X=>?_))
  ·
   replace d:=zW X d;refine xX (aX fB kC (fun w=>by simp [xI];rfl) F rfl rfl rfl rfl rfl on rfl rfl fun a F=>gN (vs:=[xF 0,xF 0,xF 0,xF 0]) vD F rfl rfl rfl (H.s [1,0] rfl rfl) (oc rfl (oc rfl (oc rfl (oc rfl on)))) rfl rfl fun w H=>xA 1 F rfl fun a F=>xJ (xP (qH ?_)));have H:=(E.1 H (Ns.all ⟨n0,⟨n0,trivial⟩⟩));refine zS F rfl (bN (arr:=#[xF 0,xF 0,xF 0,xF 0]) F dI vD rfl (H.b 1 rfl)) (xZ F rfl) ?_;obtain rfl:=oj d;exact⟨_,rfl,rfl,(H.s [] rfl rfl),(show xS 0 by decide),(show xS 0 by decide),(show xS 0 by decide),(show xS 0 by decide),(show xS (5) by decide)⟩
  replace d:=zV X d;refine xT (xH (xX (lT dI vD F rfl rfl (H.b 0 rfl) rfl rfl fun a F=>gN (vs:=[xF j,xF n,xF p,xF C]) vD F rfl rfl rfl (H.s [1,0] rfl rfl) (oc rfl (oc rfl (oc rfl (oc rfl on)))) rfl rfl fun w H=>xA 1 F rfl fun a F=>xJ (xP ?_))));have H:=(E.1 H (Ns.all ⟨n0,⟨n0,trivial⟩⟩));refine zS F rfl (bN (arr:=#[xF j,xF n,xF p,xF C]) F dI vD rfl (H.b 1 rfl)) (xZ F rfl) ?_;obtain rfl:=oj d;exact⟨_,rfl,rfl,(H.s [] rfl rfl),i9,a2,a3,a5,(show xS (0) by decide)⟩
 refine dp (fun G=>∀ (Q:Nat) (v2:Value) (a:Act) (w:World),Sk a 53 [(0,.string h),(2,vA f),(4,N),(5,vA Q),(11,v2),(14,.string z2)]→Sep D J I w [bx Q [xF 0,xF 0,xF 0,xF 0] 45,rl 1 pZ 9 v2 Z,bx f [xF 0,xF 0,xF 0,xF 0] 45]→xS 0→xS 0→xS 0→xS 0→xS 0→xS 0→xS 0→xS 0→z2.size≤maxLen→∀ A,A = #[true,true,true,true,false,false,false,true,false]→G 4 A a w) ?_ (fun H2=>?_)
 ·
  intro Q v2 a w F H b0 b1 b2 b3 b4 i28 i29 i30 i64 A R;subst R;refine kT H 4 rfl (oKI F rfl call47 rfl H (gJ z4 c4 _ aA (H.l 1 rfl) i64) fun a w H b8 F=>xJ ⟨⟨_,H⟩,?_⟩);refine qV 5 rfl (qT F rfl (fun w l=>xBf F rfl rfl P) fun a F=>qJ 6 rfl (qT F rfl (fun w l=>pF fB kC (fun w=>by simp [xI];rfl) F rfl rfl rfl rfl (oc rfl on) rfl rfl) (fun a F=>?_)));exact H1 Q _ _ (F.su) (H.s [0,2] rfl rfl) b0 b1 b2 b3 b4 i28 i29 i30 (bD P) (show xS 0 by decide) (show xS 0 by decide) (show xS 0 by decide) _ (by kernel_rfl)
 refine qV 1 rfl (qO F rfl rfl fun a F=>qJ 2 rfl (vI kG gA F rfl rfl rfl y c2 fun a p4 h5 F=>qJ 3 rfl (vlT jB F rfl rfl H.v h5 fun a Y F=>aT [0,7] (by kernel_rfl) (by simp) ⟨⟨_,rfl,?_⟩,⟨_,rfl,?_⟩,trivial⟩)))
 ·
  refine aM H (oG F rfl call48 rfl (mZ Z c3 _ aA) (fun a t w ⟨v3,cd,S⟩ F=>?_));subst t;have H:=H.r1 S n0;refine xJ ⟨⟨_,H⟩,?_⟩;refine aT [4,7] (by kernel_rfl) (by simp) ⟨⟨_,rfl,?_⟩,⟨_,rfl,?_⟩,trivial⟩
  ·
   refine aM H (oKI F rfl call47 rfl H (gJ z4 c4 _ aA (H.l 0 rfl) Y) fun a w H b8 F=>xJ ⟨⟨_,H⟩,?_⟩);refine qV 5 rfl (qT F rfl (fun w l=>xBf F rfl rfl P) fun a F=>qJ 6 rfl (qT F rfl (fun w l=>pF fB kC (fun w=>by simp [xI];rfl) F rfl rfl rfl rfl (oc rfl on) rfl rfl) fun a F=>kT H 7 rfl (oA kC F rfl rfl H fun a w b5 H F=>xJ ⟨⟨_,H⟩,?_⟩)));exact H1 b5 _ _ (F.su) (H.s [0,2] rfl rfl) (show xS 0 by decide) (show xS 0 by decide) (show xS 0 by decide) (show xS 0 by decide) (show xS 0 by decide) (show xS 0 by decide) (show xS 0 by decide) (show xS 0 by decide) (bD P) (show xS 0 by decide) (show xS 0 by decide) (show xS 0 by decide) _ (by kernel_rfl)
  refine aM H (oA kC F rfl rfl H fun a w b6 H F=>xJ ⟨⟨_,H⟩,?_⟩);exact H2 b6 v3 _ _ (F.su) H (show xS 0 by decide) (show xS 0 by decide) (show xS 0 by decide) (show xS 0 by decide) (show xS 0 by decide) (show xS 0 by decide) (show xS 0 by decide) (show xS 0 by decide) Y _ (by kernel_rfl)
 refine aM H (oA kC F rfl rfl H fun a w b7 H F=>xJ ⟨⟨_,H⟩,?_⟩);refine kT H 0 rfl (oG F rfl call48 rfl (mZ Z c3 _ aA) (fun a t w ⟨v4,ce,S⟩ F=>?_));subst t;have H:=H.r1 S n0;refine xJ ⟨⟨_,H⟩,?_⟩;exact H2 b7 v4 _ _ (F.su) (H.s [1,0,2] rfl rfl) (show xS 0 by decide) (show xS 0 by decide) (show xS 0 by decide) (show xS 0 by decide) (show xS 0 by decide) (show xS 0 by decide) (show xS 0 by decide) (show xS 0 by decide) Y _ (by kernel_rfl)
end Go.Proofs.YtfmnjkpddljdcaaGreatDoor
