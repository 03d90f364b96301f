import Derived.Test.YtghihmkhdhjhiaaGreatDoorQ0
import Derived.Test.YtghihmkhdhjhiaaGreatDoorGB
namespace Go.Proofs.YtghihmkhdhjhiaaGreatDoor
open Go.Proofs.Tryz
set_option maxHeartbeats 1000000
set_option linter.unusedVariables false
set_option linter.unusedSimpArgs false
set_option maxRecDepth 100000
open Go.RowKit
def zD (c:Line):Option (List Int):=
 xZ (ck (c.kind - 1)) fun d=>
 xZ (ix ([2,3,1]) d) fun e=>
 xZ (sl ([c.var,c.value,c.con]) 0 e) fun f=>
 some f
theorem cG {B:Nat→Prop} {e:Line} (r:(List Int)) (f:zD e=some r) {C:Value} (n:World) (J:∀ c,B c→c<n.heap.size) (K:Bo B n (kJ 4 oP) C e):Calls Tryz.prog 65 #[C] n (Gv (fun v w'=>∃ (E:Value),v=E∧Sep [] B n w' [rl 1 xI 2 E r])):=by
 unfold zD at f
 refine xW (L:=[(0,C)]) func65 rfl rfl rfl (sc rfl sn) (fun a F=>?_);have H:=Sep.start J;refine xV ?_;obtain⟨rfl,i1,p,t,y⟩:=oP.o K;refine oX F rfl rfl rfl H fun a w b1 H F=>xA 1 F rfl fun a F=>xG (xF ?_);obtain⟨Z,M,f⟩:=xB f;obtain⟨z1,D,f⟩:=xB f;obtain⟨z2,A,f⟩:=xB f;obtain⟨w1,rfl⟩:∃ x,x=w:=⟨_,rfl⟩;have a0:=H.sm;obtain⟨X1,N1,N,e1,H,j,a1⟩:=H.fza;have K1:=N.bk;refine xD H (by kernel_rfl) fun w H=>oV 0 rfl (by kernel_rfl) (xN F rfl (fun w l=>xU iS F rfl rfl) fun a F=>oV 1 rfl (by kernel_rfl) (vB isAgg2 F rfl rfl (K1.v H.sm) rfl fun a F=>oV 2 rfl (by kernel_rfl) (xN F rfl (fun w l=>xU nO F rfl rfl) fun a F=>oV 3 rfl (by kernel_rfl) (vB isAgg2 F rfl rfl (K1.v H.sm) rfl fun a F=>oV 4 rfl (by kernel_rfl) (xN F rfl (fun w l=>xU xBn F rfl rfl) (fun a F=>?_))))));refine oV 5 rfl (by kernel_rfl) (vB isAgg2 F rfl rfl (K1.v H.sm) rfl fun a F=>oV 8 rfl (by kernel_rfl) (xN F rfl (fun w l=>xU xBe F rfl rfl) fun a F=>oV 9 rfl (by kernel_rfl) (vB isAgg2 F rfl rfl (K1.v H.sm) rfl fun a F=>qP 10 rfl (by kernel_rfl) (xN F rfl (fun w l=>mX F rfl rfl M) fun a F=>kH [6,7] (by kernel_rfl) (by simp) ⟨⟨_,rfl,?_⟩,⟨_,rfl,?_⟩,trivial⟩))))
 ·
  refine kC H (oRI (xs:=[.tmp 4,.tmp 6,.tmp 8]) (l:=[e.var,e.value,e.con]) underlying32 sizeOf2 zeroValue2 rfl F rfl rfl rfl rfl rfl rfl (by simp only[List.forall_mem_cons,List.not_mem_nil,false_implies,implies_true,and_true];exact⟨p,t,y⟩) H fun a w v1 H F=>xG ⟨⟨_,H⟩,?_⟩);refine xE H 7 rfl (by kernel_rfl) (oRI (xs:=[.const (xC 2),.const (xC 3),.const (xC 1)]) (l:=[2,3,1]) underlying168 sizeOf3 zeroValue3 rfl F rfl rfl rfl rfl rfl rfl (by simp only[List.forall_mem_cons,List.not_mem_nil,false_implies,implies_true,and_true];exact⟨(show xO (2) by decide),(show xO (3) by decide),(show xO (1) by decide)⟩) H fun a w v2 H F=>xG ⟨⟨_,H⟩,?_⟩);refine xE H 11 rfl (by kernel_rfl) ?_;obtain⟨w2,rfl⟩:∃ x,x=w:=⟨_,rfl⟩;have a2:=H.sm;obtain⟨X2,N2,O,e2,H,h,a3⟩:=H.fza;have P:=O.ld;refine oI underlying168 sizeOf3 F rfl rfl rfl P D fun a p1 Q F=>xG ⟨⟨_,(h.1 H (Ns.all ⟨n0,trivial⟩))⟩,?_⟩;refine xE (h.1 H (Ns.all ⟨n0,trivial⟩)) 12 rfl (by kernel_rfl) (olI isAgg3 F rfl rfl H.sm Q fun a i64 F=>xG ⟨⟨_,(h.1 H (Ns.all ⟨n0,trivial⟩))⟩,?_⟩);refine xE (h.1 H (Ns.all ⟨n0,trivial⟩)) 13 rfl (by kernel_rfl) (oT underlying32 sizeOf2 F rfl rfl rfl H.lw A (fun a R H F=>?_));have H:=H.tl;refine xG ⟨⟨_,(h.1 H (Ns.all ⟨n0,trivial⟩))⟩,?_⟩;refine qP 14 rfl (by kernel_rfl) (xN F rfl (fun w l=>qU F rfl) fun a F=>vP (by kernel_rfl) (xH (xP ?_)));have H:=(j.1 (h.1 H (Ns.all ⟨n0,trivial⟩)) (Ns.all ⟨n0,⟨n0,trivial⟩⟩));refine xR F rfl (xX F rfl) ?_;obtain rfl:=oj f;exact⟨_,rfl,R,rfl,(H.s [2] rfl rfl)⟩
 refine kC H (oRI (xs:=[.const (xC 2),.const (xC 3),.const (xC 1)]) (l:=[2,3,1]) underlying168 sizeOf3 zeroValue3 rfl F rfl rfl rfl rfl rfl rfl (by simp only[List.forall_mem_cons,List.not_mem_nil,false_implies,implies_true,and_true];exact⟨(show xO (2) by decide),(show xO (3) by decide),(show xO (1) by decide)⟩) H fun a w v4 H F=>xG ⟨⟨_,H⟩,?_⟩);refine kH [6,11] (by kernel_rfl) (by simp) ⟨⟨_,rfl,?_⟩,⟨_,rfl,?_⟩,trivial⟩
 ·
  refine kC H (oRI (xs:=[.tmp 4,.tmp 6,.tmp 8]) (l:=[e.var,e.value,e.con]) underlying32 sizeOf2 zeroValue2 rfl F rfl rfl rfl rfl rfl rfl (by simp only[List.forall_mem_cons,List.not_mem_nil,false_implies,implies_true,and_true];exact⟨p,t,y⟩) H fun a w v5 H F=>xG ⟨⟨_,H⟩,?_⟩);refine xE H 11 rfl (by kernel_rfl) ?_;obtain⟨w3,rfl⟩:∃ x,x=w:=⟨_,rfl⟩;have a4:=H.sm;obtain⟨X3,N3,S,e3,H,i,a5⟩:=(H.s [1,0] rfl rfl).fza;have T:=S.ld;refine oI underlying168 sizeOf3 F rfl rfl rfl T D fun a p2 U F=>xG ⟨⟨_,(i.1 H (Ns.all ⟨n0,trivial⟩))⟩,?_⟩;refine xE (i.1 H (Ns.all ⟨n0,trivial⟩)) 12 rfl (by kernel_rfl) (olI isAgg3 F rfl rfl H.sm U fun a i5 F=>xG ⟨⟨_,(i.1 H (Ns.all ⟨n0,trivial⟩))⟩,?_⟩);refine xE (i.1 H (Ns.all ⟨n0,trivial⟩)) 13 rfl (by kernel_rfl) (oT underlying32 sizeOf2 F rfl rfl rfl H.lw A (fun a V H F=>?_));have H:=H.tl;refine xG ⟨⟨_,(i.1 H (Ns.all ⟨n0,trivial⟩))⟩,?_⟩;refine qP 14 rfl (by kernel_rfl) (xN F rfl (fun w l=>qU F rfl) fun a F=>vP (by kernel_rfl) (xH (xP ?_)));have H:=(j.1 (i.1 H (Ns.all ⟨n0,trivial⟩)) (Ns.all ⟨n0,⟨n0,trivial⟩⟩));refine xR F rfl (xX F rfl) ?_;obtain rfl:=oj f;exact⟨_,rfl,V,rfl,(H.s [2] rfl rfl)⟩
 refine kC H ?_;obtain⟨w4,rfl⟩:∃ x,x=w:=⟨_,rfl⟩;have a6:=H.sm;obtain⟨X4,N4,W,e4,H,d,a7⟩:=H.fza;have X:=W.ld;refine oI underlying168 sizeOf3 F rfl rfl rfl X D fun a p3 G F=>xG ⟨⟨_,(d.1 H (Ns.all trivial))⟩,?_⟩;refine kH [6,12] (by kernel_rfl) (by simp) ⟨⟨_,rfl,?_⟩,⟨_,rfl,?_⟩,trivial⟩
 ·
  refine kC (d.1 H (Ns.all trivial)) (oRI (xs:=[.tmp 4,.tmp 6,.tmp 8]) (l:=[e.var,e.value,e.con]) underlying32 sizeOf2 zeroValue2 rfl F rfl rfl rfl rfl rfl rfl (by simp only[List.forall_mem_cons,List.not_mem_nil,false_implies,implies_true,and_true];exact⟨p,t,y⟩) H fun a w v7 H F=>xG ⟨⟨_,(d.1 H (Ns.all ⟨n0,trivial⟩))⟩,?_⟩);refine xE (d.1 H (Ns.all ⟨n0,trivial⟩)) 12 rfl (by kernel_rfl) (olI isAgg3 F rfl rfl H.sm G fun a i6 F=>xG ⟨⟨_,(d.1 H (Ns.all ⟨n0,trivial⟩))⟩,?_⟩);refine xE (d.1 H (Ns.all ⟨n0,trivial⟩)) 13 rfl (by kernel_rfl) (oT underlying32 sizeOf2 F rfl rfl rfl H.lw A (fun a Y H F=>?_));have H:=H.tl;refine xG ⟨⟨_,(d.1 H (Ns.all ⟨n0,trivial⟩))⟩,?_⟩;refine qP 14 rfl (by kernel_rfl) (xN F rfl (fun w l=>qU F rfl) fun a F=>vP (by kernel_rfl) (xH (xP ?_)));have H:=(j.1 (d.1 H (Ns.all ⟨n0,trivial⟩)) (Ns.all ⟨n0,⟨n0,trivial⟩⟩));refine xR F rfl (xX F rfl) ?_;obtain rfl:=oj f;exact⟨_,rfl,Y,rfl,(H.s [2] rfl rfl)⟩
 refine kC (d.1 H (Ns.all trivial)) (olI isAgg3 F rfl rfl H.sm G fun a i7 F=>xG ⟨⟨_,(d.1 H (Ns.all trivial))⟩,?_⟩);refine xE (d.1 H (Ns.all trivial)) 6 rfl (by kernel_rfl) (oRI (xs:=[.tmp 4,.tmp 6,.tmp 8]) (l:=[e.var,e.value,e.con]) underlying32 sizeOf2 zeroValue2 rfl F rfl rfl rfl rfl rfl rfl (by simp only[List.forall_mem_cons,List.not_mem_nil,false_implies,implies_true,and_true];exact⟨p,t,y⟩) H fun a w v9 H F=>xG ⟨⟨_,(d.1 H (Ns.all ⟨n0,trivial⟩))⟩,?_⟩);refine xE (d.1 H (Ns.all ⟨n0,trivial⟩)) 13 rfl (by kernel_rfl) (oT underlying32 sizeOf2 F rfl rfl rfl H.lw A (fun a I H F=>?_));have H:=H.tl;refine xG ⟨⟨_,(d.1 H (Ns.all ⟨n0,trivial⟩))⟩,?_⟩;refine qP 14 rfl (by kernel_rfl) (xN F rfl (fun w l=>qU F rfl) fun a F=>vP (by kernel_rfl) (xH (xP ?_)));have H:=(j.1 (d.1 H (Ns.all ⟨n0,trivial⟩)) (Ns.all ⟨n0,⟨n0,trivial⟩⟩));refine xR F rfl (xX F rfl) ?_;obtain rfl:=oj f;exact⟨_,rfl,I,rfl,(H.s [2] rfl rfl)⟩
def fD (c:Int):Option Bool:=
 some ((c != 0))
theorem rA {B:Nat→Prop} {d:Int} (r:Bool) (f:fD d=some r)  (e:World) (h:∀ c,B c→c<e.heap.size) (i:xO d):Calls Tryz.prog 107 #[xC d] e (kU (.bool r) e):=by
 unfold fD at f
 refine xW (L:=[(0,xC d)]) func107 rfl rfl rfl (sc rfl sn) (fun a F=>?_);have H:=Sep.start h;refine xV (xA 1 F rfl fun a F=>vE (xA 3 F rfl fun a F=>zE ?_));refine xH (xP (xR F rfl (xX F rfl) ?_));obtain rfl:=oj f;exact⟨rfl,H.bl⟩
def eT (c:Line):Option Bool:=
 zW (σ:=Bool) (
  xZ (kD c.kind 1 3) fun d=>
  if (!d) then  some (.nx true) else  xZ (zO 1000 ([c.var,c.value,c.con]) 3) fun e=>
   some (.nx (!e))) fun f=>
 if f then
  some false
 else
  xZ (zD (Line.mk c.kind c.var c.value c.con)) fun h=>
  xZ (sl ([c.var,c.value,c.con]) (h.length:Int) (([c.var,c.value,c.con]).length:Int)) fun i=>
  xZ (qT i (fun j=>fD j)) fun n=>
  some ((!n))
theorem sU {B:Nat→Prop} {e:Line} (r:Bool) (d:eT e=some r) {n:Value} (i:World) (J:∀ c,B c→c<i.heap.size) (K:Bo B i (kJ 4 oP) n e):Calls Tryz.prog 63 #[n] i (kU (.bool r) i):=by
 unfold eT at d
 refine xW (L:=[(0,n)]) func63 rfl rfl rfl (sc rfl sn) (fun a F=>?_);have H:=Sep.start J;refine xV ?_;obtain⟨rfl,x,y,A,C⟩:=oP.o K;refine oX F rfl rfl rfl H fun a w D H F=>xA 1 F rfl fun a F=>vE (oD iS F rfl rfl rfl fun a F=>oB isAgg2 F rfl rfl (H.b 0 rfl) rfl fun a F=>oD nO F rfl rfl rfl fun a F=>oB isAgg2 F rfl rfl (H.b 0 rfl) rfl fun a F=>oD xBn F rfl rfl rfl (fun a F=>?_));refine oB isAgg2 F rfl rfl (H.b 0 rfl) rfl fun a F=>oRI (xs:=[.tmp 5,.tmp 7,.tmp 9]) (l:=[e.var,e.value,e.con]) underlying32 sizeOf2 zeroValue2 rfl F rfl rfl rfl rfl rfl rfl (by simp only[List.forall_mem_cons,List.not_mem_nil,false_implies,implies_true,and_true];exact⟨y,A,C⟩) H fun a w t H F=>xA 1 F rfl fun a F=>xG (xF (xF ?_));obtain⟨M,d,I⟩:=xT d;refine oR (fun a w=>∃ (p:Bool),M= .nx p∧Sk a 27 [(1,qC D),(3,t),(19,.bool p)]∧Sep [] B i w [rl 1 xI 2 t ([e.var,e.value,e.con]),bx D [xC e.kind,xC e.var,xC e.value,xC e.con] 77]) ?_ ?_
 ·
  refine oM (oD xBe F rfl rfl rfl fun a F=>oB isAgg2 F rfl rfl (H.b 1 rfl) rfl (fun a F=>?_));obtain⟨E,N,d⟩:=xB d;refine oK F rfl call47 rfl H (aJ E N _ aA x (show xO (1) by decide) (show xO (3) by decide)) fun a w H F=>xA 2 F rfl fun a F=>?_
  rcases vJ (!E) with f | f
  ·
   replace d:=vY f d;have F:=F.eb 15 rfl f;refine xA 4 F rfl fun a F=>xG ?_;exact⟨true,(zL d),F.su,H⟩
  replace d:=vX f d;have F:=F.eb 15 rfl f;refine xA 1 F rfl fun a F=>?_;obtain⟨G,O,d⟩:=xB d;refine oK F rfl call53 rfl H (fB G O _ aA (show xO (1000) by decide) (H.l 0 rfl) (show xO (3) by decide)) fun a w H F=>xA 2 F rfl fun a F=>xG ?_;exact⟨(!G),(zL d),F.su,H⟩
 rintro a w ⟨p,rfl,F,H⟩
 have d:=xY I;refine xH (qS F rfl (fun j=>?_) (fun j=>?_))
 ·
  replace d:=vY j d;refine xV (xA 1 F rfl fun a F=>xG (xP (oJ (xR F rfl (xX F rfl) ?_))));obtain rfl:=oj d;exact⟨rfl,H.bl⟩
 replace d:=vX j d;refine xS (xH (xV (xA 1 F rfl fun a F=>fJ isAgg77 sizeOf77 F rfl rfl (H.b 1 rfl) rfl rfl (fun a F=>?_))));obtain⟨P,Q,d⟩:=xB d;refine oG F rfl call65 rfl (cG P Q _ aA (oP.m x y A C)) (fun a R w ⟨Z,Y,S⟩ F=>?_);subst R;have H:=H.r1 S n0;refine oL underlying32 F rfl rfl (H.l 0 rfl) (fun a i5 F=>?_);obtain⟨z4,T,d⟩:=xB d;refine oC underlying32 sizeOf2 F rfl rfl rfl rfl (H.l 1 rfl) T (fun a v2 U F=>?_);obtain⟨V,X,d⟩:=xB d;refine oK F rfl call93 rfl H (bQ V X _ aA U call107 (fun a0 r h W l1 f0=>rA r h W aA f0)) fun a w H F=>xA 2 F rfl fun a F=>xG (xP (xR F rfl (xX F rfl) ?_));obtain rfl:=oj d;exact⟨rfl,H.bl⟩
def dM:Option (List ByteArray):=
 some ([(qW [99,104,111,111,115,101]),(qW [114,101,109,111,118,101]),(qW [101,109,112,116,121])])
theorem iD {B:Nat→Prop} (r:(List ByteArray)) (f:dM=some r)  (d:World) (h:∀ c,B c→c<d.heap.size):Calls Tryz.prog 60 #[] d (Gv (fun v w'=>∃ (e:Value),v=e∧Sep [] B d w' [rl 1 jP 9 e r])):=by
 unfold dM at f
 refine xW (L:=[]) func60 rfl rfl rfl sn (fun a F=>?_);have H:=Sep.start h;refine xV (xA 1 F rfl fun a F=>vE (oRE Value.string _ xNi (fun _=>rfl) (xs:=[.const (.string (qW [99,104,111,111,115,101])),.const (.string (qW [114,101,109,111,118,101])),.const (.string (qW [101,109,112,116,121]))]) (l:=[(qW [99,104,111,111,115,101]),(qW [114,101,109,111,118,101]),(qW [101,109,112,116,121])]) underlying86 sizeOf9 zeroValue9 rfl F rfl rfl rfl rfl rfl rfl (by simp only[List.forall_mem_cons,List.not_mem_nil,false_implies,implies_true,and_true];exact⟨(by decide),(by decide),(by decide)⟩) H fun a w i H F=>xA 1 F rfl fun a F=>xG ?_));refine xP (xR F rfl (xX F rfl) ?_);obtain rfl:=oj f;exact⟨_,rfl,i,rfl,H⟩
def jG (c:Int):Option ByteArray:=
 xZ (cX c 10) fun d=>
 some d
theorem yA {B:Nat→Prop} {d:Int} (r:ByteArray) (e:jG d=some r)  (f:World) (i:∀ c,B c→c<f.heap.size) (hG:Glo f) (h:xO d):Calls Tryz.prog 106 #[xC d] f (Gv (fun v w'=>v= .string r∧Sep [] B f w' []∧r.size≤maxLen)):=by
 unfold jG at e
 refine xW (L:=[(0,xC d)]) func106 rfl rfl rfl (sc rfl sn) (fun a F=>?_);have H:=Sep.start i;refine xV (xA 1 F rfl fun a F=>vE (xA 1 F rfl fun a F=>?_));obtain⟨j,n,e⟩:=xB e;refine oG F rfl call140 rfl (pR j n _ aA (hG.go H.bl) h (show xO (10) by decide)) (fun a p w ⟨x,S,t⟩ F=>?_);subst p;have H:=H.r0 S;refine xA 1 F rfl fun a F=>xG (xP (xR F rfl (xX F rfl) ?_));obtain rfl:=oj e;exact⟨_,rfl,rfl,H,t⟩
def gD (c:List Int):Option ByteArray:=
 zW (σ:=(List ByteArray)) (
  qR (σ:=(List ByteArray)) (ρ:=ByteArray) (fun (n:Nat) (d:Int) (e:(List ByteArray))=>
   xZ (jG d) fun f=>
   xZ (ap e ([f])) fun h=>
   some (.go h)) c 0 []) fun i=>
 xZ (gO i (qW [32])) fun j=>
 some j
theorem eF {B:Nat→Prop} {f:List Int} (r:ByteArray) (d:gD f=some r) {n:Value} (h:World) (P:∀ c,B c→c<h.heap.size) (hG:Glo h) (D:Bo B h (Sl 1 xI) n f):Calls Tryz.prog 64 #[n] h (Gv (fun v w'=>v= .string r∧Sep [] B h w' []∧r.size≤maxLen)):=by
 unfold gD at d
 refine xW (L:=[(0,n)]) func64 rfl rfl rfl (sc rfl sn) (fun a F=>?_);have H:=Sep.start P;refine xV (xA 1 F rfl fun a F=>vE (oR0 (R:=jP) underlying86 sizeOf9 F rfl H fun a w Q H F=>xA 1 F rfl fun a F=>xG ?_));refine xF (xV (xA 1 F rfl fun a F=>oL underlying32 F rfl rfl D fun a E F=>xA 1 F rfl fun a F=>xG ?_));obtain⟨G,d,J⟩:=xT d;refine oR (fun a w=>∃ (x:List ByteArray) (A:Value),G= .nx x∧Sk a 21 [(3,A)]∧Sep [] B h w [rl 1 jP 9 A x]) ?_ ?_
 ·
  refine oQ ?_;obtain⟨K,M,d⟩:=qZ d;refine qY (fun g a w=>∃ (j:Nat) (i:List Int) (p:List ByteArray) (t:Value),(j≤f.length∧f.drop j=i)∧i.length=g∧qR K i j p=some G∧Sk a 21 [(9,xC (j:Int)),(3,t),(7,n),(8,xC (f.length:Int))]∧Sep [] B h w [rl 1 jP 9 t p]) f.length ?_ ?_
  ·
   exact⟨0,f,[],Q,⟨Nat.zero_le _,rfl⟩,rfl,d,F.su,H⟩
  intro g1 a w ⟨j,i,p,t,e,N,d,F,H⟩
  cases i with
  | nil=>
   replace d:=vA d;have T:=vC e.1 e.2;have l1:=zK T;refine xV (xA 1 F rfl fun a F=>xG (xF (zS F rfl l1 (qV (qX (qX (kF ?_)))))));refine xH ?_;exact⟨p,t,(zL d),F.su,H⟩
  | cons x1 i=>
   subst N;replace e:=qE e.2;have U:=vH e.2.1;obtain⟨a7,d,O⟩:=qM d;rw[M] at d;have l1:=vR e.1;refine xV (xA 1 F rfl fun a F=>xG (xF (zQ F rfl l1 (xS (xH (xF ?_))))));have j1:=k64 (Nat.le_of_lt e.1) E;have V:=kO e.1 E;refine oQ (xV (oI underlying32 sizeOf2 F rfl rfl rfl D U fun a p1 W F=>olI isAgg2 F rfl rfl H.sm W fun a X F=>xA 1 F rfl fun a F=>xG (oM (xA 2 F rfl fun a F=>?_))));obtain⟨I,Y,d⟩:=xB d;refine oG F rfl call106 rfl (yA I Y _ aA (hG.go H.bl) X) (fun a C w ⟨a8,S,Z⟩ F=>?_);subst C;have H:=H.r0 S;refine dF (R:=jP) (y:=I) underlying86 sizeOf9 zeroValue9 rfl rfl F rfl rfl H (Eo.str Z) (fun a w v4 H F=>?_);obtain⟨z2,c2,d⟩:=xB d;refine oPL (sz:=1) (R:=jP) (z:=(.string ByteArray.empty)) (bytes:=16) underlying86 (by kernel_rfl) rfl rfl F rfl rfl rfl (H.s [1,0] rfl rfl) c2 fun a w v5 H F=>xA 1 F rfl fun a F=>zE (vK (xH (oM (zG F rfl rfl rfl V fun a F=>xA 1 F rfl fun a F=>xG ?_))));replace d:=zM d O;exact⟨_,Nat.lt_succ_self _,j+1,i,z2,v5,⟨e.1,e.2.2⟩,rfl,d,F.su,H⟩
 rintro a w ⟨x,A,rfl,F,H⟩
 have d:=xY J;refine xH (xV (xA 1 F rfl fun a F=>?_));obtain⟨z3,c3,d⟩:=xB d;refine oG F rfl call108 rfl (uQ z3 c3 _ aA (H.l 0 rfl) (by decide)) (fun a C w ⟨a6,S,i4⟩ F=>?_);subst C;have H:=H.r0 S;refine xA 1 F rfl fun a F=>xG (xP (xR F rfl (xX F rfl) ?_));obtain rfl:=oj d;exact⟨_,rfl,rfl,(H.s [] rfl rfl),i4⟩
def bV (c:Line):Option ByteArray:=
 xZ (eT (Line.mk c.kind c.var c.value c.con)) fun d=>
 if (!d) then
  some ((qW []))
 else
  xZ (ck (c.kind - 1)) fun e=>
  xZ (dM) fun f=>
  xZ (ix f e) fun h=>
  xZ (wV h (qW [32])) fun i=>
  xZ (zD (Line.mk c.kind c.var c.value c.con)) fun j=>
  xZ (gD j) fun n=>
  xZ (wV i n) fun p=>
  some p
theorem mV {B:Nat→Prop} {P:Line} (r:ByteArray) (d:bV P=some r) {J:Value} (y:World) (T:∀ c,B c→c<y.heap.size) (hG:Glo y) (U:Bo B y (kJ 4 oP) J P):Calls Tryz.prog 36 #[J] y (Gv (fun v w'=>v= .string r∧Sep [] B y w' []∧r.size≤maxLen)):=by
 unfold bV at d
 refine xW (L:=[(0,J)]) func36 rfl rfl rfl (sc rfl sn) (fun a F=>?_);have H:=Sep.start T;refine xV ?_;obtain⟨rfl,C,D,E,G⟩:=oP.o U;refine oX F rfl rfl rfl H fun a w b1 H F=>xA 1 F rfl fun a F=>xG (xF (xV (fJ isAgg77 sizeOf77 F rfl rfl (H.b 0 rfl) rfl rfl (fun a F=>?_))));obtain⟨R,V,d⟩:=xB d;refine oK F rfl call63 rfl H (sU R V _ aA (oP.m C D E G)) fun a w H F=>xA 1 F rfl fun a F=>xG (qS F rfl (fun I=>?_) (fun I=>?_))
 ·
  replace d:=vY I d;refine xV (xA 1 F rfl fun a F=>xG (xP (oJ (xR F rfl (xX F rfl) ?_))));obtain rfl:=oj d;exact⟨_,rfl,rfl,(H.s [] rfl rfl),(by decide)⟩
 replace d:=vX I d;refine xS (xH (xF ?_));obtain⟨z1,W,d⟩:=xB d;obtain⟨X,Y,d⟩:=xB d;obtain⟨z3,K,d⟩:=xB d;obtain⟨z4,n,d⟩:=xB d;obtain⟨M,N,d⟩:=xB d;obtain⟨p,t,d⟩:=xB d;obtain⟨z7,j,d⟩:=xB d;obtain⟨w1,rfl⟩:∃ x,x=w:=⟨_,rfl⟩;have a8:=H.sm;obtain⟨X1,N1,Z,e1,H,i,a9⟩:=H.fza;have K1:=Z.bk;refine xD H (by kernel_rfl) fun w H=>oV 1 rfl (by kernel_rfl) (xN F rfl (fun w l=>xU xBe F rfl rfl) fun a F=>oV 2 rfl (by kernel_rfl) (vB isAgg2 F rfl rfl (K1.v H.sm) rfl fun a F=>qP 3 rfl (by kernel_rfl) (xN F rfl (fun w l=>mX F rfl rfl W) fun a F=>oV 7 rfl (by kernel_rfl) (vBA isAgg77 sizeOf77 F rfl rfl (K1.v H.sm) rfl rfl fun a F=>xE H 0 rfl (by kernel_rfl) (oG F rfl call60 rfl (iD X Y _ aA) (fun a f w ⟨v1,a7,S⟩ F=>?_))))));subst f;have H:=H.r1 S n0;refine xG ⟨⟨_,H⟩,?_⟩;refine kH [4,8] (by kernel_rfl) (by simp) ⟨⟨_,rfl,?_⟩,⟨_,rfl,?_⟩,trivial⟩
 ·
  refine kC H ?_;obtain⟨w2,rfl⟩:∃ x,x=w:=⟨_,rfl⟩;have aa:=H.sm;obtain⟨X2,N2,g2,e2,H,e,ab⟩:=H.fza;have h1:=g2.ld;refine oI underlying86 sizeOf9 F rfl rfl rfl h1 K fun a p1 O F=>xG ⟨⟨_,(e.1 H (Ns.all trivial))⟩,?_⟩;refine kH [5,8] (by kernel_rfl) (by simp) ⟨⟨_,rfl,?_⟩,⟨_,rfl,?_⟩,trivial⟩
  ·
   refine kC (e.1 H (Ns.all trivial)) (olT isAgg9 F rfl rfl H.sm O fun a i5 F=>xG ⟨⟨_,(e.1 H (Ns.all trivial))⟩,?_⟩);refine qP 6 rfl (by kernel_rfl) (xN F rfl (fun w l=>iG F rfl rfl n) fun a F=>xE (e.1 H (Ns.all trivial)) 8 rfl (by kernel_rfl) (oG F rfl call65 rfl (cG M N _ aA (oP.m C D E G)) (fun a f w ⟨v2,ac,S⟩ F=>?_)));subst f;have H:=H.r1 S n0;refine xG ⟨⟨_,(e.1 H (Ns.all ⟨n0,trivial⟩))⟩,?_⟩;refine xE (e.1 H (Ns.all ⟨n0,trivial⟩)) 9 rfl (by kernel_rfl) (oG F rfl call64 rfl (eF p t _ aA (hG.go (i.1 (e.1 H (Ns.all ⟨n0,trivial⟩)) (Ns.all ⟨n0,⟨n0,trivial⟩⟩)).bl) (H.l 0 rfl)) (fun a f w ⟨ad,S,i6⟩ F=>?_));subst f;have H:=H.r0 S;refine xG ⟨⟨_,(e.1 H (Ns.all ⟨n0,trivial⟩))⟩,?_⟩;refine qP 10 rfl (by kernel_rfl) (xN F rfl (fun w l=>iG F rfl rfl j) fun a F=>qP 11 rfl (by kernel_rfl) (xN F rfl (fun w l=>qU F rfl) fun a F=>vP (by kernel_rfl) (xH (xP ?_))));have H:=(i.1 (e.1 H (Ns.all ⟨n0,trivial⟩)) (Ns.all ⟨n0,⟨n0,trivial⟩⟩));refine xR F rfl (xX F rfl) ?_;obtain rfl:=oj d;exact⟨_,rfl,rfl,(H.s [] rfl rfl),(pA j)⟩
  refine kC (e.1 H (Ns.all trivial)) (oG F rfl call65 rfl (cG M N _ aA (oP.m C D E G)) (fun a f w ⟨v3,ae,S⟩ F=>?_));subst f;have H:=H.r1 S n0;refine xG ⟨⟨_,(e.1 H (Ns.all ⟨n0,trivial⟩))⟩,?_⟩;refine kH [5,9] (by kernel_rfl) (by simp) ⟨⟨_,rfl,?_⟩,⟨_,rfl,?_⟩,trivial⟩
  ·
   refine kC (e.1 H (Ns.all ⟨n0,trivial⟩)) (olT isAgg9 F rfl rfl H.sm O fun a i7 F=>xG ⟨⟨_,(e.1 H (Ns.all ⟨n0,trivial⟩))⟩,?_⟩);refine qP 6 rfl (by kernel_rfl) (xN F rfl (fun w l=>iG F rfl rfl n) fun a F=>xE (e.1 H (Ns.all ⟨n0,trivial⟩)) 9 rfl (by kernel_rfl) (oG F rfl call64 rfl (eF p t _ aA (hG.go (i.1 (e.1 H (Ns.all ⟨n0,trivial⟩)) (Ns.all ⟨n0,⟨n0,trivial⟩⟩)).bl) (H.l 0 rfl)) (fun a f w ⟨af,S,i8⟩ F=>?_)));subst f;have H:=H.r0 S;refine xG ⟨⟨_,(e.1 H (Ns.all ⟨n0,trivial⟩))⟩,?_⟩;refine qP 10 rfl (by kernel_rfl) (xN F rfl (fun w l=>iG F rfl rfl j) fun a F=>qP 11 rfl (by kernel_rfl) (xN F rfl (fun w l=>qU F rfl) fun a F=>vP (by kernel_rfl) (xH (xP ?_))));have H:=(i.1 (e.1 H (Ns.all ⟨n0,trivial⟩)) (Ns.all ⟨n0,⟨n0,trivial⟩⟩));refine xR F rfl (xX F rfl) ?_;obtain rfl:=oj d;exact⟨_,rfl,rfl,(H.s [] rfl rfl),(pA j)⟩
  refine kC (e.1 H (Ns.all ⟨n0,trivial⟩)) (oG F rfl call64 rfl (eF p t _ aA (hG.go (i.1 (e.1 H (Ns.all ⟨n0,trivial⟩)) (Ns.all ⟨n0,⟨n0,trivial⟩⟩)).bl) (H.l 0 rfl)) (fun a f w ⟨ag,S,i9⟩ F=>?_));subst f;have H:=H.r0 S;refine xG ⟨⟨_,(e.1 H (Ns.all ⟨n0,trivial⟩))⟩,?_⟩;refine xE (e.1 H (Ns.all ⟨n0,trivial⟩)) 5 rfl (by kernel_rfl) (olT isAgg9 F rfl rfl H.sm O fun a ah F=>xG ⟨⟨_,(e.1 H (Ns.all ⟨n0,trivial⟩))⟩,?_⟩);refine qP 6 rfl (by kernel_rfl) (xN F rfl (fun w l=>iG F rfl rfl n) fun a F=>qP 10 rfl (by kernel_rfl) (xN F rfl (fun w l=>iG F rfl rfl j) fun a F=>qP 11 rfl (by kernel_rfl) (xN F rfl (fun w l=>qU F rfl) fun a F=>vP (by kernel_rfl) (xH (xP ?_)))));have H:=(i.1 (e.1 H (Ns.all ⟨n0,trivial⟩)) (Ns.all ⟨n0,⟨n0,trivial⟩⟩));refine xR F rfl (xX F rfl) ?_;obtain rfl:=oj d;exact⟨_,rfl,rfl,(H.s [] rfl rfl),(pA j)⟩
 refine kC H (oG F rfl call65 rfl (cG M N _ aA (oP.m C D E G)) (fun a f w ⟨v4,ai,S⟩ F=>?_));subst f;have H:=H.r1 S n0;refine xG ⟨⟨_,H⟩,?_⟩;refine kH [4,9] (by kernel_rfl) (by simp) ⟨⟨_,rfl,?_⟩,⟨_,rfl,?_⟩,trivial⟩
 ·
  refine kC H ?_;obtain⟨w3,rfl⟩:∃ x,x=w:=⟨_,rfl⟩;have aj:=H.sm;obtain⟨X3,N3,g3,e3,H,h,ak⟩:=(H.s [1,0] rfl rfl).fza;have h3:=g3.ld;refine oI underlying86 sizeOf9 F rfl rfl rfl h3 K fun a p2 Q F=>xG ⟨⟨_,(h.1 H (Ns.all ⟨n0,trivial⟩))⟩,?_⟩;refine kH [5,9] (by kernel_rfl) (by simp) ⟨⟨_,rfl,?_⟩,⟨_,rfl,?_⟩,trivial⟩
  ·
   refine kC (h.1 H (Ns.all ⟨n0,trivial⟩)) (olT isAgg9 F rfl rfl H.sm Q fun a al F=>xG ⟨⟨_,(h.1 H (Ns.all ⟨n0,trivial⟩))⟩,?_⟩);refine qP 6 rfl (by kernel_rfl) (xN F rfl (fun w l=>iG F rfl rfl n) fun a F=>xE (h.1 H (Ns.all ⟨n0,trivial⟩)) 9 rfl (by kernel_rfl) (oG F rfl call64 rfl (eF p t _ aA (hG.go (i.1 (h.1 H (Ns.all ⟨n0,trivial⟩)) (Ns.all ⟨n0,⟨n0,trivial⟩⟩)).bl) (H.l 0 rfl)) (fun a f w ⟨am,S,an⟩ F=>?_)));subst f;have H:=H.r0 S;refine xG ⟨⟨_,(h.1 H (Ns.all ⟨n0,trivial⟩))⟩,?_⟩;refine qP 10 rfl (by kernel_rfl) (xN F rfl (fun w l=>iG F rfl rfl j) fun a F=>qP 11 rfl (by kernel_rfl) (xN F rfl (fun w l=>qU F rfl) fun a F=>vP (by kernel_rfl) (xH (xP ?_))));have H:=(i.1 (h.1 H (Ns.all ⟨n0,trivial⟩)) (Ns.all ⟨n0,⟨n0,trivial⟩⟩));refine xR F rfl (xX F rfl) ?_;obtain rfl:=oj d;exact⟨_,rfl,rfl,(H.s [] rfl rfl),(pA j)⟩
  refine kC (h.1 H (Ns.all ⟨n0,trivial⟩)) (oG F rfl call64 rfl (eF p t _ aA (hG.go (i.1 (h.1 H (Ns.all ⟨n0,trivial⟩)) (Ns.all ⟨n0,⟨n0,trivial⟩⟩)).bl) (H.l 0 rfl)) (fun a f w ⟨ao,S,aq⟩ F=>?_));subst f;have H:=H.r0 S;refine xG ⟨⟨_,(h.1 H (Ns.all ⟨n0,trivial⟩))⟩,?_⟩;refine xE (h.1 H (Ns.all ⟨n0,trivial⟩)) 5 rfl (by kernel_rfl) (olT isAgg9 F rfl rfl H.sm Q fun a ar F=>xG ⟨⟨_,(h.1 H (Ns.all ⟨n0,trivial⟩))⟩,?_⟩);refine qP 6 rfl (by kernel_rfl) (xN F rfl (fun w l=>iG F rfl rfl n) fun a F=>qP 10 rfl (by kernel_rfl) (xN F rfl (fun w l=>iG F rfl rfl j) fun a F=>qP 11 rfl (by kernel_rfl) (xN F rfl (fun w l=>qU F rfl) fun a F=>vP (by kernel_rfl) (xH (xP ?_)))));have H:=(i.1 (h.1 H (Ns.all ⟨n0,trivial⟩)) (Ns.all ⟨n0,⟨n0,trivial⟩⟩));refine xR F rfl (xX F rfl) ?_;obtain rfl:=oj d;exact⟨_,rfl,rfl,(H.s [] rfl rfl),(pA j)⟩
 refine kC H (oG F rfl call64 rfl (eF p t _ aA (hG.go (i.1 H (Ns.all ⟨n0,⟨n0,trivial⟩⟩)).bl) (H.l 0 rfl)) (fun a f w ⟨au,S,av⟩ F=>?_));subst f;have H:=H.r0 S;refine xG ⟨⟨_,H⟩,?_⟩;refine xE H 4 rfl (by kernel_rfl) ?_;obtain⟨w4,rfl⟩:∃ x,x=w:=⟨_,rfl⟩;have aw:=H.sm;obtain⟨X4,N4,g4,e4,H,A,ax⟩:=(H.s [1,0] rfl rfl).fza;have h5:=g4.ld;refine oI underlying86 sizeOf9 F rfl rfl rfl h5 K fun a p3 h6 F=>xG ⟨⟨_,(A.1 H (Ns.all ⟨n0,trivial⟩))⟩,?_⟩;refine xE (A.1 H (Ns.all ⟨n0,trivial⟩)) 5 rfl (by kernel_rfl) (olT isAgg9 F rfl rfl H.sm h6 fun a ay F=>xG ⟨⟨_,(A.1 H (Ns.all ⟨n0,trivial⟩))⟩,?_⟩);refine qP 6 rfl (by kernel_rfl) (xN F rfl (fun w l=>iG F rfl rfl n) fun a F=>qP 10 rfl (by kernel_rfl) (xN F rfl (fun w l=>iG F rfl rfl j) fun a F=>qP 11 rfl (by kernel_rfl) (xN F rfl (fun w l=>qU F rfl) fun a F=>vP (by kernel_rfl) (xH (xP ?_)))));have H:=(i.1 (A.1 H (Ns.all ⟨n0,trivial⟩)) (Ns.all ⟨n0,⟨n0,trivial⟩⟩));refine xR F rfl (xX F rfl) ?_;obtain rfl:=oj d;exact⟨_,rfl,rfl,(H.s [] rfl rfl),(pA j)⟩
def aP (d:List Line):Option ByteArray:=
 if (decide (4000<(d.length:Int))) then
  some ((qW []))
 else
  zW (σ:=ByteArray) (
   qR (σ:=ByteArray) (ρ:=ByteArray) (fun (n:Nat) (c:Line) (f:ByteArray)=>
    xZ (bV (Line.mk c.kind c.var c.value c.con)) fun e=>
    if (sEq e (qW [])) then
     some (.ret ((qW [])))
    else
     xZ (wV e (qW [10])) fun h=>
     xZ (bw f h) fun i=>
     some (.go i)) d 0 (qW [])) fun j=>
  some j
theorem mY {B:Nat→Prop} {i:List Line} (r:ByteArray) (d:aP i=some r) {p:Value} (f:World) (P:∀ c,B c→c<f.heap.size) (hG:Glo f) (D:Bo B f (Sl 4 oP) p i):Calls Tryz.prog 16 #[p] f (Gv (fun v w'=>v= .string r∧Sep [] B f w' []∧r.size≤maxLen)):=by
 unfold aP at d
 refine xW (L:=[(0,p)]) func16 rfl rfl rfl (sc rfl sn) (fun a F=>?_);have H:=Sep.start P;refine xV (xA 1 F rfl fun a F=>xG (xF (xV (xA 1 F rfl fun a F=>oL underlying35 F rfl rfl D fun a i1 F=>xA 1 F rfl fun a F=>?_))));refine xG (qS F rfl (fun A=>?_) (fun A=>?_))
 ·
  replace d:=vY A d;refine xV (xA 1 F rfl fun a F=>xG (xP (oJ (xR F rfl (xX F rfl) ?_))));obtain rfl:=oj d;exact⟨_,rfl,rfl,H,(by decide)⟩
 replace d:=vX A d;refine xS (xH (xV (oA zeroValue94 F rfl rfl H (fun a w t H F=>?_))));replace H:=H.bd;refine xG (xF (xV (xA 1 F rfl fun a F=>oL underlying35 F rfl rfl D fun a I F=>xA 1 F rfl fun a F=>xG ?_)));obtain⟨J,d,E⟩:=xT d;refine oR (fun a w=>∃ (x:ByteArray),J= .nx x∧Sk a 25 [(3,qC t)]∧Sep [] B f w [bd f.heap.size t x]∧x.size≤maxLen) ?_ ?_
 ·
  refine oQ ?_;obtain⟨M,N,d⟩:=qZ d;refine qY (fun g a w=>∃ (j:Nat) (h:List Line) (n:ByteArray),(j≤i.length∧i.drop j=h)∧h.length=g∧qR M h j n=some J∧Sk a 25 [(12,xC (j:Int)),(3,qC t),(10,p),(11,xC (i.length:Int))]∧Sep [] B f w [bd f.heap.size t n]∧n.size≤maxLen) i.length ?_ ?_
  ·
   exact⟨0,i,(qW []),⟨Nat.zero_le _,rfl⟩,rfl,d,F.su,H,(by decide)⟩
  intro g1 a w ⟨j,h,n,e,O,d,F,H,Q⟩
  cases h with
  | nil=>
   replace d:=vA d;have R:=vC e.1 e.2;have l1:=zK R;refine xV (xA 1 F rfl fun a F=>xG (xF (zS F rfl l1 (qV (qX (qX (kF ?_)))))));refine xH ?_;exact⟨n,(zL d),F.su,H,Q⟩
  | cons y h=>
   subst O;replace e:=qE e.2;have T:=vH e.2.1;obtain⟨a7,d,G⟩:=qM d;rw[N] at d;have l1:=vR e.1;refine xV (xA 1 F rfl fun a F=>xG (xF (zQ F rfl l1 (xS (xH (xF ?_))))));have j1:=k64 (Nat.le_of_lt e.1) I;have U:=kO e.1 I;refine oQ (xV (oI underlying35 sizeOf77 F rfl rfl rfl D T fun a p1 V F=>olA isAgg77 sizeOf77 F rfl rfl H.sm V fun a v1 W F=>oA zeroValue77 F rfl rfl H (fun a w b2 H F=>?_)));obtain⟨rfl,X,Y,Z,i7⟩:=oP.o W;refine eX (vs:=[xC y.kind,xC y.var,xC y.value,xC y.con]) sizeOf77 F rfl rfl rfl H (oc rfl (oc rfl (oc rfl (oc rfl on)))) rfl rfl fun w H=>vE (fJ isAgg77 sizeOf77 F rfl rfl (H.b 0 rfl) rfl rfl (fun a F=>?_));obtain⟨z1,c1,d⟩:=xB d;refine oG F rfl call36 rfl (mV z1 c1 _ aA (hG.go H.bl) (oP.m X Y Z i7)) (fun a vv w ⟨a8,S,i8⟩ F=>?_);subst vv;have H:=H.r0 S;refine xA 1 F rfl fun a F=>xG (xF (xV (xA 1 F rfl fun a F=>uN F rfl rfl rfl fun a F=>xG (qS F rfl (fun C=>?_) (fun C=>?_)))))
   ·
    replace d:=vY C d;refine xV (xA 1 F rfl fun a F=>xG (xP (oJ (vO (oJ (oJ ?_))))));replace d:=kK d G;refine vO (oJ ?_);replace d:=kI d E;refine oJ (xR F rfl (xX F rfl) ?_);obtain rfl:=oj d;exact⟨_,rfl,rfl,(H.s [] rfl rfl),(by decide)⟩
   replace d:=vX C d;refine xS (xH (oM (xA 1 F rfl fun a F=>?_)));obtain⟨z2,c2,d⟩:=xB d;refine xOh F rfl rfl rfl c2 (fun a F=>?_);obtain⟨z3,K,d⟩:=xB d;refine oBw F rfl call37 rfl rfl (H.s [1] rfl rfl) K fun a v w H F=>zE (vK (xH (oM (zG F rfl rfl rfl U fun a F=>xA 1 F rfl fun a F=>xG ?_))));replace d:=zM d G;exact⟨_,Nat.lt_succ_self _,j+1,h,z3,⟨e.1,e.2.2⟩,rfl,d,F.su,H,(xPc K)⟩
 rintro a w ⟨x,rfl,F,H,i9⟩
 have d:=xY E;refine xH (xV (oBs F rfl call38 rfl rfl H fun a w H F=>xA 1 F rfl fun a F=>xG (xP (xR F rfl (xX F rfl) ?_))));obtain rfl:=oj d;exact⟨_,rfl,rfl,H,i9⟩
def zH (c d:ByteArray):Option Bool:=
 zW (σ:=Bool) (
  if (decide ((d.size:Int)≤(c.size:Int))) then  xZ (ck ((c.size:Int) - (d.size:Int))) fun e=>
   xZ (ssl c e (c.size:Int)) fun f=>
   some (.nx (sEq f d)) else  some (.nx false)) fun h=>
 some h
theorem cS {B:Nat→Prop} {h e:ByteArray} (r:Bool) (d:zH h e=some r)  (i:World) (t:∀ c,B c→c<i.heap.size) (C:h.size≤maxLen) (D:e.size≤maxLen):Calls Tryz.prog 62 #[.string h,.string e] i (kU (.bool r) i):=by
 unfold zH at d
 refine xW (L:=[(0,.string h),(1,.string e)]) func62 rfl rfl rfl (sc rfl (sc rfl sn)) (fun a F=>?_);have H:=Sep.start t;refine xV (xA 1 F rfl fun a F=>xG (xF ?_));obtain⟨n,d,p⟩:=xT d;refine oR (fun a w=>∃ (j:Bool),n= .nx j∧Sk a 21 [(4,.bool j)]∧Sep [] B i w []) ?_ ?_
 ·
  refine oM (xA 1 F rfl fun a F=>jE underlying9 F rfl rfl fun a F=>xA 1 F rfl fun a F=>jE underlying9 F rfl rfl fun a F=>xA 2 F rfl fun a F=>?_)
  rcases vJ (decide ((e.size:Int)≤(h.size:Int))) with f | f
  ·
   replace d:=vY f d;have F:=F.eb 10 rfl f;refine xA 2 F rfl fun a F=>jE underlying9 F rfl rfl fun a F=>xA 1 F rfl fun a F=>jE underlying9 F rfl rfl (fun a F=>?_);obtain⟨E,x,d⟩:=xB d;refine fL F rfl rfl rfl x (fun a F=>?_);obtain⟨y,A,d⟩:=xB d;refine xOk underlying9 F rfl rfl rfl A fun a F=>xA 1 F rfl fun a F=>uN F rfl rfl rfl fun a F=>xA 2 F rfl fun a F=>xG ?_;exact⟨(sEq y e),(zL d),F.su,H⟩
  replace d:=vX f d;have F:=F.eb 10 rfl f;refine xA 11 F rfl fun a F=>?_;refine xG ?_;exact⟨false,(zL d),F.su,H⟩
 rintro a w ⟨j,rfl,F,H⟩
 have d:=xY p;refine xH (xP (xR F rfl (xX F rfl) ?_));obtain rfl:=oj d;exact⟨rfl,H.bl⟩
def kL (c d:ByteArray):Option ByteArray:=
 xZ (zH c d) fun f=>
 if f then
  xZ (ck ((c.size:Int) - (d.size:Int))) fun h=>
  xZ (ssl c 0 h) fun e=>
  some e
 else
  some c
theorem gI {B:Nat→Prop} {e f:ByteArray} (r:ByteArray) (d:kL e f=some r)  (j:World) (t:∀ c,B c→c<j.heap.size) (h:e.size≤maxLen) (p:f.size≤maxLen):Calls Tryz.prog 58 #[.string e,.string f] j (Gv (fun v w'=>v= .string r∧Sep [] B j w' []∧r.size≤maxLen)):=by
 unfold kL at d
 refine xW (L:=[(0,.string e),(1,.string f)]) func58 rfl rfl rfl (sc rfl (sc rfl sn)) (fun a F=>?_);have H:=Sep.start t;refine xV (xA 1 F rfl fun a F=>xG (xF (xV (xA 2 F rfl fun a F=>?_))));obtain⟨x,y,d⟩:=xB d;refine oK F rfl call62 rfl H (cS x y _ aA h p) fun a w H F=>xG (qS F rfl (fun i=>?_) (fun i=>?_))
 ·
  replace d:=vY i d;refine xV (xA 2 F rfl fun a F=>jE underlying9 F rfl rfl fun a F=>xA 1 F rfl fun a F=>jE underlying9 F rfl rfl (fun a F=>?_));obtain⟨D,A,d⟩:=xB d;refine fL F rfl rfl rfl A (fun a F=>?_);obtain⟨C,n,d⟩:=xB d;refine xNl underlying9 F rfl rfl rfl n fun a F=>xA 1 F rfl fun a F=>xG (xP (oJ (xR F rfl (xX F rfl) ?_)));obtain rfl:=oj d;exact⟨_,rfl,rfl,H,(xOq n h)⟩
 replace d:=vX i d;refine xS (xH (xV (xA 2 F rfl fun a F=>xG (xP (xR F rfl (xX F rfl) ?_)))));obtain rfl:=oj d;exact⟨_,rfl,rfl,H,h⟩
def cC (c d:ByteArray):Option ByteArray:=
 xZ (kL c d) fun e=>
 some e
theorem nF {B:Nat→Prop} {d e:ByteArray} (r:ByteArray) (f:cC d e=some r)  (h:World) (n:∀ c,B c→c<h.heap.size) (i:d.size≤maxLen) (j:e.size≤maxLen):Calls Tryz.prog 33 #[.string d,.string e] h (Gv (fun v w'=>v= .string r∧Sep [] B h w' []∧r.size≤maxLen)):=by
 unfold cC at f
 refine xW (L:=[(0,.string d),(1,.string e)]) func33 rfl rfl rfl (sc rfl (sc rfl sn)) (fun a F=>?_);have H:=Sep.start n;refine xV (xA 1 F rfl fun a F=>vE (xA 2 F rfl fun a F=>?_));obtain⟨p,t,f⟩:=xB f;refine oG F rfl call58 rfl (gI p t _ aA i j) (fun a x w ⟨A,S,y⟩ F=>?_);subst x;have H:=H.r0 S;refine xA 1 F rfl fun a F=>xG (xP (xR F rfl (xX F rfl) ?_));obtain rfl:=oj f;exact⟨_,rfl,rfl,H,y⟩
def vU (c:List ByteArray) (d:ByteArray):Option Int:=
 zW (σ:=Unit) (
  qR (σ:=Unit) (ρ:=Int) (fun (e:Nat) (f:ByteArray) (s:Unit)=>
    match s with
    | _=>
    if (sEq d f) then
     some (.ret ((e:Int)))
    else
     some (.go ())) c 0 ()) fun _=>
 some ((-1))
theorem dG {B:Nat→Prop} {f:List ByteArray} {n:ByteArray} (r:Int) (d:vU f n=some r) {p:Value} (i:World) (J:∀ c,B c→c<i.heap.size) (C:Bo B i (Sl 1 jP) p f) (Q:n.size≤maxLen):Calls Tryz.prog 59 #[p,.string n] i (gF r i):=by
 unfold vU at d
 refine xW (L:=[(0,p),(1,.string n)]) func59 rfl rfl rfl (sc rfl (sc rfl sn)) (fun a F=>?_);have H:=Sep.start J;refine xV (xA 1 F rfl fun a F=>xG (xF (xV (xA 1 F rfl fun a F=>oL underlying86 F rfl rfl C fun a D F=>xA 1 F rfl fun a F=>?_))));refine xG ?_;obtain⟨x,d,y⟩:=xT d;refine oR (fun a w=>x= .nx ()∧Sk a 19 []∧Sep [] B i w []) ?_ ?_
 ·
  refine oQ ?_;obtain⟨E,G,d⟩:=qZ d;refine qY (fun g a w=>∃ (j:Nat) (h:List ByteArray),(j≤f.length∧f.drop j=h)∧h.length=g∧qR E h j ()=some x∧Sk a 19 [(8,xC (j:Int)),(0,p),(1,.string n),(7,xC (f.length:Int))]∧Sep [] B i w []) f.length ?_ ?_
  ·
   exact⟨0,f,⟨Nat.zero_le _,rfl⟩,rfl,d,F.su,H⟩
  intro S a w ⟨j,h,e,I,d,F,H⟩
  cases h with
  | nil=>
   replace d:=vA d;have K:=vC e.1 e.2;have l1:=zK K;refine xV (xA 1 F rfl fun a F=>xG (xF (zS F rfl l1 (qV (qX (qX (kF ?_)))))));refine xH ?_;exact⟨(zL d),F.sub sn,H⟩
  | cons T h=>
   subst I;replace e:=qE e.2;have M:=vH e.2.1;obtain⟨R,d,A⟩:=qM d;rw[G] at d;have l1:=vR e.1;refine xV (xA 1 F rfl fun a F=>xG (xF (zQ F rfl l1 (xS (xH (xF ?_))))));have N:=k64 (Nat.le_of_lt e.1) D;have O:=kO e.1 D;refine oQ (xV (xA 2 F rfl fun a F=>vE (xA 2 F rfl fun a F=>?_)));refine xA 1 F rfl fun a F=>oI underlying86 sizeOf9 F rfl rfl rfl C M fun a U P F=>olT isAgg9 F rfl rfl H.sm P fun a V F=>uN F rfl rfl rfl fun a F=>xG (qS F rfl (fun t=>?_) (fun t=>?_))
   ·
    replace d:=vY t d;refine xV (xA 2 F rfl fun a F=>xG (xP (vO (oJ (oJ ?_)))));replace d:=kK d A;refine vO (oJ ?_);replace d:=kI d y;refine oJ (xR F rfl (xX F rfl) ?_);obtain rfl:=oj d;exact⟨⟨rfl,H.bl⟩,N⟩
   replace d:=vX t d;refine xS (vK (xH (oM (zG F rfl rfl rfl O fun a F=>xA 1 F rfl fun a F=>xG ?_))));replace d:=zM d A;exact⟨_,Nat.lt_succ_self _,j+1,h,⟨e.1,e.2.2⟩,rfl,d,F.su,H⟩
 rintro a w ⟨rfl,F,H⟩
 have d:=xY y;refine xH (xV (xA 1 F rfl fun a F=>xG (xP (xR F rfl (xX F rfl) ?_))));obtain rfl:=oj d;exact⟨⟨rfl,H.bl⟩,(show xO (-1) by decide)⟩
def vT (d:ByteArray):Option Int:=
 xZ (bZ d 10 64) fun c=>
 zW (σ:=Bool) (
  if (!c.2) then  some (.nx true) else  if (decide (c.1<0)) then  some (.nx true) else  xZ (jG c.1) fun e=>
    some (.nx (!sEq e d))) fun f=>
 if f then
  some ((-2))
 else
  some c.1
theorem gR {B:Nat→Prop} {h:ByteArray} (r:Int) (d:vT h=some r)  (i:World) (D:∀ c,B c→c<i.heap.size) (hG:GloE i) (A:h.size≤maxLen):Calls Tryz.prog 61 #[.string h] i (gF r i):=by
 unfold vT at d
 refine xW (L:=[(0,.string h)]) func61 rfl rfl rfl (sc rfl sn) (fun a F=>?_);have H:=Sep.start D;refine xV (xA 1 F rfl fun a F=>vE (xA 1 F rfl fun a F=>?_));obtain⟨j,E,d⟩:=xB d;refine oG F rfl call105 rfl (rL j E _ aA (hG.go H.bl) A (show xO (10) by decide) (show xO (64) by decide)) (fun a p w ⟨M,J,S,x,hE15⟩ F=>?_);subst p;have H:=H.r0 S;refine xA 5 F rfl fun a F=>xG (xF (xF ?_));obtain⟨G,d,C⟩:=xT d;refine oR (fun a w=>∃ (t:Bool),G= .nx t∧Sk a 23 [(3,xC j.1),(21,.bool t)]∧Sep [] B i w []) ?_ ?_
 ·
  refine oM (xA 1 F rfl fun a F=>xLm (by kernel_rfl) F rfl rfl hE15 fun a F=>xA 1 F rfl fun a F=>?_)
  rcases vJ (!j.2) with e | e
  ·
   replace d:=vY e d;have F:=F.eb 12 rfl e;refine xA 9 F rfl fun a F=>xG ?_;exact⟨true,(zL d),F.su,H⟩
  replace d:=vX e d;have F:=F.eb 12 rfl e;refine xA 4 F rfl fun a F=>?_
  rcases vJ (decide (j.1<0)) with f | f
  ·
   replace d:=vY f d;have F:=F.eb 16 rfl f;refine xA 5 F rfl fun a F=>xG ?_;exact⟨true,(zL d),F.su,H⟩
  replace d:=vX f d;have F:=F.eb 16 rfl f;refine xA 1 F rfl fun a F=>?_;obtain⟨y,I,d⟩:=xB d;refine oG F rfl call106 rfl (yA y I _ aA (hG.go H.bl).toGlo x) (fun a p w ⟨K,S,N⟩ F=>?_);subst p;have H:=H.r0 S;refine xA 1 F rfl fun a F=>xJu F rfl rfl rfl fun a F=>xA 1 F rfl fun a F=>xG ?_;exact⟨(!sEq y h),(zL d),F.su,H⟩
 rintro a w ⟨t,rfl,F,H⟩
 have d:=xY C;refine xH (qS F rfl (fun n=>?_) (fun n=>?_))
 ·
  replace d:=vY n d;refine xV (xA 1 F rfl fun a F=>xG (xP (oJ (xR F rfl (xX F rfl) ?_))));obtain rfl:=oj d;exact⟨⟨rfl,H.bl⟩,(show xO (-2) by decide)⟩
 replace d:=vX n d;refine xS (xH (xV (xA 2 F rfl fun a F=>xG (xP (xR F rfl (xX F rfl) ?_)))));obtain rfl:=oj d;exact⟨⟨rfl,H.bl⟩,x⟩
def dC (e:ByteArray):Option (Line×Int):=
 xZ (bS e (qW [32])) fun c=>
 xZ (ix c 0) fun t=>
 xZ (dM) fun x=>
 xZ (vU x t) fun y=>
 xZ (ck (y+1)) fun f=>
 zW (σ:=Int) (
  if (decide (1<(c.length:Int))) then
   xZ (ix c 1) fun A=>
   xZ (vT A) fun B=>
   some (.nx B)
  else
   some (.nx 0)) fun h=>
 zW (σ:=Int) (
  if (decide (2<(c.length:Int))) then
   xZ (ix c 2) fun C=>
   xZ (vT C) fun D=>
   some (.nx D)
  else
   some (.nx 0)) fun i=>
 zW (σ:=Int) (
  if (decide (3<(c.length:Int))) then
   xZ (ix c 3) fun n=>
   xZ (vT n) fun p=>
   some (.nx p)
  else
   some (.nx 0)) fun j=>
 xZ (bV (Line.mk f h i j)) fun d=>
 zW (σ:=Bool) (
  if (sEq d (qW [])) then  some (.nx true) else  some (.nx (!sEq d e))) fun E=>
 if E then
  some ((Line.mk 0 0 0 0),5)
 else
  some ((Line.mk f h i j),0)
theorem tW {B:Nat→Prop} {h:ByteArray} (r:Line×Int) (d:dC h=some r)  (O:World) (hN:∀ c,B c→c<O.heap.size) (hG:GloE O) (af:h.size≤maxLen):Calls Tryz.prog 34 #[.string h] O (Gv (fun v w'=>v= .tuple #[.agg #[xC r.1.kind,xC r.1.var,xC r.1.value,xC r.1.con],xC r.2]∧Sep [] B O w' []∧xO r.1.kind∧xO r.1.var∧xO r.1.value∧xO r.1.con∧xO r.2)):=by
 unfold dC at d
 refine xW (L:=[(0,.string h)]) func34 rfl rfl rfl (sc rfl sn) (fun a F=>?_);have H:=Sep.start hN;refine xV (oA zeroValue77 F rfl rfl H fun a w f H F=>xA 1 F rfl fun a F=>vE (xA 1 F rfl fun a F=>?_));obtain⟨z1,c1,d⟩:=xB d;refine oG F rfl call32 rfl (mS z1 c1 _ aA (hG.go H.bl).toGlo af (by decide)) (fun a t w ⟨N,hv16,S⟩ F=>?_);subst t;have H:=H.r1 S n0;refine xA 1 F rfl fun a F=>xG (xF ?_);obtain⟨z2,c2,d⟩:=xB d;obtain⟨Z,c3,d⟩:=xB d;obtain⟨z4,c4,d⟩:=xB d;obtain⟨j,P,d⟩:=xB d;obtain⟨I,rfl⟩:∃ x,x=w:=⟨_,rfl⟩;have sm1:=H.sm;obtain⟨D,J,g1,e1,H,E,c5⟩:=H.fza;have y:=g1.ld;refine xD H (by kernel_rfl) fun w H=>dp (fun G=>∀ (e:Nat) (a:Act) (w:World),Sk a 53 [(0,.string h),(2,qC f),(4,N),(5,qC e),(17,(.agg #[xC j,xC 0,xC 0,xC 0]))]→Sep D J I w [bx e [xC 0,xC 0,xC 0,xC 0] 77,bx f [xC 0,xC 0,xC 0,xC 0] 77]→xO 0→xO 0→xO 0→xO 0→xO 0→xO 0→xO 0→xO 0→xO j→xO 0→xO 0→xO 0→∀ A,A = #[true,true,true,true,true,true,true,true,false]→G 1 A a w) ?_ (fun H1=>?_)
 ·
  intro e a w F H i1 i2 i3 i4 i5 i6 i7 i8 i9 ag ah ai A R;subst R;refine xE H 8 rfl (by kernel_rfl) (eX (vs:=[xC j,xC 0,xC 0,xC 0]) sizeOf77 F rfl rfl rfl H (oc rfl (oc rfl (oc rfl (oc rfl on)))) rfl rfl fun w H=>xG ⟨⟨_,H⟩,?_⟩);refine vP (by kernel_rfl) (xH (xF (xV (oD iS F rfl rfl rfl fun a F=>oD nO F rfl rfl rfl fun a F=>oD xBn F rfl rfl rfl fun a F=>oLB (xs:=[.tmp 18,.tmp 19,.tmp 20]) (l:=[.pointer (some ⟨e,1,none⟩),.pointer (some ⟨e,2,none⟩),.pointer (some ⟨e,3,none⟩)]) underlying127 sizeOf126 zeroValue126 rfl F rfl rfl rfl (by simp) (by simp) rfl (by simp only[List.forall_mem_cons,List.not_mem_nil,false_implies,implies_true,and_true];exact⟨rfl,rfl,rfl⟩) H fun a w K H F=>xOj underlying127 F rfl rfl fun a F=>xA 1 F rfl fun a F=>?_))));refine xG (oQ (xKi 4 (xLv (xV (xA 1 F rfl fun a F=>?_)))));replace F:=F.cast (show Value.bool (decide ((0:Int)<3))= .bool true from rfl);refine xG (xF (xGa F rfl (xS (xH (xF ?_)))));obtain⟨o1,d,aj⟩:=xT d;refine oR (fun a w=>∃ (n:Int),o1= .nx n∧Sk a 53 [(0,.string h),(2,qC f),(4,N),(5,qC e),(21,.slice (some ⟨K,0,none⟩) 3 3),(22,xC 3),(23,xC 0)]∧Sep D J I w [bx K [.pointer (some ⟨e,1,none⟩),.pointer (some ⟨e,2,none⟩),.pointer (some ⟨e,3,none⟩)] 126,bx e [xC j,xC n,xC 0,xC 0] 77,bx f [xC 0,xC 0,xC 0,xC 0] 77]∧xO n) ?_ ?_
  ·
   refine oQ (xV (xA 1 F rfl fun a F=>xFa (i:=0) underlying127 sizeOf126 F rfl rfl rfl (by decide) fun a F=>oB isAgg126 F rfl rfl (H.b 0 rfl) rfl fun a F=>xA 2 F rfl fun a F=>xG (xF ?_)));refine oM (xA 1 F rfl fun a F=>cR F rfl rfl rfl (show ck ((0:Int)+1)=some 1 from rfl) fun a F=>xA 1 F rfl fun a F=>oL underlying86 F rfl rfl y fun a i13 F=>xA 1 F rfl fun a F=>xG (qS F rfl (fun T=>?_) (fun T=>?_)))
   ·
    replace d:=vY T d;refine oM (xA 3 F rfl fun a F=>cR F rfl rfl rfl (show ck ((0:Int)+1)=some 1 from rfl) (fun a F=>?_));obtain⟨z6,c6,d⟩:=xB d;refine oI underlying86 sizeOf9 F rfl rfl rfl y c6 fun a p1 h2 F=>olT isAgg9 F rfl rfl H.sm h2 (fun a ak F=>?_);obtain⟨z7,c7,d⟩:=xB d;refine oKI F rfl call61 rfl H (gR z7 c7 _ aA (hG.go (E.1 H (Ns.all ⟨n0,⟨n0,⟨n0,trivial⟩⟩⟩)).bl) ak) fun a w H al F=>qJ F rfl rfl fun a F=>oW sizeOf2 F rfl rfl rfl (H.s [1,0,2] rfl rfl) rfl rfl rfl fun w H=>zE (vK (xH ?_));exact⟨z7,(zL d),F.su,(H.s [1,0,2] rfl rfl),al⟩
   replace d:=vX T d;refine xS (vK (xH ?_));exact⟨0,(zL d),F.su,H,ag⟩
  rintro a w ⟨n,rfl,F,H,a2⟩
  have d:=xY aj;refine xH (oM (cR F rfl rfl rfl (show ck ((0:Int)+1)=some 1 from rfl) fun a F=>xA 1 F rfl fun a F=>xG (xLv (xV (xA 1 F rfl fun a F=>?_)))));replace F:=F.cast (show Value.bool (decide ((1:Int)<3))= .bool true from rfl);refine xG (xF (xGa F rfl (xS (xH (xF ?_)))));obtain⟨o2,d,am⟩:=xT d;refine oR (fun a w=>∃ (p:Int),o2= .nx p∧Sk a 53 [(0,.string h),(2,qC f),(4,N),(5,qC e),(21,.slice (some ⟨K,0,none⟩) 3 3),(22,xC 3),(23,xC 1)]∧Sep D J I w [bx K [.pointer (some ⟨e,1,none⟩),.pointer (some ⟨e,2,none⟩),.pointer (some ⟨e,3,none⟩)] 126,bx e [xC j,xC n,xC p,xC 0] 77,bx f [xC 0,xC 0,xC 0,xC 0] 77]∧xO p) ?_ ?_
  ·
   refine oQ (xV (xA 1 F rfl fun a F=>xFa (i:=1) underlying127 sizeOf126 F rfl rfl rfl (by decide) fun a F=>oB isAgg126 F rfl rfl (H.b 0 rfl) rfl fun a F=>xA 2 F rfl fun a F=>xG (xF ?_)));refine oM (xA 1 F rfl fun a F=>cR F rfl rfl rfl (show ck ((1:Int)+1)=some 2 from rfl) fun a F=>xA 1 F rfl fun a F=>oL underlying86 F rfl rfl y fun a i16 F=>xA 1 F rfl fun a F=>xG (qS F rfl (fun U=>?_) (fun U=>?_)))
   ·
    replace d:=vY U d;refine oM (xA 3 F rfl fun a F=>cR F rfl rfl rfl (show ck ((1:Int)+1)=some 2 from rfl) (fun a F=>?_));obtain⟨z8,c8,d⟩:=xB d;refine oI underlying86 sizeOf9 F rfl rfl rfl y c8 fun a p2 h3 F=>olT isAgg9 F rfl rfl H.sm h3 (fun a an F=>?_);obtain⟨z9,c9,d⟩:=xB d;refine oKI F rfl call61 rfl H (gR z9 c9 _ aA (hG.go (E.1 H (Ns.all ⟨n0,⟨n0,⟨n0,trivial⟩⟩⟩)).bl) an) fun a w H ao F=>qJ F rfl rfl fun a F=>oW sizeOf2 F rfl rfl rfl (H.s [1,0,2] rfl rfl) rfl rfl rfl fun w H=>zE (vK (xH ?_));exact⟨z9,(zL d),F.su,(H.s [1,0,2] rfl rfl),ao⟩
   replace d:=vX U d;refine xS (vK (xH ?_));exact⟨0,(zL d),F.su,H,ah⟩
  rintro a w ⟨p,rfl,F,H,a3⟩
  have d:=xY am;refine xH (oM (cR F rfl rfl rfl (show ck ((1:Int)+1)=some 2 from rfl) fun a F=>xA 1 F rfl fun a F=>xG (xLv (xV (xA 1 F rfl fun a F=>?_)))));replace F:=F.cast (show Value.bool (decide ((2:Int)<3))= .bool true from rfl);refine xG (xF (xGa F rfl (xS (xH (xF ?_)))));obtain⟨o3,d,aq⟩:=xT d;refine oR (fun a w=>∃ (C:Int),o3= .nx C∧Sk a 53 [(0,.string h),(2,qC f),(4,N),(5,qC e),(21,.slice (some ⟨K,0,none⟩) 3 3),(22,xC 3),(23,xC 2)]∧Sep D J I w [bx K [.pointer (some ⟨e,1,none⟩),.pointer (some ⟨e,2,none⟩),.pointer (some ⟨e,3,none⟩)] 126,bx e [xC j,xC n,xC p,xC C] 77,bx f [xC 0,xC 0,xC 0,xC 0] 77]∧xO C) ?_ ?_
  ·
   refine oQ (xV (xA 1 F rfl fun a F=>xFa (i:=2) underlying127 sizeOf126 F rfl rfl rfl (by decide) fun a F=>oB isAgg126 F rfl rfl (H.b 0 rfl) rfl fun a F=>xA 2 F rfl fun a F=>xG (xF ?_)));refine oM (xA 1 F rfl fun a F=>cR F rfl rfl rfl (show ck ((2:Int)+1)=some 3 from rfl) fun a F=>xA 1 F rfl fun a F=>oL underlying86 F rfl rfl y fun a i19 F=>xA 1 F rfl fun a F=>xG (qS F rfl (fun V=>?_) (fun V=>?_)))
   ·
    replace d:=vY V d;refine oM (xA 3 F rfl fun a F=>cR F rfl rfl rfl (show ck ((2:Int)+1)=some 3 from rfl) (fun a F=>?_));obtain⟨z10,ar,d⟩:=xB d;refine oI underlying86 sizeOf9 F rfl rfl rfl y ar fun a p3 h4 F=>olT isAgg9 F rfl rfl H.sm h4 (fun a au F=>?_);obtain⟨a4,av,d⟩:=xB d;refine oKI F rfl call61 rfl H (gR a4 av _ aA (hG.go (E.1 H (Ns.all ⟨n0,⟨n0,⟨n0,trivial⟩⟩⟩)).bl) au) fun a w H aw F=>qJ F rfl rfl fun a F=>oW sizeOf2 F rfl rfl rfl (H.s [1,0,2] rfl rfl) rfl rfl rfl fun w H=>zE (vK (xH ?_));exact⟨a4,(zL d),F.su,(H.s [1,0,2] rfl rfl),aw⟩
   replace d:=vX V d;refine xS (vK (xH ?_));exact⟨0,(zL d),F.su,H,ai⟩
  rintro a w ⟨C,rfl,F,H,a5⟩
  have d:=xY aq;refine xH (oM (cR F rfl rfl rfl (show ck ((2:Int)+1)=some 3 from rfl) fun a F=>xA 1 F rfl fun a F=>xG (xLv (xV (xA 1 F rfl fun a F=>?_)))));replace F:=F.cast (show Value.bool (decide ((3:Int)<3))= .bool false from rfl);refine xG (xF (xMn F rfl (qV (qX (qX (kF (xH (xF (xF ?_)))))))));refine oM (fJ isAgg77 sizeOf77 F rfl rfl (H.b 1 rfl) rfl rfl (fun a F=>?_));obtain⟨W,ax,d⟩:=xB d;refine oG F rfl call36 rfl (mV W ax _ aA (hG.go (E.1 H (Ns.all ⟨n0,⟨n0,⟨n0,trivial⟩⟩⟩)).bl).toGlo (oP.m i9 a2 a3 a5)) (fun a t w ⟨ca,S,cb⟩ F=>?_);subst t;have H:=H.r0 S;refine xA 1 F rfl fun a F=>xG (xF ?_);obtain⟨o4,d,ay⟩:=xT d;refine oR (fun a w=>∃ (s4:Bool),o4= .nx s4∧Sk a 53 [(2,qC f),(5,qC e),(50,.bool s4)]∧Sep D J I w [bx e [xC j,xC n,xC p,xC C] 77,bx f [xC 0,xC 0,xC 0,xC 0] 77]) ?_ ?_
  ·
   refine oM (xA 1 F rfl fun a F=>uN F rfl rfl rfl fun a F=>xA 1 F rfl fun a F=>?_)
   rcases vJ (sEq W (qW [])) with M | M
   ·
    replace d:=vY M d;have F:=F.eb 46 rfl M;refine xA 4 F rfl fun a F=>xG ?_;exact⟨true,(zL d),F.su,(H.s [1,2] rfl rfl)⟩
   replace d:=vX M d;have F:=F.eb 46 rfl M;refine xA 2 F rfl fun a F=>xJu F rfl rfl rfl fun a F=>xA 1 F rfl fun a F=>xG ?_;exact⟨(!sEq W h),(zL d),F.su,(H.s [1,2] rfl rfl)⟩
  rintro a w ⟨s4,rfl,F,H⟩
  have d:=xY ay;refine xH (qS F rfl (fun X=>?_) (fun X=>?_))
  ·
   replace d:=vY X d;refine xV (kY underlying77 zeroValue77 (fun w=>by simp [sizeOf2];rfl) F rfl rfl rfl rfl rfl on rfl rfl fun a F=>eX (vs:=[xC 0,xC 0,xC 0,xC 0]) sizeOf77 F rfl rfl rfl (H.s [1,0] rfl rfl) (oc rfl (oc rfl (oc rfl (oc rfl on)))) rfl rfl fun w H=>xA 1 F rfl fun a F=>xG (xP (oJ ?_)));have H:=(E.1 H (Ns.all ⟨n0,⟨n0,trivial⟩⟩));refine vV F rfl (kX (arr:=#[xC 0,xC 0,xC 0,xC 0]) F isAgg77 sizeOf77 rfl (H.b 1 rfl)) (xX F rfl) ?_;obtain rfl:=oj d;exact⟨_,rfl,rfl,(H.s [] rfl rfl),(show xO 0 by decide),(show xO 0 by decide),(show xO 0 by decide),(show xO 0 by decide),(show xO (5) by decide)⟩
  replace d:=vX X d;refine xS (xH (xV (fJ isAgg77 sizeOf77 F rfl rfl (H.b 0 rfl) rfl rfl fun a F=>eX (vs:=[xC j,xC n,xC p,xC C]) sizeOf77 F rfl rfl rfl (H.s [1,0] rfl rfl) (oc rfl (oc rfl (oc rfl (oc rfl on)))) rfl rfl fun w H=>xA 1 F rfl fun a F=>xG (xP ?_))));have H:=(E.1 H (Ns.all ⟨n0,⟨n0,trivial⟩⟩));refine vV F rfl (kX (arr:=#[xC j,xC n,xC p,xC C]) F isAgg77 sizeOf77 rfl (H.b 1 rfl)) (xX F rfl) ?_;obtain rfl:=oj d;exact⟨_,rfl,rfl,(H.s [] rfl rfl),i9,a2,a3,a5,(show xO (0) by decide)⟩
 refine dp (fun G=>∀ (Q:Nat) (v2:Value) (a:Act) (w:World),Sk a 53 [(0,.string h),(2,qC f),(4,N),(5,qC Q),(11,v2),(14,.string z2)]→Sep D J I w [bx Q [xC 0,xC 0,xC 0,xC 0] 77,rl 1 jP 9 v2 Z,bx f [xC 0,xC 0,xC 0,xC 0] 77]→xO 0→xO 0→xO 0→xO 0→xO 0→xO 0→xO 0→xO 0→z2.size≤maxLen→∀ A,A = #[true,true,true,true,false,false,false,true,false]→G 4 A a w) ?_ (fun H2=>?_)
 ·
  intro Q v2 a w F H az b0 b1 b2 b3 b4 i29 i30 i64 A R;subst R;refine xE H 4 rfl (by kernel_rfl) (oKI F rfl call59 rfl H (dG z4 c4 _ aA (H.l 1 rfl) i64) fun a w H iz4 F=>xG ⟨⟨_,H⟩,?_⟩);refine qP 5 rfl (by kernel_rfl) (xN F rfl (fun w l=>tD F rfl rfl P) fun a F=>oV 6 rfl (by kernel_rfl) (xN F rfl (fun w l=>jV underlying77 zeroValue77 (fun w=>by simp [sizeOf2];rfl) F rfl rfl rfl rfl (oc rfl on) rfl rfl) (fun a F=>?_)));exact H1 Q _ _ (F.su) (H.s [0,2] rfl rfl) az b0 b1 b2 b3 b4 i29 i30 (kQ P) (show xO 0 by decide) (show xO 0 by decide) (show xO 0 by decide) _ (by kernel_rfl)
 refine qP 1 rfl (by kernel_rfl) (xN F rfl (fun w l=>xL F rfl) fun a F=>oV 2 rfl (by kernel_rfl) (vI underlying86 sizeOf9 F rfl rfl rfl y c2 fun a p4 h5 F=>oV 3 rfl (by kernel_rfl) (vlT isAgg9 F rfl rfl H.v h5 fun a Y F=>kH [0,7] (by kernel_rfl) (by simp) ⟨⟨_,rfl,?_⟩,⟨_,rfl,?_⟩,trivial⟩)))
 ·
  refine kC H (oG F rfl call60 rfl (iD Z c3 _ aA) (fun a t w ⟨v3,cc,S⟩ F=>?_));subst t;have H:=H.r1 S n0;refine xG ⟨⟨_,H⟩,?_⟩;refine kH [4,7] (by kernel_rfl) (by simp) ⟨⟨_,rfl,?_⟩,⟨_,rfl,?_⟩,trivial⟩
  ·
   refine kC H (oKI F rfl call59 rfl H (dG z4 c4 _ aA (H.l 0 rfl) Y) fun a w H iz4 F=>xG ⟨⟨_,H⟩,?_⟩);refine qP 5 rfl (by kernel_rfl) (xN F rfl (fun w l=>tD F rfl rfl P) fun a F=>oV 6 rfl (by kernel_rfl) (xN F rfl (fun w l=>jV underlying77 zeroValue77 (fun w=>by simp [sizeOf2];rfl) F rfl rfl rfl rfl (oc rfl on) rfl rfl) fun a F=>xE H 7 rfl (by kernel_rfl) (oA zeroValue77 F rfl rfl H fun a w b5 H F=>xG ⟨⟨_,H⟩,?_⟩)));exact H1 b5 _ _ (F.su) (H.s [0,2] rfl rfl) (show xO 0 by decide) (show xO 0 by decide) (show xO 0 by decide) (show xO 0 by decide) (show xO 0 by decide) (show xO 0 by decide) (show xO 0 by decide) (show xO 0 by decide) (kQ P) (show xO 0 by decide) (show xO 0 by decide) (show xO 0 by decide) _ (by kernel_rfl)
  refine kC H (oA zeroValue77 F rfl rfl H fun a w b6 H F=>xG ⟨⟨_,H⟩,?_⟩);exact H2 b6 v3 _ _ (F.su) H (show xO 0 by decide) (show xO 0 by decide) (show xO 0 by decide) (show xO 0 by decide) (show xO 0 by decide) (show xO 0 by decide) (show xO 0 by decide) (show xO 0 by decide) Y _ (by kernel_rfl)
 refine kC H (oA zeroValue77 F rfl rfl H fun a w b7 H F=>xG ⟨⟨_,H⟩,?_⟩);refine xE H 0 rfl (by kernel_rfl) (oG F rfl call60 rfl (iD Z c3 _ aA) (fun a t w ⟨v4,cd,S⟩ F=>?_));subst t;have H:=H.r1 S n0;refine xG ⟨⟨_,H⟩,?_⟩;exact H2 b7 v4 _ _ (F.su) (H.s [1,0,2] rfl rfl) (show xO 0 by decide) (show xO 0 by decide) (show xO 0 by decide) (show xO 0 by decide) (show xO 0 by decide) (show xO 0 by decide) (show xO 0 by decide) (show xO 0 by decide) Y _ (by kernel_rfl)
def eM (c d:ByteArray):Option Bool:=
 xZ (zH c d) fun e=>
 some e
theorem pN {B:Nat→Prop} {d e:ByteArray} (r:Bool) (f:eM d e=some r)  (h:World) (n:∀ c,B c→c<h.heap.size) (i:d.size≤maxLen) (j:e.size≤maxLen):Calls Tryz.prog 35 #[.string d,.string e] h (kU (.bool r) h):=by
 unfold eM at f
 refine xW (L:=[(0,.string d),(1,.string e)]) func35 rfl rfl rfl (sc rfl (sc rfl sn)) (fun a F=>?_);have H:=Sep.start n;refine xV (xA 1 F rfl fun a F=>vE (xA 2 F rfl fun a F=>?_));obtain⟨p,t,f⟩:=xB f;refine oK F rfl call62 rfl H (cS p t _ aA i j) fun a w H F=>xA 1 F rfl fun a F=>xG (xP (xR F rfl (xX F rfl) ?_));obtain rfl:=oj f;exact⟨rfl,H.bl⟩
def bN (d:ByteArray):Option ((List Line)×Int):=
 if (decide (160000<(d.size:Int))) then
  some ([],2)
 else
  if (sEq d (qW [])) then
   some ([],0)
  else
   xZ (cC d (qW [10])) fun f=>
   xZ (bS f (qW [10])) fun e=>
   if (decide (4000<(e.length:Int))) then
    some ([],3)
   else
    zW (σ:=(List Line)) (
     qR (σ:=(List Line)) (ρ:=(List Line)×Int) (fun (t:Nat) (h:ByteArray) (i:(List Line))=>
      xZ (dC h) fun c=>
      if (c.2 != 0) then
       some (.ret ([],5))
      else
       xZ (ap i ([(Line.mk c.1.kind c.1.var c.1.value c.1.con)])) fun j=>
       some (.go j)) e 0 []) fun n=>
    xZ (eM d (qW [10])) fun p=>
    if (!p) then
     some ([],5)
    else
     some (n,0)
theorem nD {B:Nat→Prop} {j:ByteArray} (r:(List Line)×Int) (d:bN j=some r)  (n:World) (Z:∀ c,B c→c<n.heap.size) (hG:GloE n) (M:j.size≤maxLen):Calls Tryz.prog 15 #[.string j] n (Gv (fun v w'=>∃ (N:Value),v= .tuple #[N,xC r.2]∧Sep [] B n w' [rl 4 oP 77 N r.1]∧xO r.2)):=by
 unfold bN at d
 refine xW (L:=[(0,.string j)]) func15 rfl rfl rfl (sc rfl sn) (fun a F=>?_);have H:=Sep.start Z;refine xV (xA 2 F rfl fun a F=>xG (xF (xV (xA 1 F rfl fun a F=>jE underlying9 F rfl rfl (fun a F=>?_)))));refine xA 1 F rfl fun a F=>xG (qS F rfl (fun D=>?_) (fun D=>?_))
 ·
  replace d:=vY D d;refine xV (xA 2 F rfl fun a F=>xG (xP (oJ (vV F rfl (xX F rfl) (xX F rfl) ?_))));obtain rfl:=oj d;exact⟨_,rfl,qQ,rfl,(H.nl 4 oP 77),(show xO (2) by decide)⟩
 replace d:=vX D d;refine xS (xH (xF (xV (xA 1 F rfl fun a F=>uN F rfl rfl rfl fun a F=>xG (qS F rfl (fun E=>?_) (fun E=>?_))))))
 ·
  replace d:=vY E d;refine xV (xA 2 F rfl fun a F=>xG (xP (oJ (vV F rfl (xX F rfl) (xX F rfl) ?_))));obtain rfl:=oj d;exact⟨_,rfl,qQ,rfl,(H.nl 4 oP 77),(show xO (0) by decide)⟩
 replace d:=vX E d;refine xS (xH (xV (xA 1 F rfl fun a F=>?_)));obtain⟨z1,V,d⟩:=xB d;refine oG F rfl call33 rfl (nF z1 V _ aA M (by decide)) (fun a t w ⟨aj,S,i1⟩ F=>?_);subst t;have H:=H.r0 S;obtain⟨h,c1,d⟩:=xB d;refine oG F rfl call32 rfl (mS h c1 _ aA (hG.go H.bl).toGlo i1 (by decide)) (fun a t w ⟨Q,ak,S⟩ F=>?_);subst t;have H:=H.r1 S n0;refine xA 1 F rfl fun a F=>xG (xF (xV (xA 1 F rfl fun a F=>oL underlying86 F rfl rfl (H.l 0 rfl) fun a i2 F=>xA 1 F rfl fun a F=>xG ?_)));refine qS F rfl (fun G=>?_) (fun G=>?_)
 ·
  replace d:=vY G d;refine xV (xA 2 F rfl fun a F=>xG (xP (oJ (vV F rfl (xX F rfl) (xX F rfl) ?_))));obtain rfl:=oj d;exact⟨_,rfl,qQ,rfl,((H.nl 4 oP 77).s [0] rfl rfl),(show xO (3) by decide)⟩
 replace d:=vX G d;refine xS (xH (xV (oR0 (R:=oP) underlying35 sizeOf77 F rfl H fun a w v2 H F=>xA 1 F rfl fun a F=>xG (xF (xV ?_)))));refine xA 1 F rfl fun a F=>oL underlying86 F rfl rfl (H.l 1 rfl) fun a T F=>xA 1 F rfl fun a F=>xG ?_;obtain⟨U,d,O⟩:=xT d;refine oR (fun a w=>∃ (K:List Line) (x:Value),U= .nx K∧Sk a 44 [(0,.string j),(5,x)]∧Sep [] B n w [rl 4 oP 77 x K]) ?_ ?_
 ·
  refine oQ ?_;obtain⟨W,X,d⟩:=qZ d;refine qY (fun g a w=>∃ (p:Nat) (i:List ByteArray) (A:List Line) (C:Value),(p≤h.length∧h.drop p=i)∧i.length=g∧qR W i p A=some U∧Sk a 44 [(24,xC (p:Int)),(0,.string j),(5,C),(22,Q),(23,xC (h.length:Int))]∧Sep [] B n w [rl 4 oP 77 C A,rl 1 jP 9 Q h]) h.length ?_ ?_
  ·
   exact⟨0,h,[],v2,⟨Nat.zero_le _,rfl⟩,rfl,d,F.su,H⟩
  intro g1 a w ⟨p,i,A,C,e,Y,d,F,H⟩
  cases i with
  | nil=>
   replace d:=vA d;have q1:=vC e.1 e.2;have l1:=zK q1;refine xV (xA 1 F rfl fun a F=>xG (xF (zS F rfl l1 (qV (qX (qX (kF ?_)))))));refine xH ?_;exact⟨A,C,(zL d),F.su,(H.s [0] rfl rfl)⟩
  | cons x1 i=>
   subst Y;replace e:=qE e.2;have y1:=vH e.2.1;obtain⟨al,d,P⟩:=qM d;rw[X] at d;have l1:=vR e.1;refine xV (xA 1 F rfl fun a F=>xG (xF (zQ F rfl l1 (xS (xH (xF ?_))))));have j1:=k64 (Nat.le_of_lt e.1) T;have m1:=kO e.1 T;refine oQ (xV (oI underlying86 sizeOf9 F rfl rfl rfl (H.l 1 rfl) y1 fun a p1 h1 F=>olT isAgg9 F rfl rfl (Sm.refl _ _) h1 fun a i4 F=>xA 1 F rfl fun a F=>vE (xA 1 F rfl fun a F=>?_)));obtain⟨f,c2,d⟩:=xB d;refine oG F rfl call34 rfl (tW f c2 _ aA (hG.go H.bl) i4) (fun a t w ⟨am,S,i5,i6,i7,i8,i9⟩ F=>?_);subst t;have H:=H.r0 S;refine xA 3 F rfl fun a F=>oA zeroValue77 F rfl rfl H fun a w b1 H F=>eX (vs:=[xC f.1.kind,xC f.1.var,xC f.1.value,xC f.1.con]) sizeOf77 F rfl rfl rfl H (oc rfl (oc rfl (oc rfl (oc rfl on)))) rfl rfl fun w H=>xA 1 F rfl fun a F=>xG (xF (xV ?_));refine xA 2 F rfl fun a F=>xG (qS F rfl (fun I=>?_) (fun I=>?_))
   ·
    replace d:=vY I d;refine xV (xA 2 F rfl fun a F=>xG (xP (oJ (vO (oJ (oJ ?_))))));replace d:=kK d P;refine vO (oJ ?_);replace d:=kI d O;refine oJ (vV F rfl (xX F rfl) (xX F rfl) ?_);obtain rfl:=oj d;exact⟨_,rfl,qQ,rfl,((H.nl 4 oP 77).s [0] rfl rfl),(show xO (5) by decide)⟩
   replace d:=vX I d;refine xS (xH (oM (xA 1 F rfl fun a F=>fJ isAgg77 sizeOf77 F rfl rfl (H.b 0 rfl) rfl rfl fun a F=>dF (R:=oP) (y:=(Line.mk f.1.kind f.1.var f.1.value f.1.con)) underlying35 sizeOf77 zeroValue77 rfl rfl F rfl rfl H (Eo.agg (oP.m i5 i6 i7 i8)) (fun a w v4 H F=>?_))));obtain⟨z4,c3,d⟩:=xB d;refine oPL (sz:=4) (R:=oP) (z:=(.agg #[xC 0,xC 0,xC 0,xC 0])) (bytes:=32) underlying35 (by kernel_rfl) rfl rfl F rfl rfl rfl (H.s [2,0,1,3] rfl rfl) c3 fun a w v5 H F=>xA 1 F rfl fun a F=>zE (vK (xH (oM (zG F rfl rfl rfl m1 fun a F=>xA 1 F rfl fun a F=>xG ?_))));replace d:=zM d P;exact⟨_,Nat.lt_succ_self _,p+1,i,z4,v5,⟨e.1,e.2.2⟩,rfl,d,F.su,(H.s [0,2] rfl rfl)⟩
 rintro a w ⟨K,x,rfl,F,H⟩
 have d:=xY O;refine xH (xF (xV (xA 1 F rfl fun a F=>?_)));obtain⟨z5,c4,d⟩:=xB d;refine oK F rfl call35 rfl H (pN z5 c4 _ aA M (by decide)) fun a w H F=>xA 1 F rfl fun a F=>xG (qS F rfl (fun J=>?_) (fun J=>?_))
 ·
  replace d:=vY J d;refine xV (xA 2 F rfl fun a F=>xG (xP (oJ (vV F rfl (xX F rfl) (xX F rfl) ?_))));obtain rfl:=oj d;exact⟨_,rfl,qQ,rfl,((H.nl 4 oP 77).s [0] rfl rfl),(show xO (5) by decide)⟩
 replace d:=vX J d;refine xS (xH (xV (xA 3 F rfl fun a F=>xG (xP (vV F rfl (xX F rfl) (xX F rfl) ?_)))));obtain rfl:=oj d;exact⟨_,rfl,x,rfl,H,(show xO (0) by decide)⟩
end Go.Proofs.YtghihmkhdhjhiaaGreatDoor
