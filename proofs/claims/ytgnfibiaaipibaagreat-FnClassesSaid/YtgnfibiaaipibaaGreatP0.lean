import Derived.Test.YtgnfibiaaipibaaGreatZ
import Derived.Test.YtgnfibiaaipibaaGreatNL
import Derived.Test.YtgnfibiaaipibaaGreatNG
namespace Go.Proofs.YtgnfibiaaipibaaGreat
open Go.Proofs.Tryz
set_option maxHeartbeats 1000000
set_option linter.unusedVariables false
set_option linter.unusedSimpArgs false
set_option maxRecDepth 100000
open Go.RowKit
def bQ (c:List UInt8):Option ((List UInt8)×Int×Int):=
 some ((c,0,0))
theorem iX {B:Nat→Prop} {i:List UInt8} (r:((List UInt8)×Int×Int)) (j:bQ i=some r) {e:Value} (d:World) (p:∀ c,B c→c<d.heap.size) (n:Bo B d (Sl 1 cL) e i):Calls Tryz.prog 26 #[e] d (Gv (fun v w'=>∃ (f:Nat) (h:Value),v=vK f∧Sep [] B d w' [bx f [h,xG r.2.1,.int .u64 r.2.2] 107]∧Bo B d (Sl 1 cL) h r.1∧xZ r.2.1)):=by
 unfold bQ at j
 refine xV (L:=[(0,e)]) func26 rfl rfl rfl (sc rfl sn) (fun a F=>?_);have H:=Sep.start p;refine xP (xA 1 F rfl fun a F=>qO (xA 1 F rfl fun a F=>kV underlying107 zeroValue107 (fun w=>by simp [sizeOf105,sizeOf22,sizeOf3];rfl) F rfl rfl rfl rfl rfl (oc (H.a n).one on) rfl rfl fun a F=>oX F rfl rfl rfl H fun a w t H F=>xA 1 F rfl fun a F=>?_));refine xJ (xT (xS F rfl (oD F rfl) ?_));obtain rfl:=oj j;exact⟨_,rfl,t,e,rfl,H,n,(show xZ 0 by decide)⟩
def cR (c:List UInt8) (d e:Int):Option (Int×Int×Int):=
 vT (σ:=Int) (
  if (decide (d<(c.length:Int))) then
   xY (ix c d) fun j=>
   some (.nx (j.toNat:Int))
  else
   some (.nx 0)) fun i=>
 xY (ck (d+1)) fun f=>
 xY (nn i) fun h=>
 if (decide (f≤(c.length:Int))) then
  some (i,f,(IntKind.u64.wrap ((IntKind.u64.wrap ((IntKind.u64.wrap (e*6364136223846793005))+h))+1442695040888963407)))
 else
  some ((IntKind.i64.wrap (Go.bits .and .u64 ((IntKind.u64.wrap ((IntKind.u64.wrap ((IntKind.u64.wrap (e*6364136223846793005))+h))+1442695040888963407)) / 2 ^ (40:Int).toNat) 255)),f,(IntKind.u64.wrap ((IntKind.u64.wrap ((IntKind.u64.wrap (e*6364136223846793005))+h))+1442695040888963407)))
theorem spec_l00Src_next_c {B:Nat→Prop} {C:List UInt8} {h p:Int} (r:Int×Int×Int) (d:cR C h p=some r) {f:Nat} {i:Value} {y:List Nat} (e:World) (Q:∀ c,B c→c<e.heap.size) (G:Sep y B e e [bx f [i,xG h,.int .u64 p] 107]) (n:Bo B e (Sl 1 cL) i C) (O:xZ h):Calls Tryz.prog 65 #[vK f] e (Gv (fun v w'=>v=xG r.1∧Sep y B e w' [bx f [i,xG r.2.1,.int .u64 r.2.2] 107]∧xZ r.1∧xZ r.2.1)):=by
 unfold cR at d
 refine xV (L:=[(0,vK f)]) func65 rfl rfl rfl (sc rfl sn) (fun a F=>?_);have H:=G;refine xP (xA 1 F rfl fun a F=>qO (xA 1 F rfl fun a F=>xJ (xC ?_)));refine xC (xQ H (by kernel_rfl) (by kernel_rfl) (xR F rfl (fun w l=>xM F rfl) fun a F=>xR F rfl (fun w l=>zT F rfl) fun a F=>xR F rfl (fun w l=>vG fa107_1 F rfl rfl) fun a F=>qB isAgg3 F rfl rfl (H.qb 0 rfl) rfl fun a F=>xR F rfl (fun w l=>xM F rfl) fun a F=>xR F rfl (fun w l=>zT F rfl) fun a F=>xR F rfl (fun w l=>vG fa107_0 F rfl rfl) fun a F=>qB isAgg22 F rfl rfl (H.qb 0 rfl) rfl fun a F=>qL underlying22 F rfl rfl n (fun a R F=>?_)));refine xR F rfl (fun w l=>r_lss F rfl rfl) fun a F=>kA fun w H=>xF ?_;obtain⟨I,d,E⟩:=xK d;refine xX (fun a w=>∃ (j:Int),I= .nx j∧Sk a 62 [(0,vK f),(3,xG j)]∧Sep y B e w [bx f [i,xG h,.int .u64 p] 107]∧xZ j) ?_ ?_
 ·
  refine qP F rfl (fun t=>?_) (fun t=>?_)
  ·
   replace d:=vR t d;refine xQ H (by kernel_rfl) (by kernel_rfl) (xR F rfl (fun w l=>xM F rfl) fun a F=>xR F rfl (fun w l=>zT F rfl) fun a F=>xR F rfl (fun w l=>vG fa107_0 F rfl rfl) fun a F=>qB isAgg22 F rfl rfl (H.qb 0 rfl) rfl fun a F=>xR F rfl (fun w l=>xM F rfl) fun a F=>xR F rfl (fun w l=>zT F rfl) fun a F=>xR F rfl (fun w l=>vG fa107_1 F rfl rfl) fun a F=>qB isAgg3 F rfl rfl (H.qb 0 rfl) rfl (fun a F=>?_));obtain⟨J,K,d⟩:=xB d;refine qI underlying22 sizeOf5 F rfl rfl rfl n K fun a S M F=>qlU isAgg5 F rfl rfl H.q M fun a F=>xR F rfl (fun w l=>r_convI underlying5 underlying3 F rfl) fun a F=>xR F rfl (fun w l=>zM F rfl) fun a F=>kA fun w H=>xF ?_;exact⟨(J.toNat:Int),(vE d),F.su,H,(u8_i64 _)⟩
  replace d:=vQ t d;refine xL (xF ?_);exact⟨0,(vE d),F.su,H,(show xZ (0) by decide)⟩
 rintro a w ⟨j,rfl,F,H,z⟩
 have d:=xN E;refine xF (xP (xA 1 F rfl fun a F=>cZ F rfl rfl fun a F=>oH fa107_1 F rfl rfl rfl fun a F=>oB isAgg3 F rfl rfl (H.b 0 rfl) rfl (fun a F=>?_)));obtain⟨T,A,d⟩:=xB d;refine kI F rfl rfl rfl A fun a F=>cZ F rfl rfl fun a F=>oH fa107_1 F rfl rfl rfl fun a F=>oW sizeOf3 F rfl rfl rfl H rfl rfl rfl fun w H=>qO (xA 2 F rfl fun a F=>cZ F rfl rfl (fun a F=>?_));refine oH fa107_2 F rfl rfl rfl fun a F=>oB isAgg105 F rfl rfl (H.b 0 rfl) rfl fun a F=>oUmul F rfl rfl rfl fun a F=>xA 1 F rfl fun a F=>?_;obtain⟨N,D,d⟩:=xB d
 have U:xZ N:=by rw[(nn_some D).2];exact z
 refine oU1 underlying3 underlying105 F rfl rfl z D fun a F=>oUadd F rfl rfl rfl fun a F=>oUadd F rfl rfl rfl fun a F=>cZ F rfl rfl fun a F=>oH fa107_2 F rfl rfl rfl fun a F=>oW sizeOf105 F rfl rfl rfl H rfl rfl rfl fun w H=>xJ (xC (xC (xQ H (by kernel_rfl) (by kernel_rfl) ?_)));refine xR F rfl (fun w l=>xM F rfl) fun a F=>xR F rfl (fun w l=>zT F rfl) fun a F=>xR F rfl (fun w l=>vG fa107_1 F rfl rfl) fun a F=>qB isAgg3 F rfl rfl (H.qb 0 rfl) rfl fun a F=>xR F rfl (fun w l=>xM F rfl) fun a F=>xR F rfl (fun w l=>zT F rfl) fun a F=>xR F rfl (fun w l=>vG fa107_0 F rfl rfl) fun a F=>qB isAgg22 F rfl rfl (H.qb 0 rfl) rfl fun a F=>qL underlying22 F rfl rfl n fun a P F=>xR F rfl (fun w l=>r_leq F rfl rfl) fun a F=>kA (fun w H=>?_);refine xF (qP F rfl (fun x=>?_) (fun x=>?_))
 ·
  replace d:=vR x d;refine xP (xA 2 F rfl fun a F=>xJ (xT (oE (xS F rfl (oD F rfl) ?_))));obtain rfl:=oj d;exact⟨_,rfl,rfl,H,z,(kG A)⟩
 replace d:=vQ x d;refine xL (xF (xP (xA 1 F rfl fun a F=>cZ F rfl rfl fun a F=>oH fa107_2 F rfl rfl rfl fun a F=>oB isAgg105 F rfl rfl (H.b 0 rfl) rfl fun a F=>oUshr F rfl rfl (by decide) fun a F=>oUand F rfl rfl rfl fun a F=>oUw underlying105 underlying2 F rfl rfl (fun a F=>?_))));refine xA 1 F rfl fun a F=>xJ (xT (xS F rfl (oD F rfl) ?_));obtain rfl:=oj d;exact⟨_,rfl,rfl,H,(wr64 _),(kG A)⟩
def qZ (f:List UInt8) (h i d:Int):Option (Int×Int×Int):=
 if (decide (d≤1)) then
  some (0,h,i)
 else
  xY (cR f h i) fun c=>
  if (decide (200<d)) then
   xY (ck (c.1*256)) fun j=>
   xY (cR f c.2.1 c.2.2) fun e=>
   xY (ck (j+e.1)) fun n=>
   xY (rm n d) fun p=>
   some (p,e.2.1,e.2.2)
  else
   xY (rm c.1 d) fun t=>
   some (t,c.2.1,c.2.2)
theorem zJ {B:Nat→Prop} {E:List UInt8} {j t n:Int} (r:Int×Int×Int) (d:qZ E j t n=some r) {e:Nat} {h:Value} {p:List Nat} (f:World) (hN:∀ c,B c→c<f.heap.size) (Q:Sep p B f f [bx e [h,xG j,.int .u64 t] 107]) (C:Bo B f (Sl 1 cL) h E) (D:xZ j) (G:xZ n):Calls Tryz.prog 27 #[vK e,xG n] f (Gv (fun v w'=>v=xG r.1∧Sep p B f w' [bx e [h,xG r.2.1,.int .u64 r.2.2] 107]∧xZ r.1∧xZ r.2.1)):=by
 unfold qZ at d
 refine xV (L:=[(0,vK e),(1,xG n)]) func27 rfl rfl rfl (sc rfl (sc rfl sn)) (fun a F=>?_);have H:=Q;refine xP (xA 1 F rfl fun a F=>xJ (xC (xP (xA 2 F rfl fun a F=>oY ?_))));refine xF (qP F rfl (fun x=>?_) (fun x=>?_))
 ·
  replace d:=vR x d;refine xP (xA 1 F rfl fun a F=>xJ (xT (oE (xS F rfl (oD F rfl) ?_))));obtain rfl:=oj d;exact⟨_,rfl,rfl,H,(show xZ (0) by decide),D⟩
 replace d:=vQ x d;refine xL (xF (xP (xA 1 F rfl fun a F=>?_)));obtain⟨i,R,d⟩:=xB d;obtain⟨X1,K1,O⟩:=Sep.lend (K:=[bx e [h,xG j,.int .u64 t] 107]) (L:=[]) H;refine oG F rfl call65 rfl (spec_l00Src_next_c i R _ H.hN K1 (H.u C) D) (fun a z w ⟨Y,S,T,J⟩ F=>?_);subst z;have H:Sep p B f w [bx e [h,xG i.2.1,.int .u64 i.2.2] 107]:=O S;refine xA 1 F rfl fun a F=>xJ (xC (xP (xA 2 F rfl fun a F=>xJ (qP F rfl (fun y=>?_) (fun y=>?_)))))
 ·
  replace d:=vR y d;refine xU (xA 1 F rfl fun a F=>?_);obtain⟨z2,U,d⟩:=xB d;refine o_mul F rfl rfl rfl U fun a F=>xA 1 F rfl fun a F=>?_;obtain⟨A,V,d⟩:=xB d;obtain⟨X2,W,P⟩:=Sep.lend (K:=[bx e [h,xG i.2.1,.int .u64 i.2.2] 107]) (L:=[]) H;refine oG F rfl call65 rfl (spec_l00Src_next_c A V _ H.hN W (H.u C) J) (fun a z w ⟨Z,S,i3,X⟩ F=>?_);subst z;have H:Sep p B f w [bx e [h,xG A.2.1,.int .u64 A.2.2] 107]:=P S;obtain⟨z4,I,d⟩:=xB d;refine kI F rfl rfl rfl I fun a F=>xA 1 F rfl fun a F=>qO (xA 2 F rfl fun a F=>?_);obtain⟨z5,M,d⟩:=xB d;refine o_rem F rfl rfl rfl M fun a F=>xA 1 F rfl fun a F=>xJ (xT (xS F rfl (oD F rfl) ?_));obtain rfl:=oj d;exact⟨_,rfl,rfl,H,(rm64 M (kG I) G),X⟩
 replace d:=vQ y d;refine xL (xF (xP (xA 2 F rfl fun a F=>?_)));obtain⟨z6,N,d⟩:=xB d;refine o_rem F rfl rfl rfl N fun a F=>xA 1 F rfl fun a F=>xJ (xT (xS F rfl (oD F rfl) ?_));obtain rfl:=oj d;exact⟨_,rfl,rfl,H,(rm64 N T G),J⟩
def spec_P6Pick (d:List UInt8) (e:Int):Option Int:=
 xY (bQ d) fun c=>
 xY (qZ c.1 c.2.1 c.2.2 e) fun f=>
 some f.1
theorem spec_P6Pick_c {B:Nat→Prop} {t:List UInt8} {f:Int} (r:Int) (d:spec_P6Pick t f=some r) {h:Value} (e:World) (D:∀ c,B c→c<e.heap.size) (E:Bo B e (Sl 1 cL) h t) (z:xZ f):Calls Tryz.prog 5 #[h,xG f] e (dW r e):=by
 unfold spec_P6Pick at d
 refine xV (L:=[(0,h),(1,xG f)]) func5 rfl rfl rfl (sc rfl (sc rfl sn)) (fun a F=>?_);have H:=Sep.start D;refine xP (xA 1 F rfl fun a F=>qO (xA 1 F rfl fun a F=>?_));obtain⟨i,G,d⟩:=xB d;refine oG F rfl call26 rfl (iX i G _ H.hN (H.u E)) (fun a j w ⟨x,y,M,S,n,A⟩ F=>?_);subst j;have n:=H.dn n;have H:=H.r1 S n0;refine xA 1 F rfl fun a F=>?_;obtain⟨p,I,d⟩:=xB d;obtain⟨O,K1,C⟩:=Sep.lend (K:=[bx x [y,xG i.2.1,.int .u64 i.2.2] 107]) (L:=[]) H;refine oG F rfl call27 rfl (zJ p I _ H.hN K1 (H.u n) A z) (fun a j w ⟨N,S,J,P⟩ F=>?_);subst j;have H:Sep [] B e w [bx x [y,xG p.2.1,.int .u64 p.2.2] 107]:=C S;refine xA 1 F rfl fun a F=>xJ (xT (xS F rfl (oD F rfl) ?_));obtain rfl:=oj d;exact⟨⟨rfl,H.bl⟩,J⟩
def iF (c:Int):Option Op:=
 if (c==1) then
  some ((Op.mk 1 ([0,0])))
 else
  if (c==2) then
   some ((Op.mk 1 ([1,1])))
  else
   if (c==3) then
    some ((Op.mk 2 ([0,0,0,1])))
   else
    if (c==4) then
     some ((Op.mk 2 ([0,1,1,1])))
    else
     if (c==5) then
      some ((Op.mk 3 ([0,0,0,1,0,1,1,1])))
     else
      some ((Op.mk 3 ([0,1,1,0,1,0,0,1])))
theorem spec_l09Op_c {B:Nat→Prop} {e:Int} (r:Op) (d:iF e=some r)  (t:World) (E:∀ c,B c→c<t.heap.size) (G:xZ e):Calls Tryz.prog 28 #[xG e] t (Gv (fun v w'=>∃ (D:Value),v= .agg #[xG r.arity,D]∧Sep [] B t w' [rl 1 xH 2 D r.table]∧xZ r.arity)):=by
 unfold iF at d
 refine xV (L:=[(0,xG e)]) func28 rfl rfl rfl (sc rfl sn) (fun a F=>?_);have H:=Sep.start E;refine xP (oA zeroValue27 F rfl rfl H fun a w I H F=>xJ (xC (xP (xA 1 F rfl fun a F=>xJ ?_))));refine xW (xP (xA 2 F rfl fun a F=>xJ (qP F rfl (fun f=>?_) (fun f=>?_))))
 ·
  replace d:=vR f d;refine xP (oRI (xs:=[.const (xG 0),.const (xG 0)]) (l:=[0,0]) underlying25 sizeOf2 zeroValue2 rfl F rfl rfl rfl rfl rfl rfl (by simp only[List.forall_mem_cons,List.not_mem_nil,false_implies,implies_true,and_true];exact⟨(show xZ (0) by decide),(show xZ (0) by decide)⟩) H fun a w x H F=>kV underlying27 zeroValue27 (fun w=>by simp [sizeOf2,sizeOf25];rfl) F rfl rfl rfl rfl rfl (oc rfl (oc (H.l 0 rfl).one on)) rfl rfl fun a F=>oWA (vs:=[xG 1,x]) sizeOf27 F rfl rfl rfl (H.s [1,0] rfl rfl) (oc rfl (oc ((H.s [1,0] rfl rfl).l 1 rfl).one on)) rfl rfl fun w H=>xJ (xT (vJ (oE (xS F rfl (gU (arr:=#[xG 1,x]) F isAgg27 sizeOf27 rfl (H.b 0 rfl)) ?_)))));obtain rfl:=oj d;exact⟨_,rfl,x,rfl,(H.s [1] rfl rfl),(show xZ (1) by decide)⟩
 replace d:=vQ f d;refine xP (xA 2 F rfl fun a F=>xJ (qP F rfl (fun h=>?_) (fun h=>?_)))
 ·
  replace d:=vR h d;refine xP (oRI (xs:=[.const (xG 1),.const (xG 1)]) (l:=[1,1]) underlying25 sizeOf2 zeroValue2 rfl F rfl rfl rfl rfl rfl rfl (by simp only[List.forall_mem_cons,List.not_mem_nil,false_implies,implies_true,and_true];exact⟨(show xZ (1) by decide),(show xZ (1) by decide)⟩) H fun a w i H F=>kV underlying27 zeroValue27 (fun w=>by simp [sizeOf2,sizeOf25];rfl) F rfl rfl rfl rfl rfl (oc rfl (oc (H.l 0 rfl).one on)) rfl rfl fun a F=>oWA (vs:=[xG 1,i]) sizeOf27 F rfl rfl rfl (H.s [1,0] rfl rfl) (oc rfl (oc ((H.s [1,0] rfl rfl).l 1 rfl).one on)) rfl rfl fun w H=>xJ (xT (vJ (oE (xS F rfl (gU (arr:=#[xG 1,i]) F isAgg27 sizeOf27 rfl (H.b 0 rfl)) ?_)))));obtain rfl:=oj d;exact⟨_,rfl,i,rfl,(H.s [1] rfl rfl),(show xZ (1) by decide)⟩
 replace d:=vQ h d;refine xP (xA 2 F rfl fun a F=>xJ (qP F rfl (fun j=>?_) (fun j=>?_)))
 ·
  replace d:=vR j d;refine xP (oRI (xs:=[.const (xG 0),.const (xG 0),.const (xG 0),.const (xG 1)]) (l:=[0,0,0,1]) underlying25 sizeOf2 zeroValue2 rfl F rfl rfl rfl rfl rfl rfl (by simp only[List.forall_mem_cons,List.not_mem_nil,false_implies,implies_true,and_true];exact⟨(show xZ (0) by decide),(show xZ (0) by decide),(show xZ (0) by decide),(show xZ (1) by decide)⟩) H fun a w y H F=>kV underlying27 zeroValue27 (fun w=>by simp [sizeOf2,sizeOf25];rfl) F rfl rfl rfl rfl rfl (oc rfl (oc (H.l 0 rfl).one on)) rfl rfl fun a F=>oWA (vs:=[xG 2,y]) sizeOf27 F rfl rfl rfl (H.s [1,0] rfl rfl) (oc rfl (oc ((H.s [1,0] rfl rfl).l 1 rfl).one on)) rfl rfl fun w H=>xJ (xT (vJ (oE (xS F rfl (gU (arr:=#[xG 2,y]) F isAgg27 sizeOf27 rfl (H.b 0 rfl)) ?_)))));obtain rfl:=oj d;exact⟨_,rfl,y,rfl,(H.s [1] rfl rfl),(show xZ (2) by decide)⟩
 replace d:=vQ j d;refine xP (xA 2 F rfl fun a F=>xJ (qP F rfl (fun n=>?_) (fun n=>?_)))
 ·
  replace d:=vR n d;refine xP (oRI (xs:=[.const (xG 0),.const (xG 1),.const (xG 1),.const (xG 1)]) (l:=[0,1,1,1]) underlying25 sizeOf2 zeroValue2 rfl F rfl rfl rfl rfl rfl rfl (by simp only[List.forall_mem_cons,List.not_mem_nil,false_implies,implies_true,and_true];exact⟨(show xZ (0) by decide),(show xZ (1) by decide),(show xZ (1) by decide),(show xZ (1) by decide)⟩) H fun a w z H F=>kV underlying27 zeroValue27 (fun w=>by simp [sizeOf2,sizeOf25];rfl) F rfl rfl rfl rfl rfl (oc rfl (oc (H.l 0 rfl).one on)) rfl rfl fun a F=>oWA (vs:=[xG 2,z]) sizeOf27 F rfl rfl rfl (H.s [1,0] rfl rfl) (oc rfl (oc ((H.s [1,0] rfl rfl).l 1 rfl).one on)) rfl rfl fun w H=>xJ (xT (vJ (oE (xS F rfl (gU (arr:=#[xG 2,z]) F isAgg27 sizeOf27 rfl (H.b 0 rfl)) ?_)))));obtain rfl:=oj d;exact⟨_,rfl,z,rfl,(H.s [1] rfl rfl),(show xZ (2) by decide)⟩
 replace d:=vQ n d;refine xP (xA 2 F rfl fun a F=>xJ (qP F rfl (fun p=>?_) (fun p=>?_)))
 ·
  replace d:=vR p d;refine xP (oRI (xs:=[.const (xG 0),.const (xG 0),.const (xG 0),.const (xG 1),.const (xG 0),.const (xG 1),.const (xG 1),.const (xG 1)]) (l:=[0,0,0,1,0,1,1,1]) underlying25 sizeOf2 zeroValue2 rfl F rfl rfl rfl rfl rfl rfl (by simp only[List.forall_mem_cons,List.not_mem_nil,false_implies,implies_true,and_true];exact⟨(show xZ (0) by decide),(show xZ (0) by decide),(show xZ (0) by decide),(show xZ (1) by decide),(show xZ (0) by decide),(show xZ (1) by decide),(show xZ (1) by decide),(show xZ (1) by decide)⟩) H fun a w A H F=>kV underlying27 zeroValue27 (fun w=>by simp [sizeOf2,sizeOf25];rfl) F rfl rfl rfl rfl rfl (oc rfl (oc (H.l 0 rfl).one on)) rfl rfl fun a F=>oWA (vs:=[xG 3,A]) sizeOf27 F rfl rfl rfl (H.s [1,0] rfl rfl) (oc rfl (oc ((H.s [1,0] rfl rfl).l 1 rfl).one on)) rfl rfl fun w H=>xJ (xT (vJ (oE (xS F rfl (gU (arr:=#[xG 3,A]) F isAgg27 sizeOf27 rfl (H.b 0 rfl)) ?_)))));obtain rfl:=oj d;exact⟨_,rfl,A,rfl,(H.s [1] rfl rfl),(show xZ (3) by decide)⟩
 replace d:=vQ p d;refine xL (qS (xF (xP (oRI (xs:=[.const (xG 0),.const (xG 1),.const (xG 1),.const (xG 0),.const (xG 1),.const (xG 0),.const (xG 0),.const (xG 1)]) (l:=[0,1,1,0,1,0,0,1]) underlying25 sizeOf2 zeroValue2 rfl F rfl rfl rfl rfl rfl rfl (by simp only[List.forall_mem_cons,List.not_mem_nil,false_implies,implies_true,and_true];exact⟨(show xZ (0) by decide),(show xZ (1) by decide),(show xZ (1) by decide),(show xZ (0) by decide),(show xZ (1) by decide),(show xZ (0) by decide),(show xZ (0) by decide),(show xZ (1) by decide)⟩) H fun a w C H F=>kV underlying27 zeroValue27 (fun w=>by simp [sizeOf2,sizeOf25];rfl) F rfl rfl rfl rfl rfl (oc rfl (oc (H.l 0 rfl).one on)) rfl rfl fun a F=>oWA (vs:=[xG 3,C]) sizeOf27 F rfl rfl rfl (H.s [1,0] rfl rfl) (oc rfl (oc ((H.s [1,0] rfl rfl).l 1 rfl).one on)) rfl rfl fun w H=>xJ (xT ?_)))));refine xS F rfl (gU (arr:=#[xG 3,C]) F isAgg27 sizeOf27 rfl (H.b 0 rfl)) ?_;obtain rfl:=oj d;exact⟨_,rfl,C,rfl,(H.s [1] rfl rfl),(show xZ (3) by decide)⟩
def dB (d:Int):Option Op:=
 xY (iF d) fun c=>
 some ((Op.mk c.arity c.table))
theorem spec_P6ClassOp_c {B:Nat→Prop} {d:Int} (r:Op) (e:dB d=some r)  (f:World) (p:∀ c,B c→c<f.heap.size) (n:xZ d):Calls Tryz.prog 6 #[xG d] f (Gv (fun v w'=>∃ (j:Value),v= .agg #[xG r.arity,j]∧Sep [] B f w' [rl 1 xH 2 j r.table]∧xZ r.arity)):=by
 unfold dB at e
 refine xV (L:=[(0,xG d)]) func6 rfl rfl rfl (sc rfl sn) (fun a F=>?_);have H:=Sep.start p;refine xP (oA zeroValue27 F rfl rfl H fun a w A H F=>qO (xA 1 F rfl fun a F=>?_));obtain⟨h,t,e⟩:=xB e;refine oG F rfl call28 rfl (spec_l09Op_c h t _ aA n) (fun a x w ⟨i,z,S,y⟩ F=>?_);subst x;have H:=H.r1 S n0;refine oWA (vs:=[xG h.arity,i]) sizeOf27 F rfl rfl rfl (H.s [1,0] rfl rfl) (oc rfl (oc ((H.s [1,0] rfl rfl).l 1 rfl).one on)) rfl rfl fun w H=>xJ (xT (xS F rfl (gU (arr:=#[xG h.arity,i]) F isAgg27 sizeOf27 rfl (H.b 0 rfl)) ?_));obtain rfl:=oj e;exact⟨_,rfl,i,rfl,(H.s [1] rfl rfl),y⟩
def kC (N:Nat) (f h:Int):Option Int:=
 vT (σ:=Int×Int) (
  cF (σ:=Int×Int) (ρ:=Int) (fun(s:Int×Int)=>
    match s with
    | (c,d)=>
    if (decide (0<c)) then
     xY (ck (d*f)) fun i=>
     xY (ck (c - 1)) fun j=>
     some (.go (j,i))
    else
     some (.brk (c,d))) N (h,1)) fun(n,e)=>
 some e
theorem cE {B:Nat→Prop} {N:Nat} {e f:Int} (r:Int) (d:kC N e f=some r)  (h:World) (I:∀ c,B c→c<h.heap.size) (R:xZ e) (C:xZ f):Calls Tryz.prog 66 #[xG e,xG f] h (dW r h):=by
 unfold kC at d
 refine xV (L:=[(0,xG e),(1,xG f)]) func66 rfl rfl rfl (sc rfl (sc rfl sn)) (fun a F=>?_);have H:=Sep.start I;refine xP (xA 1 F rfl fun a F=>qO (xA 1 F rfl fun a F=>xJ (xC ?_)));obtain⟨y,d,D⟩:=xK d;refine xX (fun a w=>∃ (t n:Int),y= .nx (t,n)∧Sk a 14 [(5,xG n)]∧Sep [] B h w []∧xZ t∧xZ n) ?_ ?_
 ·
  refine xW ?_;obtain⟨E,G,d⟩:=kU d;refine oU (fun g a w=>∃ (i j:Int),cF E g (i,j)=some y∧Sk a 14 [(0,xG e),(1,xG i),(5,xG j)]∧Sep [] B h w []∧xZ i∧xZ j) N ?_ ?_
  ·
   exact⟨f,1,d,F.su,H,C,(show xZ (1) by decide)⟩
  intro U a w ⟨i,j,d,F,H,J,K⟩;obtain⟨S,M,T,d,x⟩:=zK d;rw[G] at d;refine xC (xP (xA 2 F rfl fun a F=>xJ (qP F rfl (fun p=>?_) (fun p=>?_))))
  ·
   replace d:=vR p d;refine xL (xF (xC (xW (xU (xA 2 F rfl fun a F=>?_)))));obtain⟨O,z,d⟩:=xB d;refine o_mul F rfl rfl rfl z fun a F=>xA 1 F rfl fun a F=>oY (qS (xF (xU (xA 1 F rfl fun a F=>?_))));obtain⟨P,A,d⟩:=xB d;refine iS F rfl rfl rfl A fun a F=>xA 1 F rfl fun a F=>xJ ?_;replace d:=qX d x;exact⟨M,(by omega),P,O,d,F.su,H,(kG A),(kG z)⟩
  replace d:=vQ p d;refine oM (oR (oR ?_));replace d:=eL d x;refine vH (xF ?_);exact⟨i,j,(vE d),F.su,H,J,K⟩
 rintro a w ⟨t,n,rfl,F,H,V,Q⟩
 have d:=xN D;refine xF (xP (xA 2 F rfl fun a F=>xJ (xT (xS F rfl (oD F rfl) ?_))));obtain rfl:=oj d;exact⟨⟨rfl,H.bl⟩,Q⟩
def dF (d:List UInt8) (e f h:Int):Option (Bool×Int×Int):=
 xY (qZ d e f h) fun c=>
 some ((c.1==0),c.2.1,c.2.2)
theorem spec_l00Src_one_c {B:Nat→Prop} {x:List UInt8} {h n i:Int} (r:Bool×Int×Int) (j:dF x h n i=some r) {e:Nat} {f:Value} {p:List Nat} (d:World) (N:∀ c,B c→c<d.heap.size) (D:Sep p B d d [bx e [f,xG h,.int .u64 n] 107]) (y:Bo B d (Sl 1 cL) f x) (z:xZ h) (A:xZ i):Calls Tryz.prog 67 #[vK e,xG i] d (Gv (fun v w'=>v= .bool r.1∧Sep p B d w' [bx e [f,xG r.2.1,.int .u64 r.2.2] 107]∧xZ r.2.1)):=by
 unfold dF at j
 refine xV (L:=[(0,vK e),(1,xG i)]) func67 rfl rfl rfl (sc rfl (sc rfl sn)) (fun a F=>?_);have H:=D;refine xP (xA 1 F rfl fun a F=>qO (xA 2 F rfl fun a F=>?_));obtain⟨t,E,j⟩:=xB j;obtain⟨O,K1,C⟩:=Sep.lend (K:=[bx e [f,xG h,.int .u64 n] 107]) (L:=[]) H;refine oG F rfl call27 rfl (zJ t E _ H.hN K1 (H.u y) z A) (fun a G w ⟨J,S,M,I⟩ F=>?_);subst G;have H:Sep p B d w [bx e [f,xG t.2.1,.int .u64 t.2.2] 107]:=C S;refine xA 2 F rfl fun a F=>xJ (xT (xS F rfl (oD F rfl) ?_));obtain rfl:=oj j;exact⟨_,rfl,rfl,H,I⟩
def aT (N:Nat) (f h i:Int):Option (List Int):=
 xY (mkz (0:Int) h) fun j=>
 xY (ck (h - 1)) fun n=>
 vT (σ:=Int×Int×(List Int)) (
  cF (σ:=Int×Int×(List Int)) (ρ:=(List Int)) (fun(s:Int×Int×(List Int))=>
    match s with
    | (e,c,d)=>
    if (decide (0≤c)) then
     xY (rm e f) fun p=>
     xY (ix d c) fun z=>
     xY (dv e f) fun t=>
     xY (ck (c - 1)) fun x=>
     some (.go (t,x,(d.set (c).toNat p)))
    else
     some (.brk (e,c,d))) N (i,n,j)) fun(A,B,y)=>
 some y
theorem bH {B:Nat→Prop} {N:Nat} {h t i:Int} (r:(List Int)) (d:aT N h t i=some r)  (j:World) (Y:∀ c,B c→c<j.heap.size) (S:xZ h) (a8:xZ t) (T:xZ i):Calls Tryz.prog 68 #[xG h,xG t,xG i] j (Gv (fun v w'=>∃ (E:Value),v=E∧Sep [] B j w' [rl 1 xH 2 E r])):=by
 unfold aT at d
 refine xV (L:=[(0,xG h),(1,xG t),(2,xG i)]) func68 rfl rfl rfl (sc rfl (sc rfl (sc rfl sn))) (fun a F=>?_);have H:=Sep.start Y;refine xP (xA 1 F rfl fun a F=>qO (xA 1 F rfl fun a F=>?_));obtain⟨Z,c1,d⟩:=xB d;refine oRM (sz:=1) (R:=xH) (z:=(xG 0)) (bytes:=8) underlying25 (by kernel_rfl) rfl (by decide) (by decide) (fun w=>⟨rfl,by decide,rfl⟩) F rfl rfl rfl c1 H fun a w v1 H F=>xA 1 F rfl fun a F=>xJ (xC (xP (xA 1 F rfl fun a F=>?_)));obtain⟨z2,G,d⟩:=xB d;refine iS F rfl rfl rfl G fun a F=>xA 1 F rfl fun a F=>xJ ?_;obtain⟨J,d,U⟩:=xK d;refine xX (fun a w=>∃ (A C:Int) (D:List Int) (x:Value),J= .nx (A,C,D)∧Sk a 27 [(7,x)]∧Sep [] B j w [rl 1 xH 2 x D]∧xZ A∧xZ C) ?_ ?_
 ·
  refine xW ?_;obtain⟨V,W,d⟩:=kU d;refine oU (fun g a w=>∃ (n e:Int) (f:List Int) (p:Value),cF V g (n,e,f)=some J∧Sk a 27 [(0,xG h),(2,xG n),(7,p),(8,xG e)]∧Sep [] B j w [rl 1 xH 2 p f]∧xZ n∧xZ e) N ?_ ?_
  ·
   exact⟨i,z2,Z,v1,d,F.su,H,T,(kG G)⟩
  intro g1 a w ⟨n,e,f,p,d,F,H,K,i2⟩;obtain⟨a9,t1,aa,d,I⟩:=zK d;rw[W] at d;refine xC (xP (xA 2 F rfl fun a F=>xJ (qP F rfl (fun y=>?_) (fun y=>?_))))
  ·
   replace d:=vR y d;refine xL (xF (xC (xW (xP (xA 4 F rfl fun a F=>?_)))));obtain⟨z3,M,d⟩:=xB d;refine o_rem F rfl rfl rfl M (fun a F=>?_);obtain⟨z4,O,d⟩:=xB d;refine oRl underlying25 sizeOf2 F rfl rfl rfl H 0 rfl O (fun a p1 h1 X F=>?_);have H:=H.lw;refine oS sizeOf2 F rfl rfl rfl H X (ix_lt O) (Eo.int (rm64 M K S)) rfl rfl (fun w H=>?_);have H:=H.tl;refine xJ (xU (xA 2 F rfl fun a F=>?_));obtain⟨z5,P,d⟩:=xB d;refine o_quo F rfl rfl rfl P fun a F=>xA 1 F rfl fun a F=>oY (qS (xF (xU (xA 1 F rfl fun a F=>?_))));obtain⟨z6,Q,d⟩:=xB d;refine iS F rfl rfl rfl Q fun a F=>xA 1 F rfl fun a F=>xJ ?_;replace d:=qX d I;exact⟨t1,(by omega),z5,z6,(f.set (e).toNat z3),p,d,F.su,H,(dv64 P),(kG Q)⟩
  replace d:=vQ y d;refine oM (oR (oR ?_));replace d:=eL d I;refine vH (xF ?_);exact⟨n,e,f,p,(vE d),F.su,H,K,i2⟩
 rintro a w ⟨A,C,D,x,rfl,F,H,i3,i4⟩
 have d:=xN U;refine xF (xP (xA 2 F rfl fun a F=>xJ (xT (xS F rfl (oD F rfl) ?_))));obtain rfl:=oj d;exact⟨_,rfl,x,rfl,H⟩
def fQ (N:Nat) (d:List UInt8) (t x i e:Int):Option (Rel×Int×Int):=
 xY (qZ d t x 5) fun f=>
 xY (kC N i e) fun y=>
 vT (σ:=Int×Int×(List (List Int))) (
  zH (σ:=Int×Int×(List (List Int))) (ρ:=Rel×Int×Int) (fun(z:Nat) (s:Int×Int×(List (List Int)))=>
    match s with
    | (A,B,j)=>
    vT (σ:=Bool×Int×Int) (
     xY (qZ d A B 5) fun c=>
     if (decide (c.1≤f.1)) then  some (.nx (true,c.2.1,c.2.2)) else  xY (dF d c.2.1 c.2.2 8) fun h=>
      some (.nx (h.1,h.2.1,h.2.2))) fun(C,n,p)=>
    if C then
     xY (aT N i e (z:Int)) fun D=>
     xY (ap j ([D])) fun E=>
     some (.go (n,p,E))
    else
     some (.go (n,p,j))) y.toNat 0 (f.2.1,f.2.2,[])) fun(F,G,H)=>
 some ((Rel.mk e H),F,G)
theorem spec_l01Drawn_c {B:Nat→Prop} {N:Nat} {ae:List UInt8} {Z a4 I e:Int} (r:Rel×Int×Int) (d:fQ N ae Z a4 I e=some r) {h:Nat} {n:Value} {x:List Nat} (p:World) (hN:∀ c,B c→c<p.heap.size) (S0:Sep x B p p [bx h [n,xG Z,.int .u64 a4] 107]) (a3:Bo B p (Sl 1 cL) n ae) (au:xZ Z) (a5:xZ I) (a0:xZ e):Calls Tryz.prog 29 #[vK h,xG I,xG e] p (Gv (fun v w'=>∃ (af:Value),v= .agg #[xG r.1.arity,af]∧Sep x B p w' [rl 1 (vO 1 xH) 25 af r.1.tuples,bx h [n,xG r.2.1,.int .u64 r.2.2] 107]∧xZ r.1.arity∧xZ r.2.1)):=by
 unfold fQ at d
 refine xV (L:=[(0,vK h),(1,xG I),(2,xG e)]) func29 rfl rfl rfl (sc rfl (sc rfl (sc rfl sn))) (fun a F=>?_);have H:=S0;refine xP (oA zeroValue51 F rfl rfl H fun a w i H F=>qO (xA 1 F rfl fun a F=>kV underlying51 zeroValue51 (fun w=>by simp [sizeOf2,sizeOf45];rfl) F rfl rfl rfl rfl rfl (oc rfl on) rfl rfl fun a F=>oA zeroValue51 F rfl rfl H fun a w j H F=>oWA (vs:=[xG e,aE]) sizeOf51 F rfl rfl rfl H (oc rfl (oc rfl on)) rfl rfl (fun w H=>?_)));refine qO (xA 1 F rfl fun a F=>?_);obtain⟨A,c1,d⟩:=xB d;obtain⟨X1,av,aw⟩:=Sep.lend (K:=[bx h [n,xG Z,.int .u64 a4] 107]) (L:=[bx j [xG e,aE] 51,bx i [xG 0,aE] 51]) (H.s [2,0,1] rfl rfl);refine oG F rfl call27 rfl (zJ A c1 _ H.hN av (H.u a3) au (show xZ (5) by decide)) (fun a C w ⟨bn,S,i1,i2⟩ F=>?_);subst C;have H:Sep x B p w [bx h [n,xG A.2.1,.int .u64 A.2.2] 107,bx j [xG e,aE] 51,bx i [xG 0,aE] 51]:=aw S;refine xA 1 F rfl fun a F=>qO (xA 2 F rfl fun a F=>?_);obtain⟨D,c2,d⟩:=xB d;refine oKI F rfl call66 rfl H (cE D c2 _ aA a5 a0) fun a w H W F=>xA 1 F rfl fun a F=>xJ (xC (xP (xA 1 F rfl fun a F=>xJ ?_)));obtain⟨o1,d,ax⟩:=xK d;refine xX (fun a w=>∃ (s1 s2:Int) (s3:List (List Int)) (Q:Value),o1= .nx (s1,s2,s3)∧Sk a 41 [(0,vK h),(6,vK i),(7,vK j)]∧Sep x B p w [rl 1 (vO 1 xH) 25 Q s3,bx h [n,xG s1,.int .u64 s2] 107,bx j [xG e,Q] 51,bx i [xG 0,aE] 51]∧xZ s1) ?_ ?_
 ·
  refine xW ?_;obtain⟨ay,az,d⟩:=zG d;refine oU (fun g a w=>∃ (E:Nat) (T Y:Int) (t:List (List Int)) (f:Value),E+g=D.toNat∧zH ay g E (T,Y,t)=some o1∧Sk a 41 [(10,xG (E:Int)),(0,vK h),(1,xG I),(2,xG e),(6,vK i),(7,vK j),(8,xG A.1),(9,xG D)]∧Sep x B p w [rl 1 (vO 1 xH) 25 f t,bx h [n,xG T,.int .u64 Y] 107,bx j [xG e,f] 51,bx i [xG 0,aE] 51]∧xZ T) D.toNat ?_ ?_
  ·
   exact⟨0,A.2.1,A.2.2,[],aE,(Nat.zero_add _),d,F.su,(H.nl 1 (vO 1 xH) 25),i2⟩
  intro g1 a w ⟨E,T,Y,t,f,a1,d,F,H,i3⟩
  cases g1 with
  | zero=>
   replace d:=vY d;have l1:=kT a1;refine xC (xP (xA 3 F rfl fun a F=>xJ (qT F rfl l1 (oM (oR ?_)))));refine oR (vH (xF ?_));exact⟨T,Y,t,f,(vE d),F.su,H,i3⟩
  | succ g1=>
   obtain⟨bp,d,ag⟩:=vX d;rw[az] at d;have l1:=zW a1;refine xC (xP (xA 3 F rfl fun a F=>xJ (qV F rfl l1 (xL (xF ?_)))));refine xC ?_;have j1:=k64I a1 W;have m1:=bC a1 W;refine xW (xC ?_);obtain⟨o2,d,b0⟩:=xK d;refine xX (fun a w=>∃ (s7:Bool) (J O:Int),o2= .nx (s7,J,O)∧Sk a 41 [(0,vK h),(1,xG I),(2,xG e),(6,vK i),(7,vK j),(8,xG A.1),(9,xG D),(10,xG (E:Int)),(30,.bool s7)]∧Sep x B p w [rl 1 (vO 1 xH) 25 f t,bx h [n,xG J,.int .u64 O] 107,bx j [xG e,f] 51,bx i [xG 0,aE] 51]∧xZ J) ?_ ?_
   ·
    refine xU (xA 1 F rfl fun a F=>?_);obtain⟨M,c3,d⟩:=xB d;obtain⟨X2,K1,b1⟩:=Sep.lend (K:=[bx h [n,xG T,.int .u64 Y] 107]) (L:=[rl 1 (vO 1 xH) 25 f t,bx j [xG e,f] 51,bx i [xG 0,aE] 51]) (H.s [1,0,2,3] rfl rfl);refine oG F rfl call27 rfl (zJ M c3 _ H.hN K1 (H.u a3) i3 (show xZ (5) by decide)) (fun a C w ⟨bq,S,i4,i5⟩ F=>?_);subst C;have H:Sep x B p w [bx h [n,xG M.2.1,.int .u64 M.2.2] 107,rl 1 (vO 1 xH) 25 f t,bx j [xG e,f] 51,bx i [xG 0,aE] 51]:=b1 S;refine xA 3 F rfl fun a F=>?_
    rcases qU (decide (M.1≤A.1)) with X | X
    ·
     replace d:=vR X d;have F:=F.eb 27 rfl X;refine xA 3 F rfl fun a F=>xJ ?_;exact⟨true,M.2.1,M.2.2,(vE d),F.su,(H.s [1,0,2,3] rfl rfl),i5⟩
    replace d:=vQ X d;have F:=F.eb 27 rfl X;refine xA 1 F rfl fun a F=>?_;obtain⟨U,c4,d⟩:=xB d;obtain⟨X3,K2,b2⟩:=Sep.lend (K:=[bx h [n,xG M.2.1,.int .u64 M.2.2] 107]) (L:=[rl 1 (vO 1 xH) 25 f t,bx j [xG e,f] 51,bx i [xG 0,aE] 51]) H;refine oG F rfl call67 rfl (spec_l00Src_one_c U c4 _ H.hN K2 (H.u a3) i5 (show xZ (8) by decide)) (fun a C w ⟨br,S,i6⟩ F=>?_);subst C;have H:Sep x B p w [bx h [n,xG U.2.1,.int .u64 U.2.2] 107,rl 1 (vO 1 xH) 25 f t,bx j [xG e,f] 51,bx i [xG 0,aE] 51]:=b2 S;refine xA 1 F rfl fun a F=>xJ ?_;exact⟨U.1,U.2.1,U.2.2,(vE d),F.su,(H.s [1,0,2,3] rfl rfl),i6⟩
   rintro a w ⟨s7,J,O,rfl,F,H,i7⟩
   have d:=xN b0;refine xF (qP F rfl (fun a6=>?_) (fun a6=>?_))
   ·
    replace d:=vR a6 d;obtain⟨V,c5,d⟩:=xB d;obtain⟨z6,c6,d⟩:=xB d;refine xD H (by kernel_rfl) fun w H=>dp (fun G=>∀ (v3:Value) (a:Act) (w:World),Sk a 41 [(0,vK h),(1,xG I),(2,xG e),(6,vK i),(7,vK j),(8,xG A.1),(9,xG D),(10,xG (E:Int)),(32,f),(37,v3)]→Sep x B p w [rl 1 (vO 1 xH) 25 v3 ([V]),rl 1 (vO 1 xH) 25 f t,bx h [n,xG J,.int .u64 O] 107,bx j [xG e,f] 51,bx i [xG 0,aE] 51]→xZ D→∀ P,P = #[true,true,true,true,true,true,true,false,false,false]→G 3 P a w) ?_ (fun H1=>?_)
    ·
     intro v3 a w F H i8 P a7;subst a7;refine xE H 7 rfl (by kernel_rfl) (oPL (sz:=1) (R:=(vO 1 xH)) (z:=(aE)) (bytes:=24) underlying45 (by kernel_rfl) rfl rfl F rfl rfl rfl (H.s [1,0,2,3,4] rfl rfl) c6 fun a w v4 H F=>xJ ⟨⟨_,H⟩,?_⟩);refine qY 8 rfl (by kernel_rfl) (oJ F rfl (fun w l=>vG vW F rfl rfl) fun a F=>xE H 9 rfl (by kernel_rfl) (oW sizeOf45 F rfl rfl rfl (H.s [2,0,1,3] rfl rfl) ((H.s [2,0,1,3] rfl rfl).l 1 rfl).one rfl rfl fun w H=>xJ ⟨⟨_,H⟩,?_⟩));refine bF (by kernel_rfl) (qS (xF (xU (xA 1 F rfl fun a F=>qQ F rfl rfl rfl m1 fun a F=>xA 1 F rfl fun a F=>xJ ?_))));replace d:=qX d ag;exact⟨_,Nat.lt_succ_self _,E+1,J,O,z6,v4,(by omega),d,F.su,(H.s [1,2,0,3] rfl rfl),i7⟩
    refine dp (fun G=>∀ (v5:Value) (a:Act) (w:World),Sk a 41 [(0,vK h),(1,xG I),(2,xG e),(6,vK i),(7,vK j),(8,xG A.1),(9,xG D),(10,xG (E:Int)),(32,f),(36,v5)]→Sep x B p w [rl 1 xH 2 v5 V,rl 1 (vO 1 xH) 25 f t,bx h [n,xG J,.int .u64 O] 107,bx j [xG e,f] 51,bx i [xG 0,aE] 51]→xZ D→∀ P,P = #[true,true,true,true,true,true,false,false,false,false]→G 4 P a w) ?_ (fun H2=>?_)
    ·
     intro v5 a w F H i9 P a7;subst a7;refine xE H 6 rfl (by kernel_rfl) ?_;have H:=H.os;refine oR1L (R:=(vO 1 xH)) (y:=V) underlying45 sizeOf25 zeroValue25 rfl rfl F rfl rfl H El.sl fun a w v6 H F=>xJ ⟨⟨_,H⟩,?_⟩;exact H1 v6 _ _ (F.su) H i9 _ (by kernel_rfl)
    refine qY 0 rfl (by kernel_rfl) (oJ F rfl (fun w l=>vG vW F rfl rfl) fun a F=>vM 2 rfl (by kernel_rfl) (oJ F rfl (fun w l=>xM F rfl) fun a F=>vM 3 rfl (by kernel_rfl) (oJ F rfl (fun w l=>xM F rfl) fun a F=>vM 4 rfl (by kernel_rfl) (oJ F rfl (fun w l=>xM F rfl) fun a F=>b_es [1,5] (by kernel_rfl) (by simp) ⟨⟨_,rfl,?_⟩,⟨_,rfl,?_⟩,trivial⟩))))
    ·
     refine xEs H (oB isAgg45 F rfl rfl (H.b 2 rfl) rfl fun a F=>xJ ⟨⟨_,H⟩,?_⟩);refine xE H 5 rfl (by kernel_rfl) (oG F rfl call68 rfl (bH V c5 _ aA a5 a0 j1) (fun a C w ⟨v7,bt,S⟩ F=>?_));subst C;have H:=H.r1 S n0;refine xJ ⟨⟨_,H⟩,?_⟩;exact H2 v7 _ _ (F.su) H W _ (by kernel_rfl)
    refine xEs H (oG F rfl call68 rfl (bH V c5 _ aA a5 a0 j1) (fun a C w ⟨v8,bu,S⟩ F=>?_));subst C;have H:=H.r1 S n0;refine xJ ⟨⟨_,H⟩,?_⟩;refine b_es [1,6] (by kernel_rfl) (by simp) ⟨⟨_,rfl,?_⟩,⟨_,rfl,?_⟩,trivial⟩
    ·
     refine xEs H (oB isAgg45 F rfl rfl (H.b 3 rfl) rfl fun a F=>xJ ⟨⟨_,H⟩,?_⟩);exact H2 v8 _ _ (F.su) H W _ (by kernel_rfl)
    refine xEs H ?_;have H:=H.os;refine oR1L (R:=(vO 1 xH)) (y:=V) underlying45 sizeOf25 zeroValue25 rfl rfl F rfl rfl H El.sl fun a w v9 H F=>xJ ⟨⟨_,H⟩,?_⟩;refine xE H 1 rfl (by kernel_rfl) (oB isAgg45 F rfl rfl (H.b 3 rfl) rfl fun a F=>xJ ⟨⟨_,H⟩,?_⟩);exact H1 v9 _ _ (F.su) H W _ (by kernel_rfl)
   replace d:=vQ a6 d;refine xL (qS (xF (xU (xA 1 F rfl fun a F=>qQ F rfl rfl rfl m1 fun a F=>xA 1 F rfl fun a F=>xJ ?_))));replace d:=qX d ag;exact⟨_,Nat.lt_succ_self _,E+1,J,O,t,f,(by omega),d,F.su,H,i7⟩
 rintro a w ⟨s1,s2,s3,Q,rfl,F,H,b3⟩
 have d:=xN ax;refine xF (xP (fU isAgg51 sizeOf51 F rfl rfl (H.b 2 rfl) rfl rfl fun a F=>oWA (vs:=[xG e,Q]) sizeOf51 F rfl rfl rfl (H.s [3,0,1,2] rfl rfl) (oc rfl (oc ((H.s [3,0,1,2] rfl rfl).l 1 rfl).one on)) rfl rfl fun w H=>xJ (xT (xS F rfl (gU (arr:=#[xG e,Q]) F isAgg51 sizeOf51 rfl (H.b 0 rfl)) ?_))));obtain rfl:=oj d;exact⟨_,rfl,Q,rfl,(H.s [1,2] rfl rfl),a0,b3⟩
def spec_l01Empty (N:Nat) (c d:Int):Option (Int×Int×(List Bool)):=
 xY (kC N c d) fun e=>
 xY (mkz (false:Bool) e) fun f=>
 some ((c,d,f))
theorem spec_l01Empty_c {B:Nat→Prop} {N:Nat} {e f:Int} (r:(Int×Int×(List Bool))) (d:spec_l01Empty N e f=some r)  (h:World) (t:∀ c,B c→c<h.heap.size) (i:xZ e) (j:xZ f):Calls Tryz.prog 71 #[xG e,xG f] h (Gv (fun v w'=>∃ (n:Nat) (p:Value),v=vK n∧Sep [] B h w' [bx n [xG r.1,xG r.2.1,p] 116,rl 1 kN 4 p r.2.2]∧xZ r.1∧xZ r.2.1)):=by
 unfold spec_l01Empty at d
 refine xV (L:=[(0,xG e),(1,xG f)]) func71 rfl rfl rfl (sc rfl (sc rfl sn)) (fun a F=>?_);have H:=Sep.start t;refine xP (xA 1 F rfl fun a F=>qO (xA 4 F rfl fun a F=>?_));obtain⟨x,y,d⟩:=xB d;refine oKI F rfl call66 rfl H (cE x y _ aA i j) (fun a w H E F=>?_);obtain⟨G,A,d⟩:=xB d;refine oRM (sz:=1) (R:=kN) (z:=(.bool false)) (bytes:=1) underlying114 (by kernel_rfl) rfl (by decide) (by decide) (fun w=>⟨rfl,rfl⟩) F rfl rfl rfl A H fun a w C H F=>kV underlying116 zeroValue116 (fun w=>by simp [sizeOf114,sizeOf2];rfl) F rfl rfl rfl rfl rfl (oc rfl (oc rfl (oc (H.l 0 rfl).one on))) rfl rfl fun a F=>oX F rfl rfl rfl H fun a w D H F=>xA 1 F rfl fun a F=>xJ (xT (xS F rfl (oD F rfl) ?_));obtain rfl:=oj d;exact⟨_,rfl,D,C,rfl,H,i,j⟩
def gL (c:Int) (d:List Int):Option Int:=
 vT (σ:=Int) (
  qJ (σ:=Int) (ρ:=Int) (fun (n:Nat) (e f:Int)=>
   xY (ck (f*c)) fun h=>
   xY (ck (h+e)) fun i=>
   some (.go i)) d 0 0) fun j=>
 some j
theorem eO {B:Nat→Prop} {n:Int} {i:List Int} (r:Int) (d:gL n i=some r) {t:Value} (j:World) (P:∀ c,B c→c<j.heap.size) (X:xZ n) (z:Bo B j (Sl 1 xH) t i):Calls Tryz.prog 72 #[xG n,t] j (dW r j):=by
 unfold gL at d
 refine xV (L:=[(0,xG n),(1,t)]) func72 rfl rfl rfl (sc rfl (sc rfl sn)) (fun a F=>?_);have H:=Sep.start P;refine xP (xA 1 F rfl fun a F=>qO (xA 1 F rfl fun a F=>xJ (xC ?_)));refine xP (xA 1 F rfl fun a F=>xJ ?_);obtain⟨A,d,J⟩:=xK d;refine xX (fun a w=>∃ (x:Int),A= .nx x∧Sk a 22 [(5,xG x)]∧Sep [] B j w []∧xZ x) ?_ ?_
 ·
  refine xW ?_;obtain⟨K,M,d⟩:=qE d;refine oU (fun g a w=>∃ (h:Nat) (f:List Int) (p:Int),(h≤i.length∧i.drop h=f)∧f.length=g∧qJ K f h p=some A∧Sk a 22 [(6,xG (h:Int)),(0,xG n),(1,t),(5,xG p)]∧Sep [] B j w []∧xZ p) i.length ?_ ?_
  ·
   exact⟨0,i,0,⟨Nat.zero_le _,rfl⟩,rfl,d,F.su,H,(show xZ (0) by decide)⟩
  intro Y a w ⟨h,f,p,e,N,d,F,H,Q⟩
  cases f with
  | nil=>
   replace d:=qH d;have E:=qG e.1 e.2;have y:=vA E;refine xC (xP (xA 2 F rfl fun a F=>oL underlying25 F rfl rfl z fun a Z F=>xA 1 F rfl fun a F=>xJ (qT F rfl y (oM ?_))));refine oR (oR (vH (xF ?_)));exact⟨p,(vE d),F.su,H,Q⟩
  | cons x2 f=>
   subst N;replace e:=oO e.2;have G:=oZ e.2.1;obtain⟨W,d,O⟩:=oV d;rw[M] at d;have y:=qM e.1;refine xC (xP (xA 2 F rfl fun a F=>oL underlying25 F rfl rfl z fun a C F=>xA 1 F rfl fun a F=>xJ (qV F rfl y (xL ?_))));refine xF (xC ?_);have V:=fE (Nat.le_of_lt e.1) C;have I:=zC e.1 C;refine xW (xU (xA 2 F rfl fun a F=>?_));obtain⟨z1,R,d⟩:=xB d;refine o_mul F rfl rfl rfl R fun a F=>xA 2 F rfl fun a F=>oI underlying25 sizeOf2 F rfl rfl rfl z G fun a p1 S F=>aN isAgg2 F rfl rfl H.sm S (fun a i4 F=>?_);obtain⟨T,D,d⟩:=xB d;refine kI F rfl rfl rfl D fun a F=>xA 1 F rfl fun a F=>oY (qS (xF (xU (xA 1 F rfl fun a F=>qQ F rfl rfl rfl I fun a F=>xA 1 F rfl fun a F=>xJ ?_))));replace d:=qX d O;exact⟨_,Nat.lt_succ_self _,h+1,f,T,⟨e.1,e.2.2⟩,rfl,d,F.su,H,(kG D)⟩
 rintro a w ⟨x,rfl,F,H,U⟩
 have d:=xN J;refine xF (xP (xA 2 F rfl fun a F=>xJ (xT (xS F rfl (oD F rfl) ?_))));obtain rfl:=oj d;exact⟨⟨rfl,H.bl⟩,U⟩
def aH (N:Nat) (d:Int) (e:Rel):Option (Int×Int×(List Bool)):=
 xY (spec_l01Empty N d e.arity) fun c=>
 vT (σ:=(List Bool)) (
  qJ (σ:=(List Bool)) (ρ:=(Int×Int×(List Bool))) (fun (n:Nat) (i:(List Int)) (f:(List Bool))=>
   xY (gL d i) fun h=>
   xY (ix f h) fun p=>
   some (.go (f.set (h).toNat true))) e.tuples 0 c.2.2) fun j=>
 some ((c.1,c.2.1,j))
theorem spec_l01SetOf_c {B:Nat→Prop} {N:Nat} {x:Int} {y:Rel} (r:(Int×Int×(List Bool))) (d:aH N x y=some r) {A:Value} (n:World) (hN:∀ c,B c→c<n.heap.size) (E:xZ x) (f:Bo B n (Pt 2 qD) A y):Calls Tryz.prog 31 #[xG x,A] n (Gv (fun v w'=>∃ (O:Nat) (P:Value),v=vK O∧Sep [] B n w' [bx O [xG r.1,xG r.2.1,P] 116,rl 1 kN 4 P r.2.2]∧xZ r.1∧xZ r.2.1)):=by
 unfold aH at d
 refine xV (L:=[(0,xG x),(1,A)]) func31 rfl rfl rfl (sc rfl (sc rfl sn)) (fun a F=>?_);have H:=Sep.start hN;refine xP (xA 1 F rfl fun a F=>qO (xA 2 F rfl fun a F=>oN F rfl rfl f fun a F=>oF (s':=1) cB F rfl rfl f qD.f0 (fun a p1 h1 F=>?_)));refine aN isAgg2 F rfl rfl H.sm h1 (fun a i1 F=>?_);obtain⟨h,c1,d⟩:=xB d;refine oG F rfl call71 rfl (spec_l01Empty_c h c1 _ aA E i1) (fun a vv w ⟨j,v2,am,S,i2,i3⟩ F=>?_);subst vv;have H:=H.rk S ⟨n0,⟨n0,trivial⟩⟩ rfl;refine xA 1 F rfl fun a F=>xJ (xC (xP (xA 1 F rfl fun a F=>xJ ?_)));obtain⟨R,d,X⟩:=xK d;refine xX (fun a w=>∃ (J:List Bool) (D:Value),R= .nx J∧Sk a 37 [(5,vK j)]∧Sep [] B n w [bx j [xG h.1,xG h.2.1,D] 116,rl 1 kN 4 D J]) ?_ ?_
 ·
  refine xW ?_;obtain⟨Y,Z,d⟩:=qE d;refine oU (fun g a w=>∃ (p:Nat) (t:List (List Int)) (z:List Bool) (i:Value),(p≤y.tuples.length∧y.tuples.drop p=t)∧t.length=g∧qJ Y t p z=some R∧Sk a 37 [(6,xG (p:Int)),(0,xG x),(1,A),(5,vK j)]∧Sep [] B n w [bx j [xG h.1,xG h.2.1,i] 116,rl 1 kN 4 i z]) y.tuples.length ?_ ?_
  ·
   exact⟨0,y.tuples,h.2.2,v2,⟨Nat.zero_le _,rfl⟩,rfl,d,F.su,H⟩
  intro g1 a w ⟨p,t,z,i,e,a0,d,F,H⟩
  cases t with
  | nil=>
   replace d:=qH d;have q1:=qG e.1 e.2;have K:=vA q1;refine xC (xP (xA 2 F rfl fun a F=>oN F rfl rfl f fun a F=>oF (s':=1) vW F rfl rfl f qD.f1 fun a p2 h2 F=>aY isAgg45 F rfl rfl H.sm h2 fun a v5 h3 F=>oL underlying45 F rfl rfl h3 fun a i4 F=>xA 1 F rfl fun a F=>oY ?_));refine xF (qT F rfl K (oM (oR (oR (vH (xF ?_))))));exact⟨z,i,(vE d),F.su,H⟩
  | cons x2 t=>
   subst a0;replace e:=oO e.2;have y1:=oZ e.2.1;obtain⟨an,d,a1⟩:=oV d;rw[Z] at d;have K:=qM e.1;refine xC (xP (xA 2 F rfl fun a F=>oN F rfl rfl f fun a F=>oF (s':=1) vW F rfl rfl f qD.f1 fun a p3 h4 F=>aY isAgg45 F rfl rfl H.sm h4 fun a v6 h5 F=>oL underlying45 F rfl rfl h5 fun a T F=>xA 1 F rfl fun a F=>oY ?_));refine xF (qV F rfl K (xL (xF (xC ?_))));have j1:=fE (Nat.le_of_lt e.1) T;have m1:=zC e.1 T;refine xW ?_;obtain⟨C,U,d⟩:=xB d;obtain⟨z3,V,d⟩:=xB d;refine xD H (by kernel_rfl) fun w H=>dp (fun G=>∀ (a:Act) (w:World),Sk a 37 [(0,xG x),(1,A),(5,vK j),(6,xG (p:Int)),(25,i),(34,xG C)]→Sep [] B n w [bx j [xG h.1,xG h.2.1,i] 116,rl 1 kN 4 i z]→xZ C→∀ M,M = #[true,true,true,true,true,true,true,true,true,true,true,true,true,false,false]→G 2 M a w) ?_ (fun W=>?_)
   ·
    intro a w F H i6 M a2;subst a2;refine xE H 13 rfl (by kernel_rfl) (oRl underlying114 sizeOf4 F rfl rfl rfl H 1 rfl V fun a p4 h6 a3 F=>xJ ⟨⟨_,H⟩,?_⟩);refine xE H 14 rfl (by kernel_rfl) ?_;have H:=(H.s [1,0] rfl rfl).lw;refine oS sizeOf4 F rfl rfl rfl H a3 (ix_lt V) Eo.bool rfl rfl (fun w H=>?_);have H:=H.tl;refine xJ ⟨⟨_,H⟩,?_⟩;refine bF (by kernel_rfl) (qS (xF (xU (xA 1 F rfl fun a F=>qQ F rfl rfl rfl m1 fun a F=>xA 1 F rfl fun a F=>xJ ?_))));replace d:=qX d a1;exact⟨_,Nat.lt_succ_self _,p+1,t,(z.set (C).toNat true),i,⟨e.1,e.2.2⟩,rfl,d,F.su,(H.s [1,0] rfl rfl)⟩
   refine vM 0 rfl (by kernel_rfl) (oJ F rfl (fun w l=>xM F rfl) fun a F=>qY 1 rfl (by kernel_rfl) (oJ F rfl (fun w l=>zT F rfl) fun a F=>qY 2 rfl (by kernel_rfl) (oJ F rfl (fun w l=>vG fa116_2 F rfl rfl) fun a F=>vM 4 rfl (by kernel_rfl) (oJ F rfl (fun w l=>xM F rfl) fun a F=>vM 5 rfl (by kernel_rfl) (oJ F rfl (fun w l=>xM F rfl) fun a F=>qY 6 rfl (by kernel_rfl) ?_)))));refine vN F rfl rfl f fun a F=>qY 7 rfl (by kernel_rfl) (vF (s':=1) vW F rfl rfl f qD.f1 fun a p5 h7 F=>qY 8 rfl (by kernel_rfl) (vlS isAgg45 F rfl rfl H.v h7 fun a v7 h8 F=>vM 9 rfl (by kernel_rfl) (oJ F rfl (fun w l=>xM F rfl) fun a F=>qY 10 rfl (by kernel_rfl) (vI underlying45 sizeOf25 F rfl rfl rfl h8 y1 fun a p6 h9 F=>qY 11 rfl (by kernel_rfl) (vlS isAgg25 F rfl rfl H.v h9 (fun a v8 Q F=>?_))))));refine b_es [3,12] (by kernel_rfl) (by simp) ⟨⟨_,rfl,?_⟩,⟨_,rfl,?_⟩,trivial⟩
   ·
    refine xEs H (oB isAgg114 F rfl rfl (H.b 0 rfl) rfl fun a F=>xJ ⟨⟨_,H⟩,?_⟩);refine xE H 12 rfl (by kernel_rfl) (oKI F rfl call72 rfl H (eO C U _ aA E (H.a Q)) fun a w H I F=>xJ ⟨⟨_,H⟩,?_⟩);exact W _ _ (F.su) H I _ (by kernel_rfl)
   refine xEs H (oKI F rfl call72 rfl H (eO C U _ aA E (H.a Q)) fun a w H I F=>xJ ⟨⟨_,H⟩,?_⟩);refine xE H 3 rfl (by kernel_rfl) (oB isAgg114 F rfl rfl (H.b 0 rfl) rfl fun a F=>xJ ⟨⟨_,H⟩,?_⟩);exact W _ _ (F.su) H I _ (by kernel_rfl)
 rintro a w ⟨J,D,rfl,F,H⟩
 have d:=xN X;refine xF (xP (xA 2 F rfl fun a F=>xJ (xT (xS F rfl (oD F rfl) ?_))));obtain rfl:=oj d;exact⟨_,rfl,j,D,rfl,H,i2,i3⟩
def iA (N:Nat) (c:l01Set):Option Rel:=
 vT (σ:=(List (List Int))) (
  qJ (σ:=(List (List Int))) (ρ:=Rel) (fun (e:Nat) (f:Bool) (d:(List (List Int)))=>
   if f then
    xY (aT N c.size c.arity (e:Int)) fun h=>
    xY (ap d ([h])) fun i=>
    some (.go i)
   else
    some (.go d)) c.has 0 []) fun j=>
 some ((Rel.mk c.arity j))
theorem spec_l01Set_rel_c {B:Nat→Prop} {N:Nat} {e:l01Set} (r:Rel) (d:iA N e=some r) {D:Value} (n:World) (hN:∀ c,B c→c<n.heap.size) (h:Bo B n (Pt 3 kQ) D e):Calls Tryz.prog 69 #[D] n (Gv (fun v w'=>∃ (U:Value),v= .agg #[xG r.arity,U]∧Sep [] B n w' [rl 1 (vO 1 xH) 25 U r.tuples]∧xZ r.arity)):=by
 unfold iA at d
 refine xV (L:=[(0,D)]) func69 rfl rfl rfl (sc rfl sn) (fun a F=>?_);have H:=Sep.start hN;refine xP (oA zeroValue51 F rfl rfl H fun a w p H F=>qO (xA 1 F rfl fun a F=>oN F rfl rfl h fun a F=>oF (s':=1) fa116_1 F rfl rfl h kQ.f1 fun a p1 h1 F=>aN isAgg2 F rfl rfl H.sm h1 (fun a i1 F=>?_)));refine kV underlying51 zeroValue51 (fun w=>by simp [sizeOf2,sizeOf45];rfl) F rfl rfl rfl rfl rfl (oc rfl on) rfl rfl fun a F=>oA zeroValue51 F rfl rfl H fun a w t H F=>oWA (vs:=[xG e.arity,aE]) sizeOf51 F rfl rfl rfl H (oc rfl (oc rfl on)) rfl rfl fun w H=>xJ (xC (xP (xA 1 F rfl fun a F=>xJ ?_)));obtain⟨W,d,a5⟩:=xK d;refine xX (fun a w=>∃ (M:List (List Int)) (E:Value),W= .nx M∧Sk a 42 [(2,vK p),(3,vK t)]∧Sep [] B n w [rl 1 (vO 1 xH) 25 E M,bx t [xG e.arity,E] 51,bx p [xG 0,aE] 51]) ?_ ?_
 ·
  refine xW ?_;obtain⟨a6,a7,d⟩:=qE d;refine oU (fun g a w=>∃ (j:Nat) (x:List Bool) (A:List (List Int)) (i:Value),(j≤e.has.length∧e.has.drop j=x)∧x.length=g∧qJ a6 x j A=some W∧Sk a 42 [(4,xG (j:Int)),(0,D),(2,vK p),(3,vK t)]∧Sep [] B n w [rl 1 (vO 1 xH) 25 i A,bx t [xG e.arity,i] 51,bx p [xG 0,aE] 51]) e.has.length ?_ ?_
  ·
   exact⟨0,e.has,[],aE,⟨Nat.zero_le _,rfl⟩,rfl,d,F.su,(H.nl 1 (vO 1 xH) 25)⟩
  intro g1 a w ⟨j,x,A,i,f,a8,d,F,H⟩
  cases x with
  | nil=>
   replace d:=qH d;have q1:=qG f.1 f.2;have O:=vA q1;refine xC (xP (xA 2 F rfl fun a F=>oN F rfl rfl h fun a F=>oF (s':=1) fa116_2 F rfl rfl h kQ.f2 fun a p2 h2 F=>aY isAgg114 F rfl rfl H.sm h2 fun a v3 h3 F=>oL underlying114 F rfl rfl h3 fun a i2 F=>xA 1 F rfl fun a F=>oY ?_));refine xF (qT F rfl O (oM (oR (oR (vH (xF ?_))))));exact⟨A,i,(vE d),F.su,H⟩
  | cons x1 x=>
   subst a8;replace f:=oO f.2;have y1:=oZ f.2.1;obtain⟨ax,d,V⟩:=oV d;rw[a7] at d;have O:=qM f.1;refine xC (xP (xA 2 F rfl fun a F=>oN F rfl rfl h fun a F=>oF (s':=1) fa116_2 F rfl rfl h kQ.f2 fun a p3 h4 F=>aY isAgg114 F rfl rfl H.sm h4 fun a v4 h5 F=>oL underlying114 F rfl rfl h5 fun a X F=>xA 1 F rfl fun a F=>oY ?_));refine xF (qV F rfl O (xL (xF (xC ?_))));have Y:=fE (Nat.le_of_lt f.1) X;have Z:=zC f.1 X;refine xW (xP (xA 1 F rfl fun a F=>oN F rfl rfl h fun a F=>oF (s':=1) fa116_2 F rfl rfl h kQ.f2 fun a p4 h6 F=>aY isAgg114 F rfl rfl H.sm h6 fun a v5 h7 F=>xA 1 F rfl fun a F=>oI underlying114 sizeOf4 F rfl rfl rfl h7 y1 fun a p5 h8 F=>olB isAgg4 F rfl rfl H.sm h8 fun a F=>oY ?_));refine xF (qP F rfl (fun J=>?_) (fun J=>?_))
   ·
    replace d:=vR J d;obtain⟨I,c1,d⟩:=xB d;obtain⟨z2,c2,d⟩:=xB d;refine xD H (by kernel_rfl) fun w H=>dp (fun G=>∀ (P:Value) (a:Act) (w:World),Sk a 42 [(0,D),(2,vK p),(3,vK t),(4,xG (j:Int)),(27,i),(38,P)]→Sep [] B n w [rl 1 (vO 1 xH) 25 P ([I]),rl 1 (vO 1 xH) 25 i A,bx t [xG e.arity,i] 51,bx p [xG 0,aE] 51]→∀ C,C = #[true,true,true,true,true,true,true,true,true,true,true,true,true,false,false,false]→G 3 C a w) ?_ (fun H1=>?_)
    ·
     intro P a w F H C K;subst K;refine xE H 13 rfl (by kernel_rfl) (oPL (sz:=1) (R:=(vO 1 xH)) (z:=(aE)) (bytes:=24) underlying45 (by kernel_rfl) rfl rfl F rfl rfl rfl (H.s [1,0,2,3] rfl rfl) c2 fun a w v7 H F=>xJ ⟨⟨_,H⟩,?_⟩);refine qY 14 rfl (by kernel_rfl) (oJ F rfl (fun w l=>vG vW F rfl rfl) fun a F=>xE H 15 rfl (by kernel_rfl) (oW sizeOf45 F rfl rfl rfl (H.s [1,0,2] rfl rfl) ((H.s [1,0,2] rfl rfl).l 1 rfl).one rfl rfl fun w H=>xJ ⟨⟨_,H⟩,?_⟩));refine bF (by kernel_rfl) (qS (xF (xU (xA 1 F rfl fun a F=>qQ F rfl rfl rfl Z fun a F=>xA 1 F rfl fun a F=>xJ ?_))));replace d:=qX d V;exact⟨_,Nat.lt_succ_self _,j+1,x,z2,v7,⟨f.1,f.2.2⟩,rfl,d,F.su,(H.s [1,0,2] rfl rfl)⟩
    refine dp (fun G=>∀ (Q:Value) (a:Act) (w:World),Sk a 42 [(0,D),(2,vK p),(3,vK t),(4,xG (j:Int)),(27,i),(37,Q)]→Sep [] B n w [rl 1 xH 2 Q I,rl 1 (vO 1 xH) 25 i A,bx t [xG e.arity,i] 51,bx p [xG 0,aE] 51]→∀ C,C = #[true,true,true,true,true,true,true,true,true,true,true,true,false,false,false,false]→G 4 C a w) ?_ (fun H2=>?_)
    ·
     intro Q a w F H C K;subst K;refine xE H 12 rfl (by kernel_rfl) ?_;have H:=H.os;refine oR1L (R:=(vO 1 xH)) (y:=I) underlying45 sizeOf25 zeroValue25 rfl rfl F rfl rfl H El.sl fun a w v9 H F=>xJ ⟨⟨_,H⟩,?_⟩;exact H1 v9 _ _ (F.su) H _ (by kernel_rfl)
    refine qY 0 rfl (by kernel_rfl) (oJ F rfl (fun w l=>vG vW F rfl rfl) fun a F=>vM 2 rfl (by kernel_rfl) (oJ F rfl (fun w l=>xM F rfl) fun a F=>qY 3 rfl (by kernel_rfl) (vN F rfl rfl h fun a F=>qY 4 rfl (by kernel_rfl) (vF (s':=1) fa116_0 F rfl rfl h kQ.f0 fun a p6 h9 F=>qY 5 rfl (by kernel_rfl) (vlI isAgg2 F rfl rfl H.v h9 fun a i4 F=>vM 6 rfl (by kernel_rfl) ?_)))));refine oJ F rfl (fun w l=>xM F rfl) fun a F=>qY 7 rfl (by kernel_rfl) (vN F rfl rfl h fun a F=>qY 8 rfl (by kernel_rfl) (vF (s':=1) fa116_1 F rfl rfl h kQ.f1 fun a p7 a9 F=>qY 9 rfl (by kernel_rfl) (vlI isAgg2 F rfl rfl H.v a9 fun a i5 F=>vM 10 rfl (by kernel_rfl) (oJ F rfl (fun w l=>xM F rfl) fun a F=>b_es [1,11] (by kernel_rfl) (by simp) ⟨⟨_,rfl,?_⟩,⟨_,rfl,?_⟩,trivial⟩))))
    ·
     refine xEs H (oB isAgg45 F rfl rfl (H.b 1 rfl) rfl fun a F=>xJ ⟨⟨_,H⟩,?_⟩);refine xE H 11 rfl (by kernel_rfl) (oG F rfl call68 rfl (bH I c1 _ aA i4 i5 Y) (fun a T w ⟨aa,ay,S⟩ F=>?_));subst T;have H:=H.r1 S n0;refine xJ ⟨⟨_,H⟩,?_⟩;exact H2 aa _ _ (F.su) H _ (by kernel_rfl)
    refine xEs H (oG F rfl call68 rfl (bH I c1 _ aA i4 i5 Y) (fun a T w ⟨ab,az,S⟩ F=>?_));subst T;have H:=H.r1 S n0;refine xJ ⟨⟨_,H⟩,?_⟩;refine b_es [1,12] (by kernel_rfl) (by simp) ⟨⟨_,rfl,?_⟩,⟨_,rfl,?_⟩,trivial⟩
    ·
     refine xEs H (oB isAgg45 F rfl rfl (H.b 2 rfl) rfl fun a F=>xJ ⟨⟨_,H⟩,?_⟩);exact H2 ab _ _ (F.su) H _ (by kernel_rfl)
    refine xEs H ?_;have H:=H.os;refine oR1L (R:=(vO 1 xH)) (y:=I) underlying45 sizeOf25 zeroValue25 rfl rfl F rfl rfl H El.sl fun a w ac H F=>xJ ⟨⟨_,H⟩,?_⟩;refine xE H 1 rfl (by kernel_rfl) (oB isAgg45 F rfl rfl (H.b 2 rfl) rfl fun a F=>xJ ⟨⟨_,H⟩,?_⟩);exact H1 ac _ _ (F.su) H _ (by kernel_rfl)
   replace d:=vQ J d;refine xL (qS (xF (xU (xA 1 F rfl fun a F=>qQ F rfl rfl rfl Z fun a F=>xA 1 F rfl fun a F=>xJ ?_))));replace d:=qX d V;exact⟨_,Nat.lt_succ_self _,j+1,x,A,i,⟨f.1,f.2.2⟩,rfl,d,F.su,H⟩
 rintro a w ⟨M,E,rfl,F,H⟩
 have d:=xN a5;refine xF (xP (fU isAgg51 sizeOf51 F rfl rfl (H.b 1 rfl) rfl rfl fun a F=>oWA (vs:=[xG e.arity,E]) sizeOf51 F rfl rfl rfl (H.s [2,0,1] rfl rfl) (oc rfl (oc ((H.s [2,0,1] rfl rfl).l 1 rfl).one on)) rfl rfl fun w H=>xJ (xT (xS F rfl (gU (arr:=#[xG e.arity,E]) F isAgg51 sizeOf51 rfl (H.b 0 rfl)) ?_))));obtain rfl:=oj d;exact⟨_,rfl,E,rfl,(H.s [1] rfl rfl),i1⟩
def spec_l02Value (c:Int) (d:Op) (e:List Int):Option Int:=
 xY (gL c e) fun f=>
 xY (ix d.table f) fun h=>
 some h
theorem spec_l02Value_c {B:Nat→Prop} {f:Int} {n:Op} {p:List Int} (r:Int) (d:spec_l02Value f n p=some r) {i:Value} {j:Value} (e:World) (z:∀ c,B c→c<e.heap.size) (x:xZ f) (t:Bo B e (Pt 2 cS) i n) (A:Bo B e (Sl 1 xH) j p):Calls Tryz.prog 87 #[xG f,i,j] e (dW r e):=by
 unfold spec_l02Value at d
 refine xV (L:=[(0,xG f),(1,i),(2,j)]) func87 rfl rfl rfl (sc rfl (sc rfl (sc rfl sn))) (fun a F=>?_);have H:=Sep.start z;refine xP (xA 1 F rfl fun a F=>xJ (xC (xQ H (by kernel_rfl) (by kernel_rfl) (xR F rfl (fun w l=>xM F rfl) fun a F=>qN F rfl rfl t fun a F=>qF (s':=1) fa27_1 F rfl rfl t cS.f1 fun a M C F=>qlS isAgg25 F rfl rfl H.q C (fun a N D F=>?_)))));refine xR F rfl (fun w l=>xM F rfl) fun a F=>xR F rfl (fun w l=>xM F rfl) (fun a F=>?_);obtain⟨E,y,d⟩:=xB d;refine q_saysI F rfl call72 rfl (fun w w' h l=>l.through h) _ (Below.refl _ _) (fun w l=>eO E y w aA x ((H.go l).a A)) (fun a K F=>?_);obtain⟨O,G,d⟩:=xB d;refine qI underlying25 sizeOf2 F rfl rfl rfl D G fun a P I F=>iB isAgg2 F rfl rfl H.q I fun a J F=>xR F rfl (fun w l=>zM F rfl) fun a F=>kA fun w H=>xF (xT (xS F rfl (oD F rfl) ?_));obtain rfl:=oj d;exact⟨⟨rfl,H.bl⟩,J⟩
def iY (d:Int) (e:Op) (c:List (List Int)):Option (List Int):=
 xY (ix c 0) fun f=>
 vT (σ:=(List Int)) (
  zH (σ:=(List Int)) (ρ:=(List Int)) (fun (h:Nat) (i:(List Int))=>
   vT (σ:=(List Int)) (
    qJ (σ:=(List Int)) (ρ:=(Ctl ((List Int)) (List Int))) (fun (B:Nat) (j n:(List Int))=>
     xY (ix j (h:Int)) fun p=>
     xY (ap n ([p])) fun t=>
     some (.go t)) c 0 []) fun x=>
   xY (spec_l02Value d e x) fun y=>
   xY (ap i ([y])) fun z=>
   some (.go z)) (f.length:Int).toNat 0 []) fun A=>
 some A
theorem spec_l02Make_c {B:Nat→Prop} {i:Int} {S:Op} {p:List (List Int)} (r:(List Int)) (d:iY i S p=some r) {t:Value} {x:Value} (f:World) (hN:∀ c,B c→c<f.heap.size) (a1:xZ i) (A1:Bo B f (Pt 2 cS) t S) (D:Bo B f (Sl 1 (vO 1 xH)) x p):Calls Tryz.prog 44 #[xG i,t,x] f (Gv (fun v w'=>∃ (Q:Value),v=Q∧Sep [] B f w' [rl 1 xH 2 Q r])):=by
 unfold iY at d
 refine xV (L:=[(0,xG i),(1,t),(2,x)]) func44 rfl rfl rfl (sc rfl (sc rfl (sc rfl sn))) (fun a F=>?_);have H:=Sep.start hN;refine xP (xA 1 F rfl fun a F=>qO (oR0 (R:=xH) underlying25 sizeOf2 F rfl H fun a w v3 H F=>xA 1 F rfl fun a F=>xJ ?_));refine xC (xP (xA 1 F rfl fun a F=>xJ ?_));obtain⟨T,U,d⟩:=xB d;obtain⟨V,d,a2⟩:=xK d;refine xX (fun a w=>∃ (K:List Int) (I:Value),V= .nx K∧Sk a 45 [(7,I)]∧Sep [] B f w [rl 1 xH 2 I K]) ?_ ?_
 ·
  refine xW ?_;obtain⟨a3,a4,d⟩:=zG d;refine oU (fun g a w=>∃ (j:Nat) (A:List Int) (h:Value),j+g=(T.length:Int).toNat∧zH a3 g j A=some V∧Sk a 45 [(8,xG (j:Int)),(0,xG i),(1,t),(2,x),(7,h)]∧Sep [] B f w [rl 1 xH 2 h A]) (T.length:Int).toNat ?_ ?_
  ·
   exact⟨0,[],v3,(Nat.zero_add _),d,F.su,H⟩
  intro W a w ⟨j,A,h,E,d,F,H⟩
  cases W with
  | zero=>
   replace d:=vY d;have M:=kT E;refine xC (xP (xA 2 F rfl fun a F=>oI underlying45 sizeOf25 F rfl rfl rfl D U fun a p1 h1 F=>aY isAgg25 F rfl rfl H.sm h1 fun a v6 h2 F=>oL underlying25 F rfl rfl h2 fun a i1 F=>xA 1 F rfl fun a F=>xJ ?_));refine qT F rfl M (oM (oR (oR (vH (xF ?_)))));exact⟨A,h,(vE d),F.su,H⟩
  | succ W=>
   obtain⟨b4,d,a5⟩:=vX d;rw[a4] at d;have M:=zW E;refine xC (xP (xA 2 F rfl fun a F=>oI underlying45 sizeOf25 F rfl rfl rfl D U fun a p2 h3 F=>aY isAgg25 F rfl rfl H.sm h3 fun a v7 h4 F=>oL underlying25 F rfl rfl h4 fun a X F=>xA 1 F rfl fun a F=>xJ ?_));refine qV F rfl M (xL (xF (xC ?_)));have j1:=k64I E X;have m1:=bC E X;refine xW (xP (oR0 (R:=xH) underlying25 sizeOf2 F rfl H fun a w v8 H F=>xA 1 F rfl fun a F=>xJ (xC (xP (xA 1 F rfl fun a F=>?_)))));refine xJ ?_;obtain⟨Y,d,a6⟩:=xK d;refine xX (fun a w=>∃ (N:List Int) (O:Value),Y= .nx N∧Sk a 45 [(0,xG i),(1,t),(2,x),(7,h),(8,xG (j:Int)),(9,O)]∧Sep [] B f w [rl 1 xH 2 O N,rl 1 xH 2 h A]) ?_ ?_
   ·
    refine xW ?_;obtain⟨a7,a8,d⟩:=qE d;refine oU (fun g a w=>∃ (C:Nat) (n:List (List Int)) (J:List Int) (G:Value),(C≤p.length∧p.drop C=n)∧n.length=g∧qJ a7 n C J=some Y∧Sk a 45 [(10,xG (C:Int)),(0,xG i),(1,t),(2,x),(7,h),(8,xG (j:Int)),(9,G)]∧Sep [] B f w [rl 1 xH 2 G J,rl 1 xH 2 h A]) p.length ?_ ?_
    ·
     exact⟨0,p,[],v8,⟨Nat.zero_le _,rfl⟩,rfl,d,F.su,H⟩
    intro g2 a w ⟨C,n,J,G,e,a9,d,F,H⟩
    cases n with
    | nil=>
     replace d:=qH d;have q1:=qG e.1 e.2;have P:=vA q1;refine xC (xP (xA 2 F rfl fun a F=>oL underlying45 F rfl rfl D fun a i3 F=>xA 1 F rfl fun a F=>xJ (qT F rfl P (oM ?_))));refine oR (oR (vH (xF ?_)));exact⟨J,G,(vE d),F.su,H⟩
    | cons x3 n=>
     subst a9;replace e:=oO e.2;have y1:=oZ e.2.1;obtain⟨b5,d,aa⟩:=oV d;rw[a8] at d;have P:=qM e.1;refine xC (xP (xA 2 F rfl fun a F=>oL underlying45 F rfl rfl D fun a Z F=>xA 1 F rfl fun a F=>xJ (qV F rfl P (xL ?_))));refine xF (xC ?_);have j2:=fE (Nat.le_of_lt e.1) Z;have m2:=zC e.1 Z;refine xW (xU (xA 3 F rfl fun a F=>oI underlying45 sizeOf25 F rfl rfl rfl D y1 fun a p3 h5 F=>aY isAgg25 F rfl rfl H.sm h5 fun a b6 h6 F=>xA 1 F rfl fun a F=>?_));obtain⟨z2,c2,d⟩:=xB d;refine oI underlying25 sizeOf2 F rfl rfl rfl h6 c2 fun a p4 h7 F=>aN isAgg2 F rfl rfl H.sm h7 fun a i5 F=>oR1z (R:=xH) (y:=z2) underlying25 sizeOf2 zeroValue2 rfl rfl F rfl rfl H (Eo.int i5) (fun a w b7 H F=>?_);obtain⟨z3,c3,d⟩:=xB d;refine oPL (sz:=1) (R:=xH) (z:=(xG 0)) (bytes:=8) underlying25 (by kernel_rfl) rfl rfl F rfl rfl rfl (H.s [1,0,2] rfl rfl) c3 fun a w ab H F=>xA 1 F rfl fun a F=>oY (qS (xF (xU (xA 1 F rfl fun a F=>qQ F rfl rfl rfl m2 fun a F=>xA 1 F rfl fun a F=>xJ ?_))));replace d:=qX d aa;exact⟨_,Nat.lt_succ_self _,C+1,n,z3,ab,⟨e.1,e.2.2⟩,rfl,d,F.su,H⟩
   rintro a w ⟨N,O,rfl,F,H⟩
   have d:=xN a6;refine xF (xU (xA 4 F rfl fun a F=>?_));obtain⟨z4,c4,d⟩:=xB d;refine oKI F rfl call87 rfl H (spec_l02Value_c z4 c4 _ aA a1 (H.a A1) (H.l 0 rfl)) fun a w H ac F=>oR1z (R:=xH) (y:=z4) underlying25 sizeOf2 zeroValue2 rfl rfl F rfl rfl H (Eo.int ac) (fun a w b8 H F=>?_);obtain⟨z5,c5,d⟩:=xB d;refine oPL (sz:=1) (R:=xH) (z:=(xG 0)) (bytes:=8) underlying25 (by kernel_rfl) rfl rfl F rfl rfl rfl (H.s [2,0,1] rfl rfl) c5 fun a w ad H F=>xA 1 F rfl fun a F=>oY (qS (xF (xU (xA 1 F rfl fun a F=>qQ F rfl rfl rfl m1 fun a F=>xA 1 F rfl fun a F=>xJ ?_))));replace d:=qX d a5;exact⟨_,Nat.lt_succ_self _,j+1,z5,ad,(by omega),d,F.su,(H.s [0] rfl rfl)⟩
 rintro a w ⟨K,I,rfl,F,H⟩
 have d:=xN a2;refine xF (xP (xA 2 F rfl fun a F=>xJ (xT (xS F rfl (oD F rfl) ?_))));obtain rfl:=oj d;exact⟨_,rfl,I,rfl,H⟩
def spec_l01Set_put (e h:Int) (c:List Bool) (f:List Int):Option (List Bool):=
 xY (gL e f) fun d=>
 xY (ix c d) fun i=>
 some ((c.set (d).toNat true))
theorem spec_l01Set_put_c {B:Nat→Prop} {i n:Int} {t:List Bool} {I:List Int} (r:(List Bool)) (p:spec_l01Set_put i n t I=some r) {f:Nat} {e:Value} {x:Value} {y:List Nat} (h:World) (S:∀ c,B c→c<h.heap.size) (Q:Sep y B h h [bx f [xG i,xG n,e] 116,rl 1 kN 4 e t]) (D:xZ i) (R:xZ n) (J:Bo B h (Sl 1 xH) x I):Calls Tryz.prog 70 #[vK f,x] h (Gv (fun v w'=>∃ (E:Value),v= .tuple #[]∧Sep y B h w' [bx f [xG i,xG n,E] 116,rl 1 kN 4 E r])):=by
 unfold spec_l01Set_put at p
 refine xV (L:=[(0,vK f),(1,x)]) func70 rfl rfl rfl (sc rfl (sc rfl sn)) (fun a F=>?_);have H:=Q;obtain⟨z,K,p⟩:=xB p;obtain⟨T,M,p⟩:=xB p;refine xD H (by kernel_rfl) fun w H=>dp (fun G=>∀ (a:Act) (w:World),Sk a 15 [(0,vK f),(7,e),(13,xG z)]→Sep y B h w [bx f [xG i,xG n,e] 116,rl 1 kN 4 e t]→xZ z→∀ j,j = #[true,true,true,true,true,true,true,true,true,true,false,false]→G 2 j a w) ?_ (fun N=>?_)
 ·
  intro a w F H U j A;subst A;refine xE H 10 rfl (by kernel_rfl) (oRl underlying114 sizeOf4 F rfl rfl rfl H 1 rfl M fun a V W P F=>xJ ⟨⟨_,H⟩,?_⟩);refine xE H 11 rfl (by kernel_rfl) ?_;have H:=(H.s [1,0] rfl rfl).lw;refine oS sizeOf4 F rfl rfl rfl H P (ix_lt M) Eo.bool rfl rfl (fun w H=>?_);have H:=H.tl;refine xJ ⟨⟨_,H⟩,?_⟩;refine bF (by kernel_rfl) (x_ends (bodyPost_ret (results_none rfl _ _ _) F.d ?_));obtain rfl:=oj p;exact⟨_,rfl,e,rfl,(H.s [1,0] rfl rfl)⟩
 refine dp (fun G=>∀ (a:Act) (w:World),Sk a 15 [(0,vK f),(7,e),(11,xG i),(12,x)]→Sep y B h w [bx f [xG i,xG n,e] 116,rl 1 kN 4 e t]→∀ j,j = #[true,true,true,true,true,true,true,true,true,false,false,false]→G 3 j a w) ?_ (fun O=>?_)
 ·
  intro a w F H j A;subst A;refine xE H 9 rfl (by kernel_rfl) (oKI F rfl call72 rfl H (eO z K _ aA D (H.a J)) fun a w H C F=>xJ ⟨⟨_,H⟩,?_⟩);exact N _ _ (F.su) H C _ (by kernel_rfl)
 refine vM 0 rfl (by kernel_rfl) (oJ F rfl (fun w l=>xM F rfl) fun a F=>qY 1 rfl (by kernel_rfl) (oJ F rfl (fun w l=>zT F rfl) fun a F=>qY 2 rfl (by kernel_rfl) (oJ F rfl (fun w l=>vG fa116_2 F rfl rfl) fun a F=>vM 4 rfl (by kernel_rfl) (oJ F rfl (fun w l=>xM F rfl) fun a F=>qY 5 rfl (by kernel_rfl) (oJ F rfl (fun w l=>zT F rfl) fun a F=>qY 6 rfl (by kernel_rfl) ?_)))));refine oJ F rfl (fun w l=>vG fa116_0 F rfl rfl) fun a F=>vM 8 rfl (by kernel_rfl) (oJ F rfl (fun w l=>xM F rfl) fun a F=>b_es [3,7] (by kernel_rfl) (by simp) ⟨⟨_,rfl,?_⟩,⟨_,rfl,?_⟩,trivial⟩)
 ·
  refine xEs H (oB isAgg114 F rfl rfl (H.b 0 rfl) rfl fun a F=>xJ ⟨⟨_,H⟩,?_⟩);refine xE H 7 rfl (by kernel_rfl) (oB isAgg2 F rfl rfl (H.b 0 rfl) rfl fun a F=>xJ ⟨⟨_,H⟩,?_⟩);exact O _ _ (F.su) H _ (by kernel_rfl)
 refine xEs H (oB isAgg2 F rfl rfl (H.b 0 rfl) rfl fun a F=>xJ ⟨⟨_,H⟩,?_⟩);refine b_es [3,9] (by kernel_rfl) (by simp) ⟨⟨_,rfl,?_⟩,⟨_,rfl,?_⟩,trivial⟩
 ·
  refine xEs H (oB isAgg114 F rfl rfl (H.b 0 rfl) rfl fun a F=>xJ ⟨⟨_,H⟩,?_⟩);exact O _ _ (F.su) H _ (by kernel_rfl)
 refine xEs H (oKI F rfl call72 rfl H (eO z K _ aA D (H.a J)) fun a w H C F=>xJ ⟨⟨_,H⟩,?_⟩);refine xE H 3 rfl (by kernel_rfl) (oB isAgg114 F rfl rfl (H.b 0 rfl) rfl fun a F=>xJ ⟨⟨_,H⟩,?_⟩);exact N _ _ (F.su) H C _ (by kernel_rfl)
def bA (N:Nat) (p:Int) (t:List Op) (d e:Int) (n:List Bool):Option (Rel×(List Bool)):=
 vT (σ:=(List Bool)) (
  cF (σ:=(List Bool)) (ρ:=Rel×(List Bool)) (fun(j:(List Bool))=>
   xY (iA N (l01Set.mk d e j)) fun c=>
   vT (σ:=(List Bool)) (
    qJ (σ:=(List Bool)) (ρ:=(Ctl ((List Bool)) (Rel×(List Bool)))) (fun (L:Nat) (f:Op) (x:(List Bool))=>
     xY (kC N (c.tuples.length:Int) f.arity) fun y=>
     vT (σ:=(List Bool)) (
      zH (σ:=(List Bool)) (ρ:=(Ctl ((List Bool)) (Ctl ((List Bool)) (Rel×(List Bool))))) (fun (z:Nat) (A:(List Bool))=>
       xY (aT N (c.tuples.length:Int) f.arity (z:Int)) fun B=>
       vT (σ:=(List (List Int))) (
        qJ (σ:=(List (List Int))) (ρ:=(Ctl ((List Bool)) (Ctl ((List Bool)) (Ctl ((List Bool)) (Rel×(List Bool)))))) (fun (M:Nat) (C:Int) (D:(List (List Int)))=>
         xY (ix c.tuples C) fun E=>
         xY (ap D ([E])) fun F=>
         some (.go F)) B 0 []) fun G=>
       xY (iY p f G) fun H=>
       xY (spec_l01Set_put d e A H) fun I=>
       some (.go I)) y.toNat 0 x) fun J=>
     some (.go J)) t 0 j) fun h=>
   xY (iA N (l01Set.mk d e h)) fun i=>
   if ((i.tuples.length:Int)==(c.tuples.length:Int)) then
    some (.ret ((Rel.mk i.arity i.tuples),h))
   else
    some (.go h)) N n) fun K=>
 some ((Rel.mk 0 ([])),K)
theorem spec_l02Closure_c {B:Nat→Prop} {N:Nat} {p:Int} {V:List Op} {i j:Int} {ai:List Bool} (r:Rel×(List Bool)) (d:bA N p V i j ai=some r) {C:Value} {e:Nat} {aj:Value} {M:List Nat} (n:World) (hN:∀ c,B c→c<n.heap.size) (S0:Sep M B n n [bx e [xG i,xG j,aj] 116,rl 1 kN 4 aj ai]) (bc:xZ p) (Z:Bo B n (Sl 2 cS) C V) (ag:xZ i) (ah:xZ j):Calls Tryz.prog 30 #[xG p,C,vK e] n (Gv (fun v w'=>∃ (ax ay:Value),v= .agg #[xG r.1.arity,ax]∧Sep M B n w' [rl 1 (vO 1 xH) 25 ax r.1.tuples,bx e [xG i,xG j,ay] 116,rl 1 kN 4 ay r.2]∧xZ r.1.arity)):=by
 unfold bA at d
 refine xV (L:=[(0,xG p),(1,C),(2,vK e)]) func30 rfl rfl rfl (sc rfl (sc rfl (sc rfl sn))) (fun a F=>?_);have H:=S0;refine xP (oA zeroValue51 F rfl rfl H fun a w h H F=>xJ ?_);obtain⟨o1,d,az⟩:=xK d;refine xX (fun a w=>∃ (s1:List Bool) (v2:Value),o1= .nx s1∧Sk a 84 [(2,vK e),(6,vK h)]∧Sep M B n w [bx h [xG 0,aE] 51,bx e [xG i,xG j,v2] 116,rl 1 kN 4 v2 s1]) ?_ ?_
 ·
  refine xW ?_;obtain⟨bd,be,d⟩:=kU d;refine oU (fun g a w=>∃ (s2:List Bool) (v3:Value),cF bd g s2=some o1∧Sk a 84 [(0,xG p),(1,C),(2,vK e),(6,vK h)]∧Sep M B n w [bx h [xG 0,aE] 51,bx e [xG i,xG j,v3] 116,rl 1 kN 4 v3 s2]) N ?_ ?_
  ·
   exact⟨ai,aj,d,F.su,H⟩
  intro g1 a w ⟨s2,v3,d,F,H⟩;obtain⟨da,t1,db,d,b0⟩:=zK d;rw[be] at d;refine xW (xP (xA 1 F rfl fun a F=>?_));obtain⟨f,c1,d⟩:=xB d;refine oG F rfl call69 rfl (spec_l01Set_rel_c f c1 _ aA (kQ.b (H.g 1 rfl).bk ag ah (H.l 2 rfl))) (fun a I w ⟨J,dc,S,i1⟩ F=>?_);subst I;have H:=H.r1 S n0;refine oA zeroValue51 F rfl rfl H fun a w D H F=>oWA (vs:=[xG f.arity,J]) sizeOf51 F rfl rfl rfl H (oc rfl (oc (H.l 1 rfl).one on)) rfl rfl fun w H=>qO (oH vW F rfl rfl rfl fun a F=>oB isAgg45 F rfl rfl (H.b 0 rfl) rfl fun a F=>oL underlying45 F rfl rfl (H.l 1 rfl) fun a i2 F=>xA 1 F rfl fun a F=>oY ?_);refine xF (xC (xP (xA 1 F rfl fun a F=>xJ ?_)));obtain⟨o2,d,bf⟩:=xK d;refine xX (fun a w=>∃ (s3:List Bool) (v5:Value),o2= .nx s3∧Sk a 84 [(0,xG p),(1,C),(2,vK e),(6,vK h),(7,vK D),(8,xG (f.tuples.length:Int))]∧Sep M B n w [bx D [xG f.arity,J] 51,rl 1 (vO 1 xH) 25 J f.tuples,bx h [xG 0,aE] 51,bx e [xG i,xG j,v5] 116,rl 1 kN 4 v5 s3]) ?_ ?_
  ·
   refine xW ?_;obtain⟨bg,bh,d⟩:=qE d;refine oU (fun g a w=>∃ (E:Nat) (O:List Op) (s4:List Bool) (v6:Value),(E≤V.length∧V.drop E=O)∧O.length=g∧qJ bg O E s4=some o2∧Sk a 84 [(9,xG (E:Int)),(0,xG p),(1,C),(2,vK e),(6,vK h),(7,vK D),(8,xG (f.tuples.length:Int))]∧Sep M B n w [bx D [xG f.arity,J] 51,rl 1 (vO 1 xH) 25 J f.tuples,bx h [xG 0,aE] 51,bx e [xG i,xG j,v6] 116,rl 1 kN 4 v6 s4]) V.length ?_ ?_
   ·
    exact⟨0,V,s2,v3,⟨Nat.zero_le _,rfl⟩,rfl,d,F.su,H⟩
   intro g2 a w ⟨E,O,s4,v6,t,bi,d,F,H⟩
   cases O with
   | nil=>
    replace d:=qH d;have q1:=qG t.1 t.2;have l1:=vA q1;refine xC (xP (xA 2 F rfl fun a F=>oL underlying66 F rfl rfl Z fun a i3 F=>xA 1 F rfl fun a F=>xJ (qT F rfl l1 (oM ?_))));refine oR (oR (vH (xF ?_)));exact⟨s4,v6,(vE d),F.su,H⟩
   | cons x2 O=>
    subst bi;replace t:=oO t.2;have y1:=oZ t.2.1;obtain⟨dd,d,bj⟩:=oV d;rw[bh] at d;have l1:=qM t.1;refine xC (xP (xA 2 F rfl fun a F=>oL underlying66 F rfl rfl Z fun a i4 F=>xA 1 F rfl fun a F=>xJ (qV F rfl l1 (xL ?_))));refine xF (xC ?_);have j1:=fE (Nat.le_of_lt t.1) i4;have m1:=zC t.1 i4;refine xW (xP (oH vW F rfl rfl rfl fun a F=>oB isAgg45 F rfl rfl (H.b 0 rfl) rfl fun a F=>oL underlying45 F rfl rfl (H.l 1 rfl) fun a i5 F=>xA 1 F rfl fun a F=>qO ?_));refine xA 3 F rfl fun a F=>oI underlying66 sizeOf27 F rfl rfl rfl Z y1 fun a p1 h1 F=>oF (s':=1) fa27_0 F rfl rfl h1 cS.f0 fun a p2 h2 F=>aN isAgg2 F rfl rfl H.sm h2 (fun a i6 F=>?_);obtain⟨W,c2,d⟩:=xB d;refine oKI F rfl call66 rfl H (cE W c2 _ aA i5 i6) fun a w H b1 F=>xA 1 F rfl fun a F=>qO (xA 1 F rfl fun a F=>xJ ?_);obtain⟨o3,d,bm⟩:=xK d;refine xX (fun a w=>∃ (s5:List Bool) (v7:Value),o3= .nx s5∧Sk a 84 [(0,xG p),(1,C),(2,vK e),(6,vK h),(7,vK D),(8,xG (f.tuples.length:Int)),(9,xG (E:Int))]∧Sep M B n w [bx D [xG f.arity,J] 51,rl 1 (vO 1 xH) 25 J f.tuples,bx h [xG 0,aE] 51,bx e [xG i,xG j,v7] 116,rl 1 kN 4 v7 s5]) ?_ ?_
    ·
     refine xW ?_;obtain⟨bn,bp,d⟩:=zG d;refine oU (fun g a w=>∃ (P:Nat) (Q:List Bool) (G:Value),P+g=W.toNat∧zH bn g P Q=some o3∧Sk a 84 [(12,xG (P:Int)),(0,xG p),(1,C),(2,vK e),(6,vK h),(7,vK D),(8,xG (f.tuples.length:Int)),(9,xG (E:Int)),(10,xG (f.tuples.length:Int)),(11,xG W)]∧Sep M B n w [bx D [xG f.arity,J] 51,rl 1 (vO 1 xH) 25 J f.tuples,bx h [xG 0,aE] 51,bx e [xG i,xG j,G] 116,rl 1 kN 4 G Q]) W.toNat ?_ ?_
     ·
      exact⟨0,s4,v6,(Nat.zero_add _),d,F.su,H⟩
     intro g3 a w ⟨P,Q,G,a5,d,F,H⟩
     cases g3 with
     | zero=>
      replace d:=vY d;have l2:=kT a5;refine xC (xP (xA 3 F rfl fun a F=>xJ (qT F rfl l2 (oM (oR ?_)))));refine oR (vH (xF ?_));exact⟨Q,G,(vE d),F.su,H⟩
     | succ g3=>
      obtain⟨de,d,bq⟩:=vX d;rw[bp] at d;have l2:=zW a5;refine xC (xP (xA 3 F rfl fun a F=>xJ (qV F rfl l2 (xL (xF ?_)))));refine xC ?_;have j2:=k64I a5 b1;have m2:=bC a5 b1;refine xW (xP (xA 3 F rfl fun a F=>oI underlying66 sizeOf27 F rfl rfl rfl Z y1 fun a p3 h3 F=>oF (s':=1) fa27_0 F rfl rfl h3 cS.f0 fun a p4 h4 F=>aN isAgg2 F rfl rfl H.sm h4 fun a i7 F=>xA 1 F rfl fun a F=>?_));obtain⟨z3,c3,d⟩:=xB d;refine oG F rfl call68 rfl (bH z3 c3 _ aA i5 i7 j2) (fun a I w ⟨v9,df,S⟩ F=>?_);subst I;have H:=H.r1 S n0;refine xA 1 F rfl fun a F=>qO (oR0 (R:=(vO 1 xH)) underlying45 sizeOf25 F rfl H fun a w br H F=>xA 1 F rfl fun a F=>xJ (xC (xC ?_)));refine xU (xA 1 F rfl fun a F=>xJ ?_);obtain⟨w1,rfl⟩:∃ x,x=w:=⟨_,rfl⟩;have dg:=H.sm;obtain⟨X1,T,g4,e1,H,bt,dh⟩:=(H.s [1,2,3,0,4,5,6] rfl rfl).mg.mg.fza;have h5:=g4.l.l.ld;have K1:=g4.l.r.bk;have h6:=g4.r.ld;obtain⟨o4,d,bu⟩:=xK d;refine xX (fun a w=>∃ (s7:List (List Int)) (Y:Value),o4= .nx s7∧Sk a 84 [(0,xG p),(1,C),(2,vK e),(6,vK h),(7,vK D),(8,xG (f.tuples.length:Int)),(9,xG (E:Int)),(10,xG (f.tuples.length:Int)),(11,xG W),(12,xG (P:Int)),(14,Y)]∧Sep X1 T w1 w [rw T 1 (vO 1 xH) 25 Y s7,bx h [xG 0,aE] 51,bx e [xG i,xG j,G] 116,rl 1 kN 4 G Q]) ?_ ?_
      ·
       refine xW ?_;obtain⟨bv,bw,d⟩:=qE d;refine oU (fun g a w=>∃ (X:Nat) (U:List Int) (s8:List (List Int)) (a6:Value),(X≤z3.length∧z3.drop X=U)∧U.length=g∧qJ bv U X s8=some o4∧Sk a 84 [(15,xG (X:Int)),(0,xG p),(1,C),(2,vK e),(6,vK h),(7,vK D),(8,xG (f.tuples.length:Int)),(9,xG (E:Int)),(10,xG (f.tuples.length:Int)),(11,xG W),(12,xG (P:Int)),(13,v9),(14,a6)]∧Sep X1 T w1 w [rw T 1 (vO 1 xH) 25 a6 s8,bx h [xG 0,aE] 51,bx e [xG i,xG j,G] 116,rl 1 kN 4 G Q]) z3.length ?_ ?_
       ·
        exact⟨0,z3,[],br,⟨Nat.zero_le _,rfl⟩,rfl,d,F.su,H.lw.wk⟩
       intro g5 a w ⟨X,U,s8,a6,A,c0,d,F,H⟩
       cases U with
       | nil=>
        replace d:=qH d;have q2:=qG A.1 A.2;have l3:=vA q2;refine xC (xP (xA 2 F rfl fun a F=>oL underlying25 F rfl rfl h5 fun a i8 F=>xA 1 F rfl fun a F=>xJ (qT F rfl l3 (oM ?_))));refine oR (oR (vH (xF ?_)));exact⟨s8,a6,(vE d),F.su,H⟩
       | cons x3 U=>
        subst c0;replace A:=oO A.2;have y2:=oZ A.2.1;obtain⟨di,d,hn4⟩:=oV d;rw[bw] at d;have l3:=qM A.1;refine xC (xP (xA 2 F rfl fun a F=>oL underlying25 F rfl rfl h5 fun a i9 F=>xA 1 F rfl fun a F=>xJ (qV F rfl l3 (xL ?_))));refine xF (xC ?_);have j3:=fE (Nat.le_of_lt A.1) i9;have m3:=zC A.1 i9;refine xW ?_;obtain⟨z4,c4,d⟩:=xB d;obtain⟨z5,c5,d⟩:=xB d;refine xD H (by kernel_rfl) fun w H=>vM 0 rfl (by kernel_rfl) (oJ F rfl (fun w l=>xM F rfl) fun a F=>qY 1 rfl (by kernel_rfl) (oJ F rfl (fun w l=>vG vW F rfl rfl) fun a F=>qY 2 rfl (by kernel_rfl) (vB isAgg45 F rfl rfl (K1.v H.sm) rfl fun a F=>vM 3 rfl (by kernel_rfl) (oJ F rfl (fun w l=>xM F rfl) fun a F=>vM 4 rfl (by kernel_rfl) (oJ F rfl (fun w l=>xM F rfl) (fun a F=>?_))))));refine qY 5 rfl (by kernel_rfl) (vI underlying25 sizeOf2 F rfl rfl rfl h5 y2 fun a p5 h7 F=>qY 6 rfl (by kernel_rfl) (vlI isAgg2 F rfl rfl H.v h7 fun a dj F=>qY 7 rfl (by kernel_rfl) (vI underlying45 sizeOf25 F rfl rfl rfl h6 c4 fun a p6 h8 F=>qY 8 rfl (by kernel_rfl) (vlS isAgg25 F rfl rfl H.v h8 fun a dk h9 F=>xE H 9 rfl (by kernel_rfl) (oR1 (R:=(vO 1 xH)) (y:=z4) (N1:=T) underlying45 sizeOf25 zeroValue25 rfl rfl F rfl rfl H n1 (Eo.sl (H.u h9)) fun a w dl H F=>oY ?_)))));refine xF ⟨⟨_,H⟩,?_⟩;refine xE H 10 rfl (by kernel_rfl) (oP (sz:=1) (R:=(vO 1 xH)) (z:=(aE)) (bytes:=24) underlying45 (by kernel_rfl) rfl rfl F rfl rfl rfl (H.s [1,0,2,3,4] rfl rfl) c5 fun a w v15 H F=>xJ ⟨⟨_,H⟩,?_⟩);refine vM 11 rfl (by kernel_rfl) (oJ F rfl (fun w l=>zM F rfl) fun a F=>bF (by kernel_rfl) (qS (xF (xU (xA 1 F rfl fun a F=>qQ F rfl rfl rfl m3 fun a F=>xA 1 F rfl fun a F=>xJ ?_)))));replace d:=qX d hn4;exact⟨_,Nat.lt_succ_self _,X+1,U,z5,v15,⟨A.1,A.2.2⟩,rfl,d,F.su,H⟩
      rintro a w ⟨s7,Y,rfl,F,H⟩
      have d:=xN bu;refine xF (xU (xA 4 F rfl fun a F=>oI underlying66 sizeOf27 F rfl rfl rfl Z y1 fun a p7 h10 F=>xA 1 F rfl fun a F=>?_));obtain⟨z6,c6,d⟩:=xB d;refine oG F rfl call44 rfl (spec_l02Make_c z6 c6 _ aA bc (H.a (e1 h10)) (H.r 0 rfl)) (fun a I w ⟨dm,dq,S⟩ F=>?_);subst I;have H:=H.r1 S n0;obtain⟨w2,rfl⟩:∃ x,x=w:=⟨_,rfl⟩;have dr:=H.sm;obtain⟨X2,N3,g6,e2,H,th2,ds⟩:=H.fza;have h11:=g6.ld;obtain⟨z7,c7,d⟩:=xB d;obtain⟨X3,K2,bk1⟩:=Sep.lend (K:=[bx e [xG i,xG j,G] 116,rl 1 kN 4 G Q]) (L:=[rw T 1 (vO 1 xH) 25 Y s7,bx h [xG 0,aE] 51]) (H.s [2,3,0,1] rfl rfl);refine oG F rfl call70 rfl (spec_l01Set_put_c z7 c7 _ H.hN K2 ag ah (H.u h11)) (fun a I w ⟨ak,du,S⟩ F=>?_);subst I;have H:Sep X2 N3 w2 w [bx e [xG i,xG j,ak] 116,rl 1 kN 4 ak z7,rw T 1 (vO 1 xH) 25 Y s7,bx h [xG 0,aE] 51]:=bk1 S;refine oY (qS (xF (xU (xA 1 F rfl fun a F=>qQ F rfl rfl rfl m2 fun a F=>xA 1 F rfl fun a F=>xJ ?_))));replace d:=qX d bq;exact⟨_,Nat.lt_succ_self _,P+1,z7,ak,(by omega),d,F.su,((bt.1 (th2.1 (H.s [0,1,3] rfl rfl) (Ns.all ⟨n0,⟨n0,⟨n0,trivial⟩⟩⟩)) (Ns.all ⟨n0,⟨n0,⟨n0,⟨n0,trivial⟩⟩⟩⟩)).um.um.s [1,2,6,4,5] rfl rfl)⟩
    rintro a w ⟨s5,v7,rfl,F,H⟩
    have d:=xN bm;refine qS (xF (xU (xA 1 F rfl fun a F=>qQ F rfl rfl rfl m1 fun a F=>xA 1 F rfl fun a F=>xJ ?_)));replace d:=qX d bj;exact⟨_,Nat.lt_succ_self _,E+1,O,s5,v7,⟨t.1,t.2.2⟩,rfl,d,F.su,H⟩
  rintro a w ⟨s3,v5,rfl,F,H⟩
  have d:=xN bf;refine xF (xP (xA 1 F rfl fun a F=>?_));obtain⟨z8,c8,d⟩:=xB d;refine oG F rfl call69 rfl (spec_l01Set_rel_c z8 c8 _ aA (kQ.b (H.g 3 rfl).bk ag ah (H.l 4 rfl))) (fun a I w ⟨a7,dw,S,i11⟩ F=>?_);subst I;have H:=H.r1 S n0;refine oWA (vs:=[xG z8.arity,a7]) sizeOf51 F rfl rfl rfl (H.s [1,0,2,3,4,5] rfl rfl) (oc rfl (oc ((H.s [1,0,2,3,4,5] rfl rfl).l 1 rfl).one on)) rfl rfl fun w H=>qO (oH vW F rfl rfl rfl fun a F=>oB isAgg45 F rfl rfl (H.b 0 rfl) rfl fun a F=>oL underlying45 F rfl rfl (H.l 1 rfl) fun a dx F=>xA 2 F rfl fun a F=>oY ?_);refine xF (qP F rfl (fun al=>?_) (fun al=>?_))
  ·
   replace d:=vR al d;refine xP (fU isAgg51 sizeOf51 F rfl rfl (H.b 0 rfl) rfl rfl fun a F=>oWA (vs:=[xG z8.arity,a7]) sizeOf51 F rfl rfl rfl (H.s [3,0,1,2,4,5] rfl rfl) (oc rfl (oc ((H.s [3,0,1,2,4,5] rfl rfl).l 2 rfl).one on)) rfl rfl fun w H=>xJ (xT (vJ (oE ?_))));replace d:=zR d b0;refine vJ (oE ?_);replace d:=zQ d az;refine xS F rfl (gU (arr:=#[xG z8.arity,a7]) F isAgg51 sizeOf51 rfl (H.b 0 rfl)) ?_;obtain rfl:=oj d;exact⟨_,rfl,a7,v5,rfl,(H.s [2,4,5] rfl rfl),i11⟩
  replace d:=vQ al d;refine xL (qS (xF ?_));replace d:=qX d b0;exact⟨t1,(by omega),s3,v5,d,F.su,(H.s [3,4,5] rfl rfl)⟩
 rintro a w ⟨s1,v2,rfl,F,H⟩
 have d:=xN az;refine x_ends (xS F rfl (gU (arr:=#[xG 0,aE]) F isAgg51 sizeOf51 rfl (H.b 0 rfl)) ?_);obtain rfl:=oj d;exact⟨_,rfl,aE,v2,rfl,((H.nl 1 (vO 1 xH) 25).s [0,2,3] rfl rfl),(show xZ 0 by decide)⟩
def iJ (N:Nat) (B:List UInt8) (e:Int) (n:Op):Option Template:=
 xY (bQ B) fun d=>
 xY (qZ d.1 d.2.1 d.2.2 2) fun f=>
 xY (ck (1+f.1)) fun z=>
 vT (σ:=Int×Int×Int×(List Rel)) (
  cF (σ:=Int×Int×Int×(List Rel)) (ρ:=Template) (fun(s:Int×Int×Int×(List Rel))=>
    match s with
    | (h,p,t,x)=>
    if (decide (0<h)) then
     xY (qZ d.1 p t 2) fun i=>
     xY (ck (1+i.1)) fun C=>
     xY (fQ N d.1 i.2.1 i.2.2 e C) fun c=>
     vT (σ:=Int×(List (List Int))) (
      if (decide (0<(c.1.tuples.length:Int))) then
       xY (aH N e (Rel.mk c.1.arity c.1.tuples)) fun j=>
       xY (bA N e ([(Op.mk n.arity n.table)]) j.1 j.2.1 j.2.2) fun y=>
       some (.nx (y.1.arity,y.1.tuples))
      else
       some (.nx (c.1.arity,c.1.tuples))) fun(D,E)=>
     xY (ap x ([(Rel.mk D E)])) fun F=>
     xY (ck (h - 1)) fun G=>
     some (.go (G,c.2.1,c.2.2,F))
    else
     some (.brk (h,p,t,x))) N (z,f.2.1,f.2.2,[])) fun(H,I,J,A)=>
 some ((Template.mk e A))
theorem spec_P6Kept_c {B:Nat→Prop} {N:Nat} {x0:List UInt8} {e:Int} {j:Op} (r:Template) (d:iJ N x0 e j=some r) {v0:Value} {v2:Value} (E:World) (hN:∀ c,B c→c<E.heap.size) (A0:Bo B E (Sl 1 cL) v0 x0) (W:xZ e) (A2:Bo B E (zX 2 cS) v2 j):Calls Tryz.prog 7 #[v0,xG e,v2] E (Gv (fun v w'=>∃ (ak:Value),v= .agg #[xG r.size,ak]∧Sep [] B E w' [rl 2 qD 51 ak r.rels]∧xZ r.size)):=by
 unfold iJ at d
 refine xV (L:=[(0,v0),(1,xG e),(2,v2)]) func7 rfl rfl rfl (sc rfl (sc rfl (sc rfl sn))) (fun a F=>?_);have H:=Sep.start hN;refine xP ?_;obtain⟨O,rfl,i1,h1⟩:=cS.o A2;refine oX F rfl rfl rfl H fun a w I H F=>oA zeroValue31 F rfl rfl H fun a w n H F=>qO (xA 1 F rfl fun a F=>?_);obtain⟨a7,c1,d⟩:=xB d;refine oG F rfl call26 rfl (iX a7 c1 _ H.hN (H.u A0)) (fun a A w ⟨t,J,cu,S,Y,i2⟩ F=>?_);subst A;have Y:=H.dn Y;have H:=H.r1 S n0;refine xA 1 F rfl fun a F=>qO (xA 1 F rfl fun a F=>kV underlying31 zeroValue31 (fun w=>by simp [sizeOf2,sizeOf29];rfl) F rfl rfl rfl rfl rfl (oc rfl on) rfl rfl fun a F=>oA zeroValue31 F rfl rfl H fun a w p H F=>oWA (vs:=[xG e,aE]) sizeOf31 F rfl rfl rfl H (oc rfl (oc rfl on)) rfl rfl fun w H=>xJ ?_);refine xC (xP (xA 1 F rfl fun a F=>?_));obtain⟨Z,c2,d⟩:=xB d;obtain⟨X1,K1,b2⟩:=Sep.lend (K:=[bx t [J,xG a7.2.1,.int .u64 a7.2.2] 107]) (L:=[bx p [xG e,aE] 31,bx n [xG 0,aE] 31,bx I [xG j.arity,O] 27]) (H.s [1,0,2,3] rfl rfl);refine oG F rfl call27 rfl (zJ Z c2 _ H.hN K1 (H.u Y) i2 (show xZ (2) by decide)) (fun a A w ⟨cv,S,i3,i4⟩ F=>?_);subst A;have H:Sep [] B E w [bx t [J,xG Z.2.1,.int .u64 Z.2.2] 107,bx p [xG e,aE] 31,bx n [xG 0,aE] 31,bx I [xG j.arity,O] 27]:=b2 S;obtain⟨b3,c3,d⟩:=xB d;refine kI F rfl rfl rfl c3 fun a F=>xA 1 F rfl fun a F=>xJ ?_;obtain⟨o1,d,b4⟩:=xK d;refine xX (fun a w=>∃ (s1 s2 s3:Int) (s4:List Rel) (Q:Value),o1= .nx (s1,s2,s3,s4)∧Sk a 45 [(6,vK n),(8,vK p)]∧Sep [] B E w [rl 2 qD 51 Q s4,bx p [xG e,Q] 31,bx n [xG 0,aE] 31]∧xZ s1∧xZ s2) ?_ ?_
 ·
  refine xW ?_;obtain⟨b5,hf1,d⟩:=kU d;refine oU (fun g a w=>∃ (P T s7:Int) (C:List Rel) (i:Value),cF b5 g (P,T,s7,C)=some o1∧Sk a 45 [(1,xG e),(5,vK I),(6,vK n),(7,vK t),(8,vK p),(9,xG P)]∧Sep [] B E w [rl 2 qD 51 i C,bx t [J,xG T,.int .u64 s7] 107,bx p [xG e,i] 31,bx n [xG 0,aE] 31,bx I [xG j.arity,O] 27]∧xZ P∧xZ T) N ?_ ?_
  ·
   exact⟨b3,Z.2.1,Z.2.2,[],aE,d,F.su,(H.nl 2 qD 51),(kG c3),i4⟩
  intro g1 a w ⟨P,T,s7,C,i,d,F,H,i5,i6⟩;obtain⟨cw,t1,cx,d,al⟩:=zK d;rw[hf1] at d;refine xC (xP (xA 2 F rfl fun a F=>xJ (qP F rfl (fun a8=>?_) (fun a8=>?_))))
  ·
   replace d:=vR a8 d;refine xL (xF (xC (xW (xP (xA 3 F rfl fun a F=>?_)))));obtain⟨z2,c4,d⟩:=xB d;obtain⟨X2,K2,bk2⟩:=Sep.lend (K:=[bx t [J,xG T,.int .u64 s7] 107]) (L:=[rl 2 qD 51 i C,bx p [xG e,i] 31,bx n [xG 0,aE] 31,bx I [xG j.arity,O] 27]) (H.s [1,0,2,3,4] rfl rfl);refine oG F rfl call27 rfl (zJ z2 c4 _ H.hN K2 (H.u Y) i6 (show xZ (2) by decide)) (fun a A w ⟨cy,S,i7,i8⟩ F=>?_);subst A;have H:Sep [] B E w [bx t [J,xG z2.2.1,.int .u64 z2.2.2] 107,rl 2 qD 51 i C,bx p [xG e,i] 31,bx n [xG 0,aE] 31,bx I [xG j.arity,O] 27]:=bk2 S;obtain⟨z3,c5,d⟩:=xB d;refine kI F rfl rfl rfl c5 (fun a F=>?_);obtain⟨f,c6,d⟩:=xB d;obtain⟨X3,K3,bk3⟩:=Sep.lend (K:=[bx t [J,xG z2.2.1,.int .u64 z2.2.2] 107]) (L:=[rl 2 qD 51 i C,bx p [xG e,i] 31,bx n [xG 0,aE] 31,bx I [xG j.arity,O] 27]) H;refine oG F rfl call29 rfl (spec_l01Drawn_c f c6 _ H.hN K3 (H.u Y) i8 W (kG c5)) (fun a A w ⟨M,cz,S,i9,b9⟩ F=>?_);subst A;have H:Sep [] B E w [rl 1 (vO 1 xH) 25 M f.1.tuples,bx t [J,xG f.2.1,.int .u64 f.2.2] 107,rl 2 qD 51 i C,bx p [xG e,i] 31,bx n [xG 0,aE] 31,bx I [xG j.arity,O] 27]:=bk3 S;refine oA zeroValue51 F rfl rfl H fun a w U H F=>oWA (vs:=[xG f.1.arity,M]) sizeOf51 F rfl rfl rfl H (oc rfl (oc (H.l 1 rfl).one on)) rfl rfl fun w H=>xJ (xC (xP (oH vW F rfl rfl rfl fun a F=>oB isAgg45 F rfl rfl (H.b 0 rfl) rfl fun a F=>oL underlying45 F rfl rfl (H.l 1 rfl) fun a d0 F=>xA 1 F rfl fun a F=>?_)));refine xJ ?_;obtain⟨o2,d,ba⟩:=xK d;refine xX (fun a w=>∃ (s9:Int) (a5:List (List Int)) (v7:Value),o2= .nx (s9,a5)∧Sk a 45 [(1,xG e),(5,vK I),(6,vK n),(7,vK t),(8,vK p),(9,xG P),(10,vK U)]∧Sep [] B E w [bx U [xG s9,v7] 51,rl 1 (vO 1 xH) 25 v7 a5,bx t [J,xG f.2.1,.int .u64 f.2.2] 107,rl 2 qD 51 i C,bx p [xG e,i] 31,bx n [xG 0,aE] 31,bx I [xG j.arity,O] 27]∧xZ s9) ?_ ?_
   ·
    refine qP F rfl (fun a9=>?_) (fun a9=>?_)
    ·
     replace d:=vR a9 d;obtain⟨D,c7,d⟩:=xB d;obtain⟨V,c8,d⟩:=xB d;obtain⟨w1,rfl⟩:∃ x,x=w:=⟨_,rfl⟩;have am:=H.sm;obtain⟨X4,N2,g2,e1,H,X,d1⟩:=(H.s [6,0,1,2,3,4,5] rfl rfl).fza;have K4:=g2.bk;refine xD H (by kernel_rfl) fun w H=>dp (fun G=>∀ (v8:Value) (b6:Nat) (v9:Value) (a:Act) (w:World),Sk a 45 [(1,xG e),(5,vK I),(6,vK n),(7,vK t),(8,vK p),(9,xG P),(10,vK U),(32,xG e),(34,v8),(36,vK b6)]→Sep X4 N2 w1 w [rw B 2 cS 27 v8 ([(Op.mk j.arity j.table)]),bx b6 [xG D.1,xG D.2.1,v9] 116,rl 1 kN 4 v9 D.2.2,bx U [xG f.1.arity,M] 51,rl 1 (vO 1 xH) 25 M f.1.tuples,bx t [J,xG f.2.1,.int .u64 f.2.2] 107,rl 2 qD 51 i C,bx p [xG e,i] 31,bx n [xG 0,aE] 31]→xZ D.1→xZ D.2.1→∀ ls,ls = #[true,true,true,true,true,false,false]→G 2 ls a w) ?_ (fun H1=>?_)
     ·
      intro v8 b6 v9 a w F H bb bc ls bd;subst bd;refine xE H 5 rfl (by kernel_rfl) ?_;obtain⟨w2,rfl⟩:∃ x,x=w:=⟨_,rfl⟩;have d2:=H.sm;obtain⟨X5,N3,g3,e2,H,a6,d3⟩:=H.fza;have h3:=g3.rd;obtain⟨X6,K5,be⟩:=Sep.lend (K:=[bx b6 [xG D.1,xG D.2.1,v9] 116,rl 1 kN 4 v9 D.2.2]) (L:=[bx U [xG f.1.arity,M] 51,rl 1 (vO 1 xH) 25 M f.1.tuples,bx t [J,xG f.2.1,.int .u64 f.2.2] 107,rl 2 qD 51 i C,bx p [xG e,i] 31,bx n [xG 0,aE] 31]) H;refine oG F rfl call30 rfl (spec_l02Closure_c V c8 _ H.hN K5 W (H.u h3) bb bc) (fun a A w ⟨aa,an,d4,S,bf⟩ F=>?_);subst A;have H:Sep X5 N3 w2 w [rl 1 (vO 1 xH) 25 aa V.1.tuples,bx b6 [xG D.1,xG D.2.1,an] 116,rl 1 kN 4 an V.2,bx U [xG f.1.arity,M] 51,rl 1 (vO 1 xH) 25 M f.1.tuples,bx t [J,xG f.2.1,.int .u64 f.2.2] 107,rl 2 qD 51 i C,bx p [xG e,i] 31,bx n [xG 0,aE] 31]:=be S;refine xJ ⟨⟨_,(a6.1 H (Ns.all ⟨n0,⟨n0,⟨n0,⟨n0,⟨n0,⟨n0,⟨n0,⟨n0,⟨n0,trivial⟩⟩⟩⟩⟩⟩⟩⟩⟩))⟩,?_⟩;refine xE (a6.1 H (Ns.all ⟨n0,⟨n0,⟨n0,⟨n0,⟨n0,⟨n0,⟨n0,⟨n0,⟨n0,trivial⟩⟩⟩⟩⟩⟩⟩⟩⟩)) 6 rfl (by kernel_rfl) (oWA (vs:=[xG V.1.arity,aa]) sizeOf51 F rfl rfl rfl (H.s [3,0,1,2,4,5,6,7,8] rfl rfl) (oc rfl (oc ((H.s [3,0,1,2,4,5,6,7,8] rfl rfl).l 1 rfl).one on)) rfl rfl fun w H=>xJ ⟨⟨_,(a6.1 H (Ns.all ⟨n0,⟨n0,⟨n0,⟨n0,⟨n0,⟨n0,⟨n0,⟨n0,⟨n0,trivial⟩⟩⟩⟩⟩⟩⟩⟩⟩))⟩,?_⟩);refine bF (by kernel_rfl) (xF ?_);exact⟨V.1.arity,V.1.tuples,aa,(vE d),F.su,((X.1 (a6.1 (H.s [0,1,5,6,7,8] rfl rfl) (Ns.all ⟨n0,⟨n0,⟨n0,⟨n0,⟨n0,⟨n0,trivial⟩⟩⟩⟩⟩⟩)) (Ns.all ⟨n1,⟨n0,⟨n0,⟨n0,⟨n0,⟨n0,⟨n0,trivial⟩⟩⟩⟩⟩⟩⟩)).s [2,3,4,5,6,7,0] rfl rfl),bf⟩
     refine vM 0 rfl (by kernel_rfl) (oJ F rfl (fun w l=>xM F rfl) fun a F=>qY 1 rfl (by kernel_rfl) (vBA isAgg27 sizeOf27 F rfl rfl (K4.v H.sm) rfl rfl fun a F=>vM 3 rfl (by kernel_rfl) (oJ F rfl (fun w l=>xM F rfl) fun a F=>b_es [2,4] (by kernel_rfl) (by simp) ⟨⟨_,rfl,?_⟩,⟨_,rfl,?_⟩,trivial⟩)))
     ·
      refine xEs H (oR1 (R:=cS) (y:=(Op.mk j.arity j.table)) (N1:=B) underlying66 sizeOf27 zeroValue27 rfl rfl F rfl rfl H (fun c h=>(X.2.2 c h)) (Eo.agg (cS.m i1 (Bo.to h1 (am.trans (Sm.mono H.sm X.2.2))))) fun a w bg H F=>xJ ⟨⟨_,H⟩,?_⟩);refine xE H 4 rfl (by kernel_rfl) (oG F rfl call31 rfl (spec_l01SetOf_c D c7 _ aA W (qD.b (H.g 1 rfl).bk i9 (H.l 2 rfl))) (fun a A w ⟨b7,bh,d5,S,bi,bj⟩ F=>?_));subst A;have H:=H.rk S ⟨n0,⟨n0,trivial⟩⟩ rfl;refine xJ ⟨⟨_,H⟩,?_⟩;exact H1 bg b7 bh _ _ (F.su) (H.s [2,0,1,3,4,5,6,7,8] rfl rfl) bi bj _ (by kernel_rfl)
     refine xEs H (oG F rfl call31 rfl (spec_l01SetOf_c D c7 _ aA W (qD.b (H.g 0 rfl).bk i9 (H.l 1 rfl))) (fun a A w ⟨b8,bm,d6,S,bn,bp⟩ F=>?_));subst A;have H:=H.rk S ⟨n0,⟨n0,trivial⟩⟩ rfl;refine xJ ⟨⟨_,H⟩,?_⟩;refine xE H 2 rfl (by kernel_rfl) (oR1 (R:=cS) (y:=(Op.mk j.arity j.table)) (N1:=B) underlying66 sizeOf27 zeroValue27 rfl rfl F rfl rfl H (fun c h=>(X.2.2 c h)) (Eo.agg (cS.m i1 (Bo.to h1 (am.trans (Sm.mono H.sm X.2.2))))) fun a w bq H F=>xJ ⟨⟨_,H⟩,?_⟩);exact H1 bq b8 bm _ _ (F.su) H bn bp _ (by kernel_rfl)
    replace d:=vQ a9 d;refine xL (xF ?_);exact⟨f.1.arity,f.1.tuples,M,(vE d),F.su,H,i9⟩
   rintro a w ⟨s9,a5,v7,rfl,F,H,br⟩
   have d:=xN ba;refine xF (xU (oH kR F rfl rfl rfl fun a F=>oB isAgg29 F rfl rfl (H.b 4 rfl) rfl fun a F=>fU isAgg51 sizeOf51 F rfl rfl (H.b 0 rfl) rfl rfl (fun a F=>?_)));have H:=(qD.w br (H.s [1,0,2,3,4,5,6] rfl rfl));refine oR1L (R:=qD) (y:=(Rel.mk s9 a5)) underlying29 sizeOf51 zeroValue51 rfl rfl F rfl rfl H El.agg (fun a w d7 H F=>?_);obtain⟨z7,c9,d⟩:=xB d;refine oPL (sz:=2) (R:=qD) (z:=(.agg #[xG 0,aE])) (bytes:=32) underlying29 (by kernel_rfl) rfl rfl F rfl rfl rfl (H.s [3,0,1,2,4,5,6] rfl rfl) c9 fun a w bt H F=>oH kR F rfl rfl rfl fun a F=>oW sizeOf29 F rfl rfl rfl (H.s [3,0,1,2,4,5] rfl rfl) ((H.s [3,0,1,2,4,5] rfl rfl).l 1 rfl).one rfl rfl fun w H=>oY (qS (xF (xU (xA 1 F rfl fun a F=>?_))));obtain⟨z8,ao,d⟩:=xB d;refine iS F rfl rfl rfl ao fun a F=>xA 1 F rfl fun a F=>xJ ?_;replace d:=qX d al;exact⟨t1,(by omega),z8,f.2.1,f.2.2,z7,bt,d,F.su,(H.s [1,3,0,4,5] rfl rfl),(kG ao),b9⟩
  replace d:=vQ a8 d;refine oM (oR (oR ?_));replace d:=eL d al;refine vH (xF ?_);exact⟨P,T,s7,C,i,(vE d),F.su,(H.s [0,2,3] rfl rfl),i5,i6⟩
 rintro a w ⟨s1,s2,s3,s4,Q,rfl,F,H,d8,d9⟩
 have d:=xN b4;refine xF (xP (fU isAgg31 sizeOf31 F rfl rfl (H.b 1 rfl) rfl rfl fun a F=>oWA (vs:=[xG e,Q]) sizeOf31 F rfl rfl rfl (H.s [2,0,1] rfl rfl) (oc rfl (oc ((H.s [2,0,1] rfl rfl).l 1 rfl).one on)) rfl rfl fun w H=>xJ (xT (xS F rfl (gU (arr:=#[xG e,Q]) F isAgg31 sizeOf31 rfl (H.b 0 rfl)) ?_))));obtain rfl:=oj d;exact⟨_,rfl,Q,rfl,(H.s [1] rfl rfl),W⟩
def spec_l05Drawn (N:Nat) (c:List UInt8) (C D:Int) (e:Template) (L:Int):Option (Instance×Int×Int):=
 xY (qZ c C D L) fun f=>
 xY (ck (1+f.1)) fun p=>
 xY (qZ c f.2.1 f.2.2 7) fun h=>
 vT (σ:=Int×Int×Int×(List Con)) (
  cF (σ:=Int×Int×Int×(List Con)) (ρ:=Instance×Int×Int) (fun(s:Int×Int×Int×(List Con))=>
    match s with
    | (i,t,x,y)=>
    vT (σ:=Bool) (
     if (decide (0<i)) then  some (.nx (decide (0<(e.rels.length:Int)))) else  some (.nx false)) fun M=>
    if M then
     xY (qZ c t x (e.rels.length:Int)) fun d=>
     xY (ix e.rels d.1) fun O=>
     vT (σ:=Int×Int×Int×(List Int)) (
      cF (σ:=Int×Int×Int×(List Int)) (ρ:=(Ctl (Int×Int×Int×(List Con)) (Instance×Int×Int))) (fun(s:Int×Int×Int×(List Int))=>
        match s with
        | (j,z,A,B)=>
        if (decide (0<j)) then
         xY (qZ c z A p) fun n=>
         xY (ap B ([n.1])) fun P=>
         xY (ck (j - 1)) fun Q=>
         some (.go (Q,n.2.1,n.2.2,P))
        else
         some (.brk (j,z,A,B))) N (O.arity,d.2.1,d.2.2,[])) fun(S,E,F,G)=>
     xY (ap y ([(Con.mk d.1 G)])) fun R=>
     xY (ck (i - 1)) fun H=>
     some (.go (H,E,F,R))
    else
     some (.brk (i,t,x,y))) N (h.1,h.2.1,h.2.2,[])) fun(T,I,J,K)=>
 some ((Instance.mk p K),I,J)
theorem spec_l05Drawn_c {B:Nat→Prop} {N:Nat} {au:List UInt8} {a5 ae:Int} {x1:Template} {x2:Int} (r:Instance×Int×Int) (d:spec_l05Drawn N au a5 ae x1 x2=some r) {e:Nat} {h:Value} {O:Value} {M:List Nat} (t:World) (hN:∀ c,B c→c<t.heap.size) (S0:Sep M B t t [bx e [h,xG a5,.int .u64 ae] 107]) (a1:Bo B t (Sl 1 cL) h au) (b9:xZ a5) (X:Bo B t (Pt 2 xI) O x1) (bb:xZ x2):Calls Tryz.prog 32 #[vK e,O,xG x2] t (Gv (fun v w'=>∃ (av:Value),v= .agg #[xG r.1.vars,av]∧Sep M B t w' [rl 2 vU 119 av r.1.cons,bx e [h,xG r.2.1,.int .u64 r.2.2] 107]∧xZ r.1.vars∧xZ r.2.1)):=by
 unfold spec_l05Drawn at d
 refine xV (L:=[(0,vK e),(1,O),(2,xG x2)]) func32 rfl rfl rfl (sc rfl (sc rfl (sc rfl sn))) (fun a F=>?_);have H:=S0;refine xP (oA zeroValue35 F rfl rfl H fun a w f H F=>qO (xA 2 F rfl fun a F=>?_));obtain⟨z1,c1,d⟩:=xB d;obtain⟨X1,K1,ba⟩:=Sep.lend (K:=[bx e [h,xG a5,.int .u64 ae] 107]) (L:=[bx f [xG 0,aE] 35]) (H.s [1,0] rfl rfl);refine oG F rfl call27 rfl (zJ z1 c1 _ H.hN K1 (H.u a1) b9 bb) (fun a P w ⟨d9,S,i1,i2⟩ F=>?_);subst P;have H:Sep M B t w [bx e [h,xG z1.2.1,.int .u64 z1.2.2] 107,bx f [xG 0,aE] 35]:=ba S;obtain⟨D,c2,d⟩:=xB d;refine kI F rfl rfl rfl c2 fun a F=>kV underlying35 zeroValue35 (fun w=>by simp [sizeOf2,sizeOf33];rfl) F rfl rfl rfl rfl rfl (oc rfl on) rfl rfl fun a F=>oA zeroValue35 F rfl rfl H fun a w p H F=>oWA (vs:=[xG D,aE]) sizeOf35 F rfl rfl rfl H (oc rfl (oc rfl on)) rfl rfl fun w H=>xJ (xC (xP (xA 1 F rfl fun a F=>?_)));obtain⟨Y,c3,d⟩:=xB d;obtain⟨X2,K2,bc⟩:=Sep.lend (K:=[bx e [h,xG z1.2.1,.int .u64 z1.2.2] 107]) (L:=[bx p [xG D,aE] 35,bx f [xG 0,aE] 35]) (H.s [1,0,2] rfl rfl);refine oG F rfl call27 rfl (zJ Y c3 _ H.hN K2 (H.u a1) i2 (show xZ (7) by decide)) (fun a P w ⟨da,S,i3,i4⟩ F=>?_);subst P;have H:Sep M B t w [bx e [h,xG Y.2.1,.int .u64 Y.2.2] 107,bx p [xG D,aE] 35,bx f [xG 0,aE] 35]:=bc S;refine xA 1 F rfl fun a F=>xJ ?_;obtain⟨o1,d,bd⟩:=xK d;refine xX (fun a w=>∃ (s1 s2 s3:Int) (s4:List Con) (Z:Value),o1= .nx (s1,s2,s3,s4)∧Sk a 67 [(0,vK e),(6,vK f),(7,vK p)]∧Sep M B t w [rl 2 vU 119 Z s4,bx e [h,xG s2,.int .u64 s3] 107,bx p [xG D,Z] 35,bx f [xG 0,aE] 35]∧xZ s1∧xZ s2) ?_ ?_
 ·
  refine xW ?_;obtain⟨be,bf,d⟩:=kU d;refine oU (fun g a w=>∃ (I U s7:Int) (A:List Con) (i:Value),cF be g (I,U,s7,A)=some o1∧Sk a 67 [(0,vK e),(1,O),(6,vK f),(7,vK p),(8,xG I)]∧Sep M B t w [rl 2 vU 119 i A,bx e [h,xG U,.int .u64 s7] 107,bx p [xG D,i] 35,bx f [xG 0,aE] 35]∧xZ I∧xZ U) N ?_ ?_
  ·
   exact⟨Y.1,Y.2.1,Y.2.2,[],aE,d,F.su,(H.nl 2 vU 119),i3,i4⟩
  intro g1 a w ⟨I,U,s7,A,i,d,F,H,i5,i6⟩;obtain⟨db,t1,dc,d,aw⟩:=zK d;rw[bf] at d;refine xC (xC ?_);obtain⟨o2,d,bg⟩:=xK d;refine xX (fun a w=>∃ (s9:Bool),o2= .nx s9∧Sk a 67 [(0,vK e),(1,O),(6,vK f),(7,vK p),(8,xG I),(27,.bool s9)]∧Sep M B t w [rl 2 vU 119 i A,bx e [h,xG U,.int .u64 s7] 107,bx p [xG D,i] 35,bx f [xG 0,aE] 35]) ?_ ?_
  ·
   refine xU (xA 3 F rfl fun a F=>?_)
   rcases qU (decide (0<I)) with a2 | a2
   ·
    replace d:=vR a2 d;have F:=F.eb 20 rfl a2;refine xA 1 F rfl fun a F=>oN F rfl rfl X fun a F=>oF (s':=1) kR F rfl rfl X xI.f1 fun a p1 h1 F=>aY isAgg29 F rfl rfl H.sm h1 fun a v4 h2 F=>oL underlying29 F rfl rfl h2 fun a i7 F=>xA 2 F rfl fun a F=>xJ ?_;exact⟨(decide (0<(x1.rels.length:Int))),(vE d),F.su,H⟩
   replace d:=vQ a2 d;have F:=F.eb 20 rfl a2;refine xA 7 F rfl fun a F=>xJ ?_;exact⟨false,(vE d),F.su,H⟩
  rintro a w ⟨s9,rfl,F,H⟩
  have d:=xN bg;refine xF (qP F rfl (fun af=>?_) (fun af=>?_))
  ·
   replace d:=vR af d;refine xL (xF (xC (xW (xP (xA 2 F rfl fun a F=>oN F rfl rfl X fun a F=>oF (s':=1) kR F rfl rfl X xI.f1 fun a p2 h3 F=>aY isAgg29 F rfl rfl H.sm h3 (fun a v5 h4 F=>?_))))));refine oL underlying29 F rfl rfl h4 (fun a i8 F=>?_);obtain⟨C,c4,d⟩:=xB d;obtain⟨X3,K3,bh⟩:=Sep.lend (K:=[bx e [h,xG U,.int .u64 s7] 107]) (L:=[rl 2 vU 119 i A,bx p [xG D,i] 35,bx f [xG 0,aE] 35]) (H.s [1,0,2,3] rfl rfl);refine oG F rfl call27 rfl (zJ C c4 _ H.hN K3 (H.u a1) i6 i8) (fun a P w ⟨dd,S,i9,bi⟩ F=>?_);subst P;have H:Sep M B t w [bx e [h,xG C.2.1,.int .u64 C.2.2] 107,rl 2 vU 119 i A,bx p [xG D,i] 35,bx f [xG 0,aE] 35]:=bh S;refine kV underlying119 zeroValue119 (fun w=>by simp [sizeOf2,sizeOf25];rfl) F rfl rfl rfl rfl rfl (oc rfl on) rfl rfl fun a F=>oA zeroValue119 F rfl rfl H fun a w E H F=>oWA (vs:=[xG C.1,aE]) sizeOf119 F rfl rfl rfl H (oc rfl (oc rfl on)) rfl rfl fun w H=>xJ (xC (xC (xQ H (by kernel_rfl) (by kernel_rfl) (xR F rfl (fun w l=>xM F rfl) fun a F=>qN F rfl rfl X fun a F=>qF (s':=1) kR F rfl rfl X xI.f1 (fun a p3 h5 F=>?_)))));refine qlS isAgg29 F rfl rfl H.q h5 fun a v6 h6 F=>xR F rfl (fun w l=>vG fR F rfl rfl) fun a F=>qB isAgg2 F rfl rfl (H.qb 0 rfl) rfl (fun a F=>?_);obtain⟨z5,c5,d⟩:=xB d;refine qI underlying29 sizeOf51 F rfl rfl rfl h6 c5 fun a p4 h7 F=>qF (s':=1) cB F rfl rfl h7 qD.f0 fun a p5 h8 F=>iB isAgg2 F rfl rfl H.q h8 fun a bj F=>xR F rfl (fun w l=>zM F rfl) fun a F=>kA fun w H=>xF ?_;obtain⟨o3,d,bm⟩:=xK d;refine xX (fun a w=>∃ (ag a3 a6:Int) (a7:List Int) (v7:Value),o3= .nx (ag,a3,a6,a7)∧Sk a 67 [(0,vK e),(1,O),(6,vK f),(7,vK p),(8,xG I),(9,vK E)]∧Sep M B t w [rl 1 xH 2 v7 a7,bx E [xG C.1,v7] 119,bx e [h,xG a3,.int .u64 a6] 107,rl 2 vU 119 i A,bx p [xG D,i] 35,bx f [xG 0,aE] 35]∧xZ ag∧xZ a3) ?_ ?_
   ·
    refine xW ?_;obtain⟨bn,bp,d⟩:=kU d;refine oU (fun g a w=>∃ (Q T W:Int) (J:List Int) (n:Value),cF bn g (Q,T,W,J)=some o3∧Sk a 67 [(0,vK e),(1,O),(6,vK f),(7,vK p),(8,xG I),(9,vK E),(10,xG Q)]∧Sep M B t w [rl 1 xH 2 n J,bx E [xG C.1,n] 119,bx e [h,xG T,.int .u64 W] 107,rl 2 vU 119 i A,bx p [xG D,i] 35,bx f [xG 0,aE] 35]∧xZ Q∧xZ T) N ?_ ?_
    ·
     exact⟨z5.arity,C.2.1,C.2.2,[],aE,d,F.su,(H.nl 1 xH 2),bj,bi⟩
    intro g2 a w ⟨Q,T,W,J,n,d,F,H,bq,ah⟩;obtain⟨de,t2,df,d,ax⟩:=zK d;rw[bp] at d;refine xC (xP (xA 2 F rfl fun a F=>xJ (qP F rfl (fun ai=>?_) (fun ai=>?_))))
    ·
     replace d:=vR ai d;refine xL (xF (xC (xW ?_)));obtain⟨j,c6,d⟩:=xB d;obtain⟨z7,c7,d⟩:=xB d;obtain⟨w1,rfl⟩:∃ x,x=w:=⟨_,rfl⟩;have dg:=H.sm;obtain⟨X4,N1,g3,e1,H,br,dh⟩:=(H.s [4,0,1,2,3,5] rfl rfl).fza;have K4:=g3.bk;refine xD H (by kernel_rfl) fun w H=>dp (fun G=>∀ (v9:Value) (a:Act) (w:World),Sk a 67 [(0,vK e),(1,O),(6,vK f),(7,vK p),(8,xG I),(9,vK E),(10,xG Q),(52,n),(57,v9)]→Sep X4 N1 w1 w [rl 1 xH 2 v9 ([j.1]),bx e [h,xG j.2.1,.int .u64 j.2.2] 107,rl 1 xH 2 n J,bx E [xG C.1,n] 119,rl 2 vU 119 i A,bx f [xG 0,aE] 35]→xZ j.2.1→∀ V,V = #[true,true,true,true,true,true,true,false,false,false]→G 3 V a w) ?_ (fun H1=>?_)
     ·
      intro v9 a w F H bt V aj;subst aj;refine xE H 7 rfl (by kernel_rfl) (oPL (sz:=1) (R:=xH) (z:=(xG 0)) (bytes:=8) underlying25 (by kernel_rfl) rfl rfl F rfl rfl rfl (H.s [2,0,1,3,4,5] rfl rfl) c7 fun a w bu H F=>xJ ⟨⟨_,H⟩,?_⟩);refine qY 8 rfl (by kernel_rfl) (oJ F rfl (fun w l=>vG zV F rfl rfl) fun a F=>xE H 9 rfl (by kernel_rfl) (oW sizeOf25 F rfl rfl rfl (H.s [2,0,1,3,4] rfl rfl) ((H.s [2,0,1,3,4] rfl rfl).l 1 rfl).one rfl rfl fun w H=>xJ ⟨⟨_,H⟩,?_⟩));refine bF (by kernel_rfl) (qS (xF (xU (xA 1 F rfl fun a F=>?_))));obtain⟨z8,c8,d⟩:=xB d;refine iS F rfl rfl rfl c8 fun a F=>xA 1 F rfl fun a F=>xJ ?_;replace d:=qX d ax;exact⟨t2,(by omega),z8,j.2.1,j.2.2,z7,bu,d,F.su,((br.1 H (Ns.all ⟨n0,⟨n0,⟨n0,⟨n0,⟨n0,trivial⟩⟩⟩⟩⟩)).s [2,1,3,4,0,5] rfl rfl),(kG c8),bt⟩
     refine dp (fun G=>∀ (a:Act) (w:World),Sk a 67 [(0,vK e),(1,O),(6,vK f),(7,vK p),(8,xG I),(9,vK E),(10,xG Q),(52,n),(56,xG j.1)]→Sep X4 N1 w1 w [bx e [h,xG j.2.1,.int .u64 j.2.2] 107,rl 1 xH 2 n J,bx E [xG C.1,n] 119,rl 2 vU 119 i A,bx f [xG 0,aE] 35]→xZ j.2.1→xZ j.1→∀ V,V = #[true,true,true,true,true,true,false,false,false,false]→G 4 V a w) ?_ (fun H2=>?_)
     ·
      intro a w F H bv bw V aj;subst aj;refine xE H 6 rfl (by kernel_rfl) (oR1z (R:=xH) (y:=j.1) underlying25 sizeOf2 zeroValue2 rfl rfl F rfl rfl H (Eo.int bw) fun a w c0 H F=>xJ ⟨⟨_,H⟩,?_⟩);exact H1 c0 _ _ (F.su) H bv _ (by kernel_rfl)
     refine qY 0 rfl (by kernel_rfl) (oJ F rfl (fun w l=>vG zV F rfl rfl) fun a F=>vM 2 rfl (by kernel_rfl) (oJ F rfl (fun w l=>xM F rfl) fun a F=>qY 3 rfl (by kernel_rfl) (oJ F rfl (fun w l=>vG kD F rfl rfl) fun a F=>qY 4 rfl (by kernel_rfl) (vB isAgg2 F rfl rfl (K4.v H.sm) rfl fun a F=>b_es [1,5] (by kernel_rfl) (by simp) ⟨⟨_,rfl,?_⟩,⟨_,rfl,?_⟩,trivial⟩))))
     ·
      refine xEs H (oB isAgg25 F rfl rfl (H.b 1 rfl) rfl fun a F=>xJ ⟨⟨_,H⟩,?_⟩);refine xE H 5 rfl (by kernel_rfl) ?_;obtain⟨X5,K5,bk3⟩:=Sep.lend (K:=[bx e [h,xG T,.int .u64 W] 107]) (L:=[rl 1 xH 2 n J,bx E [xG C.1,n] 119,rl 2 vU 119 i A,bx f [xG 0,aE] 35]) (H.s [2,0,1,3,4] rfl rfl);refine oG F rfl call27 rfl (zJ j c6 _ H.hN K5 (H.u (e1 a1)) ah (kG c2)) (fun a P w ⟨di,S,i19,i20⟩ F=>?_);subst P;have H:Sep X4 N1 w1 w [bx e [h,xG j.2.1,.int .u64 j.2.2] 107,rl 1 xH 2 n J,bx E [xG C.1,n] 119,rl 2 vU 119 i A,bx f [xG 0,aE] 35]:=bk3 S;refine xJ ⟨⟨_,H⟩,?_⟩;exact H2 _ _ (F.su) H i20 i19 _ (by kernel_rfl)
     refine xEs H ?_;obtain⟨X6,K6,bk4⟩:=Sep.lend (K:=[bx e [h,xG T,.int .u64 W] 107]) (L:=[rl 1 xH 2 n J,bx E [xG C.1,n] 119,rl 2 vU 119 i A,bx f [xG 0,aE] 35]) (H.s [2,0,1,3,4] rfl rfl);refine oG F rfl call27 rfl (zJ j c6 _ H.hN K6 (H.u (e1 a1)) ah (kG c2)) (fun a P w ⟨dj,S,ay,az⟩ F=>?_);subst P;have H:Sep X4 N1 w1 w [bx e [h,xG j.2.1,.int .u64 j.2.2] 107,rl 1 xH 2 n J,bx E [xG C.1,n] 119,rl 2 vU 119 i A,bx f [xG 0,aE] 35]:=bk4 S;refine xJ ⟨⟨_,H⟩,?_⟩;refine b_es [1,6] (by kernel_rfl) (by simp) ⟨⟨_,rfl,?_⟩,⟨_,rfl,?_⟩,trivial⟩
     ·
      refine xEs H (oB isAgg25 F rfl rfl (H.b 2 rfl) rfl fun a F=>xJ ⟨⟨_,H⟩,?_⟩);exact H2 _ _ (F.su) H az ay _ (by kernel_rfl)
     refine xEs H (oR1z (R:=xH) (y:=j.1) underlying25 sizeOf2 zeroValue2 rfl rfl F rfl rfl H (Eo.int ay) fun a w v12 H F=>xJ ⟨⟨_,H⟩,?_⟩);refine xE H 1 rfl (by kernel_rfl) (oB isAgg25 F rfl rfl (H.b 3 rfl) rfl fun a F=>xJ ⟨⟨_,H⟩,?_⟩);exact H1 v12 _ _ (F.su) H az _ (by kernel_rfl)
    replace d:=vQ ai d;refine oM (oR (oR ?_));replace d:=eL d ax;refine vH (xF ?_);exact⟨Q,T,W,J,n,(vE d),F.su,H,bq,ah⟩
   rintro a w ⟨ag,a3,a6,a7,v7,rfl,F,H,dk,i24⟩
   have d:=xN bm;refine xF (xU (oH bU F rfl rfl rfl fun a F=>oB isAgg33 F rfl rfl (H.b 4 rfl) rfl fun a F=>fU isAgg119 sizeOf119 F rfl rfl (H.b 1 rfl) rfl rfl (fun a F=>?_)));have H:=(vU.w i9 H);refine oR1L (R:=vU) (y:=(Con.mk C.1 a7)) underlying33 sizeOf119 zeroValue119 rfl rfl F rfl rfl H El.agg (fun a w dl H F=>?_);obtain⟨z9,c9,d⟩:=xB d;refine oPL (sz:=2) (R:=vU) (z:=(.agg #[xG 0,aE])) (bytes:=32) underlying33 (by kernel_rfl) rfl rfl F rfl rfl rfl (H.s [3,0,1,2,4,5] rfl rfl) c9 fun a w v14 H F=>oH bU F rfl rfl rfl fun a F=>oW sizeOf33 F rfl rfl rfl (H.s [3,0,1,2,4] rfl rfl) ((H.s [3,0,1,2,4] rfl rfl).l 1 rfl).one rfl rfl fun w H=>oY (qS (xF (xU (xA 1 F rfl fun a F=>?_))));obtain⟨z10,b0,d⟩:=xB d;refine iS F rfl rfl rfl b0 fun a F=>xA 1 F rfl fun a F=>xJ ?_;replace d:=qX d aw;exact⟨t1,(by omega),z10,a3,a6,z9,v14,d,F.su,(H.s [1,3,0,4] rfl rfl),(kG b0),i24⟩
  replace d:=vQ af d;refine oM (oR (oR ?_));replace d:=eL d aw;refine vH (xF ?_);exact⟨I,U,s7,A,i,(vE d),F.su,H,i5,i6⟩
 rintro a w ⟨s1,s2,s3,s4,Z,rfl,F,H,dm,i26⟩
 have d:=xN bd;refine xF (xP (fU isAgg35 sizeOf35 F rfl rfl (H.b 2 rfl) rfl rfl fun a F=>oWA (vs:=[xG D,Z]) sizeOf35 F rfl rfl rfl (H.s [3,0,1,2] rfl rfl) (oc rfl (oc ((H.s [3,0,1,2] rfl rfl).l 1 rfl).one on)) rfl rfl fun w H=>xJ (xT (xS F rfl (gU (arr:=#[xG D,Z]) F isAgg35 sizeOf35 rfl (H.b 0 rfl)) ?_))));obtain rfl:=oj d;exact⟨_,rfl,Z,rfl,(H.s [1,2] rfl rfl),(kG c2),i26⟩
def dE (N:Nat) (f:List UInt8) (e:Template) (h:Int):Option Instance:=
 xY (bQ f) fun c=>
 xY (spec_l05Drawn N c.1 c.2.1 c.2.2 (Template.mk e.size e.rels) h) fun d=>
 some ((Instance.mk d.1.vars d.1.cons))
theorem spec_P6Instance_c {B:Nat→Prop} {N:Nat} {A:List UInt8} {C:Template} {h:Int} (r:Instance) (e:dE N A C h=some r) {n:Value} {p:Value} (f:World) (P:∀ c,B c→c<f.heap.size) (Q:Bo B f (Sl 1 cL) n A) (R:Bo B f (zX 2 xI) p C) (J:xZ h):Calls Tryz.prog 8 #[n,p,xG h] f (Gv (fun v w'=>∃ (z:Value),v= .agg #[xG r.vars,z]∧Sep [] B f w' [rl 2 vU 119 z r.cons]∧xZ r.vars)):=by
 unfold dE at e
 refine xV (L:=[(0,n),(1,p),(2,xG h)]) func8 rfl rfl rfl (sc rfl (sc rfl (sc rfl sn))) (fun a F=>?_);have H:=Sep.start P;refine xP ?_;obtain⟨v2,rfl,T,U⟩:=xI.o R;refine oX F rfl rfl rfl H fun a w b1 H F=>oA zeroValue35 F rfl rfl H fun a w D H F=>qO (xA 1 F rfl fun a F=>?_);obtain⟨j,V,e⟩:=xB e;refine oG F rfl call26 rfl (iX j V _ H.hN (H.u Q)) (fun a t w ⟨E,G,a4,S,y,W⟩ F=>?_);subst t;have y:=H.dn y;have H:=H.r1 S n0;refine xA 1 F rfl fun a F=>?_;obtain⟨X,rfl⟩:∃ x,x=w:=⟨_,rfl⟩;have a5:=H.sm;obtain⟨Y,Z,g1,I,H,M,a6⟩:=(H.s [2,0,1] rfl rfl).fza;have K1:=g1.bk;obtain⟨d,c2,e⟩:=xB e;obtain⟨X2,K2,O⟩:=Sep.lend (K:=[bx E [G,xG j.2.1,.int .u64 j.2.2] 107]) (L:=[bx D [xG 0,aE] 35]) H;refine oG F rfl call32 rfl (spec_l05Drawn_c d c2 _ H.hN K2 (H.u (I y)) W (xI.b (K1.to H.sm) T (H.u (I U))) J) (fun a t w ⟨i,a7,S,i3,i4⟩ F=>?_);subst t;have H:Sep Y Z X w [rl 2 vU 119 i d.1.cons,bx E [G,xG d.2.1,.int .u64 d.2.2] 107,bx D [xG 0,aE] 35]:=O S;refine oWA (vs:=[xG d.1.vars,i]) sizeOf35 F rfl rfl rfl (H.s [2,0,1] rfl rfl) (oc rfl (oc ((H.s [2,0,1] rfl rfl).l 1 rfl).one on)) rfl rfl fun w H=>xJ (xT ?_);have H:=(M.1 H (Ns.all ⟨n0,⟨n0,⟨n0,trivial⟩⟩⟩));refine xS F rfl (gU (arr:=#[xG d.1.vars,i]) F isAgg35 sizeOf35 rfl (H.b 1 rfl)) ?_;obtain rfl:=oj e;exact⟨_,rfl,i,rfl,(H.s [2] rfl rfl),i3⟩
def jA (e:List UInt8) (f h:Int):Option (List Int):=
 xY (bQ e) fun c=>
 vT (σ:=(List Int)×Int×Int) (
  zH (σ:=(List Int)×Int×Int) (ρ:=(List Int)) (fun (x:Nat) (s:(List Int)×Int×Int)=>
    match s with
    | (i,j,n)=>
    xY (qZ c.1 j n f) fun d=>
    xY (ap i ([d.1])) fun p=>
    some (.go (p,d.2.1,d.2.2))) h.toNat 0 ([],c.2.1,c.2.2)) fun(t,y,z)=>
 some t
theorem spec_P6Tuple_c {B:Nat→Prop} {U:List UInt8} {p e:Int} (r:(List Int)) (d:jA U p e=some r) {E:Value} (f:World) (hN:∀ c,B c→c<f.heap.size) (A0:Bo B f (Sl 1 cL) E U) (Z:xZ p) (Q:xZ e):Calls Tryz.prog 25 #[E,xG p,xG e] f (Gv (fun v w'=>∃ (T:Value),v=T∧Sep [] B f w' [rl 1 xH 2 T r])):=by
 unfold jA at d
 refine xV (L:=[(0,E),(1,xG p),(2,xG e)]) func25 rfl rfl rfl (sc rfl (sc rfl (sc rfl sn))) (fun a F=>?_);have H:=Sep.start hN;refine xP (xA 1 F rfl fun a F=>qO (xA 1 F rfl fun a F=>?_));obtain⟨G,c1,d⟩:=xB d;refine oG F rfl call26 rfl (iX G c1 _ H.hN (H.u A0)) (fun a I w ⟨C,J,ah,S,M,a0⟩ F=>?_);subst I;have M:=H.dn M;have H:=H.r1 S n0;refine xA 1 F rfl fun a F=>qO (oR0 (R:=xH) underlying25 sizeOf2 F rfl H fun a w v2 H F=>xA 1 F rfl fun a F=>xJ (xC (xC ?_)));refine xU (xA 1 F rfl fun a F=>xJ ?_);obtain⟨V,d,a1⟩:=xK d;refine xX (fun a w=>∃ (N:List Int) (D:Value) (O W:Int),V= .nx (N,O,W)∧Sk a 25 [(8,D)]∧Sep [] B f w [rl 1 xH 2 D N]∧xZ O) ?_ ?_
 ·
  refine xW ?_;obtain⟨a2,a3,d⟩:=zG d;refine oU (fun g a w=>∃ (t:Nat) (h:List Int) (i:Value) (j x:Int),t+g=e.toNat∧zH a2 g t (h,j,x)=some V∧Sk a 25 [(9,xG (t:Int)),(1,xG p),(2,xG e),(7,vK C),(8,i)]∧Sep [] B f w [rl 1 xH 2 i h,bx C [J,xG j,.int .u64 x] 107]∧xZ j) e.toNat ?_ ?_
  ·
   exact⟨0,[],v2,G.2.1,G.2.2,(Nat.zero_add _),d,F.su,H,a0⟩
  intro X a w ⟨t,h,i,j,x,A,d,F,H,Y⟩
  cases X with
  | zero=>
   replace d:=vY d;have P:=kT A;refine xC (xP (xA 3 F rfl fun a F=>xJ (qT F rfl P (oM (oR ?_)))));refine oR (vH (xF ?_));exact⟨h,i,j,x,(vE d),F.su,(H.s [0] rfl rfl),Y⟩
  | succ X=>
   obtain⟨ai,d,a4⟩:=vX d;rw[a3] at d;have P:=zW A;refine xC (xP (xA 3 F rfl fun a F=>xJ (qV F rfl P (xL (xF ?_)))));refine xC ?_;have j1:=k64I A Q;have m1:=bC A Q;refine xW (xU (xA 3 F rfl fun a F=>?_));obtain⟨n,c2,d⟩:=xB d;obtain⟨X1,K1,a5⟩:=Sep.lend (K:=[bx C [J,xG j,.int .u64 x] 107]) (L:=[rl 1 xH 2 i h]) (H.s [1,0] rfl rfl);refine oG F rfl call27 rfl (zJ n c2 _ H.hN K1 (H.u M) Y Z) (fun a I w ⟨aj,S,i2,i3⟩ F=>?_);subst I;have H:Sep [] B f w [bx C [J,xG n.2.1,.int .u64 n.2.2] 107,rl 1 xH 2 i h]:=a5 S;refine oR1z (R:=xH) (y:=n.1) underlying25 sizeOf2 zeroValue2 rfl rfl F rfl rfl H (Eo.int i2) (fun a w v5 H F=>?_);obtain⟨z3,c3,d⟩:=xB d;refine oPL (sz:=1) (R:=xH) (z:=(xG 0)) (bytes:=8) underlying25 (by kernel_rfl) rfl rfl F rfl rfl rfl (H.s [2,0,1] rfl rfl) c3 fun a w v6 H F=>xA 1 F rfl fun a F=>oY (qS (xF (xU (xA 1 F rfl fun a F=>qQ F rfl rfl rfl m1 fun a F=>xA 1 F rfl fun a F=>xJ ?_))));replace d:=qX d a4;exact⟨_,Nat.lt_succ_self _,t+1,z3,v6,n.2.1,n.2.2,(by omega),d,F.su,H,i3⟩
 rintro a w ⟨N,D,O,W,rfl,F,H,i4⟩
 have d:=xN a1;refine xF (xP (xA 2 F rfl fun a F=>xJ (xT (xS F rfl (oD F rfl) ?_))));obtain rfl:=oj d;exact⟨_,rfl,D,rfl,H⟩
end Go.Proofs.YtgnfibiaaipibaaGreat
