import Derived.Test.YtfmnjkpddljdcaaGreatDoorZ
import Derived.Test.YtfmnjkpddljdcaaGreatDoorNL
import Derived.Test.YtfmnjkpddljdcaaGreatDoorNG
namespace Go.Proofs.YtfmnjkpddljdcaaGreatDoor
open Go.Proofs.Tryz
set_option maxHeartbeats 1000000
set_option linter.unusedVariables false
set_option linter.unusedSimpArgs false
set_option maxRecDepth 100000
open Go.RowKit
def jF (c:List UInt8):Option ((List UInt8)×Int×Int):=
 some ((c,0,0))
theorem uC {B:Nat→Prop} {i:List UInt8} (r:((List UInt8)×Int×Int)) (j:jF i=some r) {e:Value} (d:World) (p:∀ c,B c→c<d.heap.size) (n:Bo B d (Sl 1 eQ) e i):Calls Tryz.prog 23 #[e] d (Gv (fun v w'=>∃ (f:Nat) (h:Value),v=vA f∧Sep [] B d w' [bx f [h,xF r.2.1,.int .u64 r.2.2] 118]∧Bo B d (Sl 1 eQ) h r.1∧xS r.2.1)):=by
 unfold jF at j
 refine xW (L:=[(0,e)]) func23 rfl rfl rfl (sc rfl sn) (fun a F=>?_);have H:=Sep.start p;refine xX (xA 1 F rfl fun a F=>zR (xA 1 F rfl fun a F=>aX underlying118 zeroValue118 (fun w=>by simp [sizeOf116,sizeOf22,mX];rfl) F rfl rfl rfl rfl rfl (oc (H.a n).one on) rfl rfl fun a F=>oX F rfl rfl rfl H fun a w t H F=>xA 1 F rfl fun a F=>?_));refine xJ (xP (xR F rfl (xZ F rfl) ?_));obtain rfl:=oj j;exact⟨_,rfl,t,e,rfl,H,n,(show xS 0 by decide)⟩
def cM (c:List UInt8) (d e:Int):Option (Int×Int×Int):=
 kY (σ:=Int) (
  if (decide (d<(c.length:Int))) then
   xY (ix c d) fun j=>
   some (.nx (j.toNat:Int))
  else
   some (.nx 0)) fun i=>
 xY (ck (d+1)) fun f=>
 xY (nn i) fun h=>
 if (decide (f≤(c.length:Int))) then
  some (i,f,(IntKind.u64.wrap ((IntKind.u64.wrap ((IntKind.u64.wrap (e*6364136223846793005))+h))+1442695040888963407)))
 else
  some ((IntKind.i64.wrap (Go.bits .and .u64 ((IntKind.u64.wrap ((IntKind.u64.wrap ((IntKind.u64.wrap (e*6364136223846793005))+h))+1442695040888963407)) / 2 ^ (40:Int).toNat) 255)),f,(IntKind.u64.wrap ((IntKind.u64.wrap ((IntKind.u64.wrap (e*6364136223846793005))+h))+1442695040888963407)))
theorem pO {B:Nat→Prop} {E:List UInt8} {h p:Int} (r:Int×Int×Int) (d:cM E h p=some r) {f:Nat} {i:Value} {A:List Nat} (e:World) (R:∀ c,B c→c<e.heap.size) (S0:Sep A B e e [bx f [i,xF h,.int .u64 p] 118]) (n:Bo B e (Sl 1 eQ) i E) (P:xS h):Calls Tryz.prog 63 #[vA f] e (Gv (fun v w'=>v=xF r.1∧Sep A B e w' [bx f [i,xF r.2.1,.int .u64 r.2.2] 118]∧xS r.1∧xS r.2.1)):=by
 unfold cM at d
 refine xW (L:=[(0,vA f)]) func63 rfl rfl rfl (sc rfl sn) (fun a F=>?_);have H:=S0;refine xX (xA 1 F rfl fun a F=>zR (xA 1 F rfl fun a F=>xJ (xG ?_)));refine xG (xQa H (oM F rfl rfl fun a F=>eC F rfl rfl fun a F=>zH F rfl (fun w l=>oD yI F rfl rfl) fun a F=>qB mM F rfl rfl (H.qb 0 rfl) rfl fun a F=>oM F rfl rfl fun a F=>eC F rfl rfl fun a F=>zH F rfl (fun w l=>oD xGm F rfl rfl) fun a F=>qB isAgg22 F rfl rfl (H.qb 0 rfl) rfl fun a F=>qL mQ F rfl rfl n (fun a S F=>?_)));refine zH F rfl (fun w l=>tP F rfl rfl) fun a F=>aF fun w H=>xH ?_;obtain⟨J,d,I⟩:=xV d;refine qG (fun a w=>∃ (j:Int),J= .nx j∧Sk a 62 [(0,vA f),(3,xF j)]∧Sep A B e w [bx f [i,xF h,.int .u64 p] 118]∧xS j) ?_ ?_
 ·
  refine vK F rfl (fun t=>?_) (fun t=>?_)
  ·
   replace d:=zW t d;refine xQa H (oM F rfl rfl fun a F=>eC F rfl rfl fun a F=>zH F rfl (fun w l=>oD xGm F rfl rfl) fun a F=>qB isAgg22 F rfl rfl (H.qb 0 rfl) rfl fun a F=>oM F rfl rfl fun a F=>eC F rfl rfl fun a F=>zH F rfl (fun w l=>oD yI F rfl rfl) fun a F=>qB mM F rfl rfl (H.qb 0 rfl) rfl (fun a F=>?_));obtain⟨K,M,d⟩:=xB d;refine qI mQ sizeOf5 F rfl rfl rfl n M fun a T N F=>qlU isAgg5 F rfl rfl H.q N fun a F=>zH F rfl (fun w l=>xTb underlying5 nE F rfl) fun a F=>gS F rfl rfl fun a F=>aF fun w H=>xH ?_;exact⟨(K.toNat:Int),(kQ d),F.su,H,(xQi _)⟩
  replace d:=zV t d;refine xT (xH ?_);exact⟨0,(kQ d),F.su,H,(show xS (0) by decide)⟩
 rintro a w ⟨j,rfl,F,H,C⟩
 have d:=oJ I;refine xH (xX (xA 1 F rfl fun a F=>zB F rfl rfl fun a F=>oQ yI F rfl rfl rfl fun a F=>oB mM F rfl rfl (H.b 0 rfl) rfl (fun a F=>?_)));obtain⟨U,D,d⟩:=xB d;refine fF F rfl rfl rfl D fun a F=>zB F rfl rfl fun a F=>oQ yI F rfl rfl rfl fun a F=>oW mX F rfl rfl rfl H rfl rfl rfl fun w H=>zR (xA 2 F rfl fun a F=>zB F rfl rfl (fun a F=>?_));refine oQ xHj F rfl rfl rfl fun a F=>oB isAgg116 F rfl rfl (H.b 0 rfl) rfl fun a F=>xVn F rfl rfl rfl fun a F=>xA 1 F rfl fun a F=>?_;obtain⟨O,G,d⟩:=xB d
 have V:xS O:=by rw[(pE G).2];exact C
 refine oU1 nE underlying116 F rfl rfl C G fun a F=>xTk F rfl rfl rfl fun a F=>xTk F rfl rfl rfl fun a F=>zB F rfl rfl fun a F=>oQ xHj F rfl rfl rfl fun a F=>oW sizeOf116 F rfl rfl rfl H rfl rfl rfl fun w H=>xJ (xG (xG (xQa H ?_)));refine oM F rfl rfl fun a F=>eC F rfl rfl fun a F=>zH F rfl (fun w l=>oD yI F rfl rfl) fun a F=>qB mM F rfl rfl (H.qb 0 rfl) rfl fun a F=>oM F rfl rfl fun a F=>eC F rfl rfl fun a F=>zH F rfl (fun w l=>oD xGm F rfl rfl) fun a F=>qB isAgg22 F rfl rfl (H.qb 0 rfl) rfl fun a F=>qL mQ F rfl rfl n fun a Q F=>zH F rfl (fun w l=>xQp F rfl rfl) fun a F=>aF (fun w H=>?_);refine xH (vK F rfl (fun y=>?_) (fun y=>?_))
 ·
  replace d:=zW y d;refine xX (xA 2 F rfl fun a F=>xJ (xP (qH (xR F rfl (xZ F rfl) ?_))));obtain rfl:=oj d;exact⟨_,rfl,rfl,H,C,(bD D)⟩
 replace d:=zV y d;refine xT (xH (xX (xA 1 F rfl fun a F=>zB F rfl rfl fun a F=>oQ xHj F rfl rfl rfl fun a F=>oB isAgg116 F rfl rfl (H.b 0 rfl) rfl fun a F=>xVy F rfl rfl (by decide) fun a F=>xVu F rfl rfl rfl fun a F=>oUw underlying116 underlying2 F rfl rfl (fun a F=>?_))));refine xA 1 F rfl fun a F=>xJ (xP (xR F rfl (xZ F rfl) ?_));obtain rfl:=oj d;exact⟨_,rfl,rfl,H,(wr64 _),(bD D)⟩
def oR (f:List UInt8) (h i d:Int):Option (Int×Int×Int):=
 if (decide (d≤1)) then
  some (0,h,i)
 else
  xY (cM f h i) fun c=>
  if (decide (200<d)) then
   xY (ck (c.1*256)) fun j=>
   xY (cM f c.2.1 c.2.2) fun e=>
   xY (ck (j+e.1)) fun n=>
   xY (rm n d) fun p=>
   some (p,e.2.1,e.2.2)
  else
   xY (rm c.1 d) fun t=>
   some (t,c.2.1,c.2.2)
theorem qK {B:Nat→Prop} {I:List UInt8} {j t n:Int} (r:Int×Int×Int) (d:oR I j t n=some r) {e:Nat} {h:Value} {p:List Nat} (f:World) (hN:∀ c,B c→c<f.heap.size) (S0:Sep p B f f [bx e [h,xF j,.int .u64 t] 118]) (E:Bo B f (Sl 1 eQ) h I) (G:xS j) (J:xS n):Calls Tryz.prog 28 #[vA e,xF n] f (Gv (fun v w'=>v=xF r.1∧Sep p B f w' [bx e [h,xF r.2.1,.int .u64 r.2.2] 118]∧xS r.1∧xS r.2.1)):=by
 unfold oR at d
 refine xW (L:=[(0,vA e),(1,xF n)]) func28 rfl rfl rfl (sc rfl (sc rfl sn)) (fun a F=>?_);have H:=S0;refine xX (xA 1 F rfl fun a F=>xJ (xG (xX (xA 2 F rfl fun a F=>vP ?_))));refine xH (vK F rfl (fun y=>?_) (fun y=>?_))
 ·
  replace d:=zW y d;refine xX (xA 1 F rfl fun a F=>xJ (xP (qH (xR F rfl (xZ F rfl) ?_))));obtain rfl:=oj d;exact⟨_,rfl,rfl,H,(show xS (0) by decide),G⟩
 replace d:=zV y d;refine xT (xH (xX (xA 1 F rfl fun a F=>?_)));obtain⟨i,T,d⟩:=xB d;obtain⟨X1,K1,Q⟩:=Sep.lend (K:=[bx e [h,xF j,.int .u64 t] 118]) (L:=[]) H;refine oG F rfl call63 rfl (pO i T _ H.hN K1 (H.u E) G) (fun a C w ⟨Z,S,U,N⟩ F=>?_);subst C;have H:Sep p B f w [bx e [h,xF i.2.1,.int .u64 i.2.2] 118]:=Q S;refine xA 1 F rfl fun a F=>xJ (xG (xX (xA 2 F rfl fun a F=>xJ (vK F rfl (fun A=>?_) (fun A=>?_)))))
 ·
  replace d:=zW A d;refine oO (xA 1 F rfl fun a F=>?_);obtain⟨z2,V,d⟩:=xB d;refine xMb F rfl rfl rfl V fun a F=>xA 1 F rfl fun a F=>?_;obtain⟨D,W,d⟩:=xB d;obtain⟨X2,X,R⟩:=Sep.lend (K:=[bx e [h,xF i.2.1,.int .u64 i.2.2] 118]) (L:=[]) H;refine oG F rfl call63 rfl (pO D W _ H.hN X (H.u E) N) (fun a C w ⟨a0,S,i3,Y⟩ F=>?_);subst C;have H:Sep p B f w [bx e [h,xF D.2.1,.int .u64 D.2.2] 118]:=R S;obtain⟨z4,M,d⟩:=xB d;refine fF F rfl rfl rfl M fun a F=>xA 1 F rfl fun a F=>zR (xA 2 F rfl fun a F=>?_);obtain⟨z5,O,d⟩:=xB d;refine xQd F rfl rfl rfl O fun a F=>xA 1 F rfl fun a F=>xJ (xP (xR F rfl (xZ F rfl) ?_));obtain rfl:=oj d;exact⟨_,rfl,rfl,H,(xGs O (bD M) J),Y⟩
 replace d:=zV A d;refine xT (xH (xX (xA 2 F rfl fun a F=>?_)));obtain⟨z6,P,d⟩:=xB d;refine xQd F rfl rfl rfl P fun a F=>xA 1 F rfl fun a F=>xJ (xP (xR F rfl (xZ F rfl) ?_));obtain rfl:=oj d;exact⟨_,rfl,rfl,H,(xGs P U J),N⟩
def cH (d:List UInt8) (e f h:Int):Option (Bool×Int×Int):=
 xY (oR d e f h) fun c=>
 some ((c.1==0),c.2.1,c.2.2)
theorem mG {B:Nat→Prop} {y:List UInt8} {h n i:Int} (r:Bool×Int×Int) (j:cH y h n i=some r) {e:Nat} {f:Value} {p:List Nat} (d:World) (O:∀ c,B c→c<d.heap.size) (S0:Sep p B d d [bx e [f,xF h,.int .u64 n] 118]) (A:Bo B d (Sl 1 eQ) f y) (C:xS h) (D:xS i):Calls Tryz.prog 55 #[vA e,xF i] d (Gv (fun v w'=>v= .bool r.1∧Sep p B d w' [bx e [f,xF r.2.1,.int .u64 r.2.2] 118]∧xS r.2.1)):=by
 unfold cH at j
 refine xW (L:=[(0,vA e),(1,xF i)]) func55 rfl rfl rfl (sc rfl (sc rfl sn)) (fun a F=>?_);have H:=S0;refine xX (xA 1 F rfl fun a F=>zR (xA 2 F rfl fun a F=>?_));obtain⟨t,G,j⟩:=xB j;obtain⟨P,K1,E⟩:=Sep.lend (K:=[bx e [f,xF h,.int .u64 n] 118]) (L:=[]) H;refine oG F rfl kZ rfl (qK t G _ H.hN K1 (H.u A) C D) (fun a I w ⟨M,S,N,J⟩ F=>?_);subst I;have H:Sep p B d w [bx e [f,xF t.2.1,.int .u64 t.2.2] 118]:=E S;refine xA 2 F rfl fun a F=>xJ (xP (xR F rfl (xZ F rfl) ?_));obtain rfl:=oj j;exact⟨_,rfl,rfl,H,J⟩
def kN (e:List UInt8) (f h:Int) (d:List Int):Option (Int×Int×Int):=
 xY (oR e f h (d.length:Int)) fun c=>
 xY (ix d c.1) fun i=>
 some (i,c.2.1,c.2.2)
theorem vJ {B:Nat→Prop} {y:List UInt8} {i j:Int} {A:List Int} (r:Int×Int×Int) (f:kN y i j A=some r) {e:Nat} {h:Value} {n:Value} {p:List Nat} (d:World) (T:∀ c,B c→c<d.heap.size) (S0:Sep p B d d [bx e [h,xF i,.int .u64 j] 118]) (D:Bo B d (Sl 1 eQ) h y) (E:xS i) (C:Bo B d (Sl 1 xM) n A):Calls Tryz.prog 88 #[vA e,n] d (Gv (fun v w'=>v=xF r.1∧Sep p B d w' [bx e [h,xF r.2.1,.int .u64 r.2.2] 118]∧xS r.1∧xS r.2.1)):=by
 unfold kN at f
 refine xW (L:=[(0,vA e),(1,n)]) func88 rfl rfl rfl (sc rfl (sc rfl sn)) (fun a F=>?_);have H:=S0;refine xX (xA 1 F rfl fun a F=>zR (xA 3 F rfl fun a F=>oL xC F rfl rfl C (fun a I F=>?_)));obtain⟨t,J,f⟩:=xB f;obtain⟨U,K1,G⟩:=Sep.lend (K:=[bx e [h,xF i,.int .u64 j] 118]) (L:=[]) H;refine oG F rfl kZ rfl (qK t J _ H.hN K1 (H.u D) E I) (fun a M w ⟨R,S,V,N⟩ F=>?_);subst M;have H:Sep p B d w [bx e [h,xF t.2.1,.int .u64 t.2.2] 118]:=G S;obtain⟨W,O,f⟩:=xB f;refine oI xC xI F rfl rfl rfl C O fun a X P F=>olI xN F rfl rfl H.sm P fun a Q F=>xA 1 F rfl fun a F=>xJ (xP (xR F rfl (xZ F rfl) ?_));obtain rfl:=oj f;exact⟨_,rfl,rfl,H,Q,N⟩
def cP (N:Nat) (f h:Int):Option Int:=
 kY (σ:=Int×Int) (
  lD (σ:=Int×Int) (ρ:=Int) (fun(s:Int×Int)=>
    match s with
    | (c,d)=>
    if (decide (0<c)) then
     xY (ck (d*f)) fun i=>
     xY (ck (c - 1)) fun j=>
     some (.go (j,i))
    else
     some (.brk (c,d))) N (h,1)) fun(n,e)=>
 some e
theorem xBt {B:Nat→Prop} {N:Nat} {e f:Int} (r:Int) (d:cP N e f=some r)  (h:World) (K:∀ c,B c→c<h.heap.size) (T:xS e) (E:xS f):Calls Tryz.prog 91 #[xF e,xF f] h (lI r h):=by
 unfold cP at d
 refine xW (L:=[(0,xF e),(1,xF f)]) func91 rfl rfl rfl (sc rfl (sc rfl sn)) (fun a F=>?_);have H:=Sep.start K;refine xX (xA 1 F rfl fun a F=>zR (xA 1 F rfl fun a F=>xJ (xG ?_)));obtain⟨A,d,G⟩:=xV d;refine qG (fun a w=>∃ (t n:Int),A= .nx (t,n)∧Sk a 14 [(5,xF n)]∧Sep [] B h w []∧xS t∧xS n) ?_ ?_
 ·
  refine qM ?_;obtain⟨I,J,d⟩:=iO d;refine vT (fun g a w=>∃ (i j:Int),lD I g (i,j)=some A∧Sk a 14 [(0,xF e),(1,xF i),(5,xF j)]∧Sep [] B h w []∧xS i∧xS j) N ?_ ?_
  ·
   exact⟨f,1,d,F.su,H,E,(show xS (1) by decide)⟩
  intro W a w ⟨i,j,d,F,H,M,O⟩;obtain⟨U,P,V,d,y⟩:=dW d;rw[J] at d;refine xG (xX (xA 2 F rfl fun a F=>xJ (vK F rfl (fun p=>?_) (fun p=>?_))))
  ·
   replace d:=zW p d;refine xT (xH (xG (qM (oO (xA 2 F rfl fun a F=>?_)))));obtain⟨Q,C,d⟩:=xB d;refine xMb F rfl rfl rfl C fun a F=>xA 1 F rfl fun a F=>vP (zG (xH (oO (xA 1 F rfl fun a F=>?_))));obtain⟨R,D,d⟩:=xB d;refine gY F rfl rfl rfl D fun a F=>xA 1 F rfl fun a F=>xJ ?_;replace d:=aB d y;exact⟨P,(by omega),R,Q,d,F.su,H,(bD D),(bD C)⟩
  replace d:=zV p d;refine vU (vV (vV ?_));replace d:=rT d y;refine bC (xH ?_);exact⟨i,j,(kQ d),F.su,H,M,O⟩
 rintro a w ⟨t,n,rfl,F,H,X,S⟩
 have d:=oJ G;refine xH (xX (xA 2 F rfl fun a F=>xJ (xP (xR F rfl (xZ F rfl) ?_))));obtain rfl:=oj d;exact⟨⟨rfl,H.bl⟩,S⟩
def bM (N:Nat) (f h i:Int):Option (List Int):=
 xY (mkz (0:Int) h) fun j=>
 xY (ck (h - 1)) fun n=>
 kY (σ:=Int×Int×(List Int)) (
  lD (σ:=Int×Int×(List Int)) (ρ:=(List Int)) (fun(s:Int×Int×(List Int))=>
    match s with
    | (e,c,d)=>
    if (decide (0≤c)) then
     xY (rm e f) fun p=>
     xY (ix d c) fun B=>
     xY (dv e f) fun t=>
     xY (ck (c - 1)) fun y=>
     some (.go (t,y,(d.set (c).toNat p)))
    else
     some (.brk (e,c,d))) N (i,n,j)) fun(C,D,A)=>
 some A
theorem rO {B:Nat→Prop} {N:Nat} {h t i:Int} (r:(List Int)) (d:bM N h t i=some r)  (j:World) (Z:∀ c,B c→c<j.heap.size) (T:xS h) (a9:xS t) (U:xS i):Calls Tryz.prog 92 #[xF h,xF t,xF i] j (Gv (fun v w'=>∃ (G:Value),v=G∧Sep [] B j w' [rl 1 xM 2 G r])):=by
 unfold bM at d
 refine xW (L:=[(0,xF h),(1,xF t),(2,xF i)]) func92 rfl rfl rfl (sc rfl (sc rfl (sc rfl sn))) (fun a F=>?_);have H:=Sep.start Z;refine xX (xA 1 F rfl fun a F=>zR (xA 1 F rfl fun a F=>?_));obtain⟨z1,c1,d⟩:=xB d;refine oRM (sz:=1) (R:=xM) (z:=(xF 0)) (bytes:=8) xC (by kernel_rfl) rfl (by decide) (by decide) (fun w=>⟨rfl,by decide,rfl⟩) F rfl rfl rfl c1 H fun a w v1 H F=>xA 1 F rfl fun a F=>xJ (xG (xX (xA 1 F rfl fun a F=>?_)));obtain⟨z2,I,d⟩:=xB d;refine gY F rfl rfl rfl I fun a F=>xA 1 F rfl fun a F=>xJ ?_;obtain⟨K,d,V⟩:=xV d;refine qG (fun a w=>∃ (C D:Int) (E:List Int) (y:Value),K= .nx (C,D,E)∧Sk a 27 [(7,y)]∧Sep [] B j w [rl 1 xM 2 y E]∧xS C∧xS D) ?_ ?_
 ·
  refine qM ?_;obtain⟨W,X,d⟩:=iO d;refine vT (fun g a w=>∃ (n e:Int) (f:List Int) (p:Value),lD W g (n,e,f)=some K∧Sk a 27 [(0,xF h),(2,xF n),(7,p),(8,xF e)]∧Sep [] B j w [rl 1 xM 2 p f]∧xS n∧xS e) N ?_ ?_
  ·
   exact⟨i,z2,z1,v1,d,F.su,H,U,(bD I)⟩
  intro g1 a w ⟨n,e,f,p,d,F,H,M,i2⟩;obtain⟨aa,t1,ab,d,J⟩:=dW d;rw[X] at d;refine xG (xX (xA 2 F rfl fun a F=>xJ (vK F rfl (fun A=>?_) (fun A=>?_))))
  ·
   replace d:=zW A d;refine xT (xH (xG (qM (xX (xA 4 F rfl fun a F=>?_)))));obtain⟨z3,O,d⟩:=xB d;refine xQd F rfl rfl rfl O (fun a F=>?_);obtain⟨z4,P,d⟩:=xB d;refine oRl xC xI F rfl rfl rfl H 0 rfl P (fun a p1 h1 Y F=>?_);have H:=H.lw;refine oS xI F rfl rfl rfl H Y (gX P) (Eo.int (xGs O M T)) rfl rfl (fun w H=>?_);have H:=H.tl;refine xJ (oO (xA 2 F rfl fun a F=>?_));obtain⟨z5,Q,d⟩:=xB d;refine xWd F rfl rfl rfl Q fun a F=>xA 1 F rfl fun a F=>vP (zG (xH (oO (xA 1 F rfl fun a F=>?_))));obtain⟨z6,S,d⟩:=xB d;refine gY F rfl rfl rfl S fun a F=>xA 1 F rfl fun a F=>xJ ?_;replace d:=aB d J;exact⟨t1,(by omega),z5,z6,(f.set (e).toNat z3),p,d,F.su,H,(xTo Q),(bD S)⟩
  replace d:=zV A d;refine vU (vV (vV ?_));replace d:=rT d J;refine bC (xH ?_);exact⟨n,e,f,p,(kQ d),F.su,H,M,i2⟩
 rintro a w ⟨C,D,E,y,rfl,F,H,i3,i4⟩
 have d:=oJ V;refine xH (xX (xA 2 F rfl fun a F=>xJ (xP (xR F rfl (xZ F rfl) ?_))));obtain rfl:=oj d;exact⟨_,rfl,y,rfl,H⟩
def dO (N:Nat) (d:List UInt8) (t y i e:Int):Option (Rel×Int×Int):=
 xY (oR d t y 5) fun f=>
 xY (cP N i e) fun A=>
 kY (σ:=Int×Int×(List (List Int))) (
  eJ (σ:=Int×Int×(List (List Int))) (ρ:=Rel×Int×Int) (fun(B:Nat) (s:Int×Int×(List (List Int)))=>
    match s with
    | (C,D,j)=>
    kY (σ:=Bool×Int×Int) (
     xY (oR d C D 5) fun c=>
     if (decide (c.1≤f.1)) then  some (.nx (true,c.2.1,c.2.2)) else  xY (cH d c.2.1 c.2.2 8) fun h=>
      some (.nx (h.1,h.2.1,h.2.2))) fun(E,n,p)=>
    if E then
     xY (bM N i e (B:Int)) fun F=>
     xY (ap j ([F])) fun G=>
     some (.go (n,p,G))
    else
     some (.go (n,p,j))) A.toNat 0 (f.2.1,f.2.2,[])) fun(H,I,J)=>
 some ((Rel.mk e J),H,I)
theorem eD {B:Nat→Prop} {N:Nat} {ae:List UInt8} {a0 a5 J e:Int} (r:Rel×Int×Int) (d:dO N ae a0 a5 J e=some r) {h:Nat} {n:Value} {A:List Nat} (p:World) (hN:∀ c,B c→c<p.heap.size) (S0:Sep A B p p [bx h [n,xF a0,.int .u64 a5] 118]) (a4:Bo B p (Sl 1 eQ) n ae) (au:xS a0) (a6:xS J) (a1:xS e):Calls Tryz.prog 57 #[vA h,xF J,xF e] p (Gv (fun v w'=>∃ (af:Value),v= .agg #[xF r.1.arity,af]∧Sep A B p w' [rl 1 (vS 1 xM) 46 af r.1.tuples,bx h [n,xF r.2.1,.int .u64 r.2.2] 118]∧xS r.1.arity∧xS r.2.1)):=by
 unfold dO at d
 refine xW (L:=[(0,vA h),(1,xF J),(2,xF e)]) func57 rfl rfl rfl (sc rfl (sc rfl (sc rfl sn))) (fun a F=>?_);have H:=S0;refine xX (oA zL F rfl rfl H fun a w i H F=>zR (xA 1 F rfl fun a F=>aX lY zL (fun w=>by simp [xI,kF];rfl) F rfl rfl rfl rfl rfl (oc rfl on) rfl rfl fun a F=>oA zL F rfl rfl H fun a w j H F=>gN (vs:=[xF e,vH]) oE F rfl rfl rfl H (oc rfl (oc rfl on)) rfl rfl (fun w H=>?_)));refine zR (xA 1 F rfl fun a F=>?_);obtain⟨C,c1,d⟩:=xB d;obtain⟨X1,aw,ax⟩:=Sep.lend (K:=[bx h [n,xF a0,.int .u64 a5] 118]) (L:=[bx j [xF e,vH] 65,bx i [xF 0,vH] 65]) (H.s [2,0,1] rfl rfl);refine oG F rfl kZ rfl (qK C c1 _ H.hN aw (H.u a4) au (show xS (5) by decide)) (fun a D w ⟨bp,S,i1,i2⟩ F=>?_);subst D;have H:Sep A B p w [bx h [n,xF C.2.1,.int .u64 C.2.2] 118,bx j [xF e,vH] 65,bx i [xF 0,vH] 65]:=ax S;refine xA 1 F rfl fun a F=>zR (xA 2 F rfl fun a F=>?_);obtain⟨E,c2,d⟩:=xB d;refine oKI F rfl call91 rfl H (xBt E c2 _ aA a6 a1) fun a w H X F=>xA 1 F rfl fun a F=>xJ (xG (xX (xA 1 F rfl fun a F=>xJ ?_)));obtain⟨o1,d,ay⟩:=xV d;refine qG (fun a w=>∃ (s1 s2:Int) (s3:List (List Int)) (T:Value),o1= .nx (s1,s2,s3)∧Sk a 41 [(0,vA h),(6,vA i),(7,vA j)]∧Sep A B p w [rl 1 (vS 1 xM) 46 T s3,bx h [n,xF s1,.int .u64 s2] 118,bx j [xF e,T] 65,bx i [xF 0,vH] 65]∧xS s1) ?_ ?_
 ·
  refine qM ?_;obtain⟨az,b0,d⟩:=gW d;refine vT (fun g a w=>∃ (I:Nat) (U Z:Int) (t:List (List Int)) (f:Value),I+g=E.toNat∧eJ az g I (U,Z,t)=some o1∧Sk a 41 [(10,xF (I:Int)),(0,vA h),(1,xF J),(2,xF e),(6,vA i),(7,vA j),(8,xF C.1),(9,xF E)]∧Sep A B p w [rl 1 (vS 1 xM) 46 f t,bx h [n,xF U,.int .u64 Z] 118,bx j [xF e,f] 65,bx i [xF 0,vH] 65]∧xS U) E.toNat ?_ ?_
  ·
   exact⟨0,C.2.1,C.2.2,[],vH,(Nat.zero_add _),d,F.su,(H.nl 1 (vS 1 xM) 46),i2⟩
  intro g1 a w ⟨I,U,Z,t,f,a2,d,F,H,i3⟩
  cases g1 with
  | zero=>
   replace d:=fJ d;have l1:=mF a2;refine xG (xX (xA 3 F rfl fun a F=>xJ (aC F rfl l1 (vU (vV ?_)))));refine vV (bC (xH ?_));exact⟨U,Z,t,f,(kQ d),F.su,H,i3⟩
  | succ g1=>
   obtain⟨bq,d,ag⟩:=fI d;rw[b0] at d;have l1:=iX a2;refine xG (xX (xA 3 F rfl fun a F=>xJ (aD F rfl l1 (xT (xH ?_)))));refine xG ?_;have j1:=xDz a2 X;have m1:=pK a2 X;refine qM (xG ?_);obtain⟨o2,d,b1⟩:=xV d;refine qG (fun a w=>∃ (s7:Bool) (M P:Int),o2= .nx (s7,M,P)∧Sk a 41 [(0,vA h),(1,xF J),(2,xF e),(6,vA i),(7,vA j),(8,xF C.1),(9,xF E),(10,xF (I:Int)),(30,.bool s7)]∧Sep A B p w [rl 1 (vS 1 xM) 46 f t,bx h [n,xF M,.int .u64 P] 118,bx j [xF e,f] 65,bx i [xF 0,vH] 65]∧xS M) ?_ ?_
   ·
    refine oO (xA 1 F rfl fun a F=>?_);obtain⟨O,c3,d⟩:=xB d;obtain⟨X2,K1,b2⟩:=Sep.lend (K:=[bx h [n,xF U,.int .u64 Z] 118]) (L:=[rl 1 (vS 1 xM) 46 f t,bx j [xF e,f] 65,bx i [xF 0,vH] 65]) (H.s [1,0,2,3] rfl rfl);refine oG F rfl kZ rfl (qK O c3 _ H.hN K1 (H.u a4) i3 (show xS (5) by decide)) (fun a D w ⟨br,S,i4,i5⟩ F=>?_);subst D;have H:Sep A B p w [bx h [n,xF O.2.1,.int .u64 O.2.2] 118,rl 1 (vS 1 xM) 46 f t,bx j [xF e,f] 65,bx i [xF 0,vH] 65]:=b2 S;refine xA 3 F rfl fun a F=>?_
    rcases zC (decide (O.1≤C.1)) with Y | Y
    ·
     replace d:=zW Y d;have F:=F.eb 27 rfl Y;refine xA 3 F rfl fun a F=>xJ ?_;exact⟨true,O.2.1,O.2.2,(kQ d),F.su,(H.s [1,0,2,3] rfl rfl),i5⟩
    replace d:=zV Y d;have F:=F.eb 27 rfl Y;refine xA 1 F rfl fun a F=>?_;obtain⟨V,c4,d⟩:=xB d;obtain⟨X3,K2,b3⟩:=Sep.lend (K:=[bx h [n,xF O.2.1,.int .u64 O.2.2] 118]) (L:=[rl 1 (vS 1 xM) 46 f t,bx j [xF e,f] 65,bx i [xF 0,vH] 65]) H;refine oG F rfl call55 rfl (mG V c4 _ H.hN K2 (H.u a4) i5 (show xS (8) by decide)) (fun a D w ⟨bt,S,i6⟩ F=>?_);subst D;have H:Sep A B p w [bx h [n,xF V.2.1,.int .u64 V.2.2] 118,rl 1 (vS 1 xM) 46 f t,bx j [xF e,f] 65,bx i [xF 0,vH] 65]:=b3 S;refine xA 1 F rfl fun a F=>xJ ?_;exact⟨V.1,V.2.1,V.2.2,(kQ d),F.su,(H.s [1,0,2,3] rfl rfl),i6⟩
   rintro a w ⟨s7,M,P,rfl,F,H,i7⟩
   have d:=oJ b1;refine xH (vK F rfl (fun a7=>?_) (fun a7=>?_))
   ·
    replace d:=zW a7 d;obtain⟨W,c5,d⟩:=xB d;obtain⟨z6,c6,d⟩:=xB d;refine lU H fun w H=>dp (fun G=>∀ (v3:Value) (a:Act) (w:World),Sk a 41 [(0,vA h),(1,xF J),(2,xF e),(6,vA i),(7,vA j),(8,xF C.1),(9,xF E),(10,xF (I:Int)),(32,f),(37,v3)]→Sep A B p w [rl 1 (vS 1 xM) 46 v3 ([W]),rl 1 (vS 1 xM) 46 f t,bx h [n,xF M,.int .u64 P] 118,bx j [xF e,f] 65,bx i [xF 0,vH] 65]→xS E→∀ Q,Q = #[true,true,true,true,true,true,true,false,false,false]→G 3 Q a w) ?_ (fun H1=>?_)
    ·
     intro v3 a w F H i8 Q a8;subst a8;refine kT H 7 rfl (oPL (sz:=1) (R:=(vS 1 xM)) (z:=(vH)) (bytes:=24) xK (by kernel_rfl) rfl rfl F rfl rfl rfl (H.s [1,0,2,3,4] rfl rfl) c6 fun a w v4 H F=>xJ ⟨⟨_,H⟩,?_⟩);refine qJ 8 rfl (qT F rfl (fun w l=>oD fG F rfl rfl) fun a F=>kT H 9 rfl (oW kF F rfl rfl rfl (H.s [2,0,1,3] rfl rfl) ((H.s [2,0,1,3] rfl rfl).l 1 rfl).one rfl rfl fun w H=>xJ ⟨⟨_,H⟩,?_⟩));refine zN (zG (xH (oO (xA 1 F rfl fun a F=>kO F rfl rfl rfl m1 fun a F=>xA 1 F rfl fun a F=>xJ ?_))));replace d:=aB d ag;exact⟨_,Nat.lt_succ_self _,I+1,M,P,z6,v4,(by omega),d,F.su,(H.s [1,2,0,3] rfl rfl),i7⟩
    refine dp (fun G=>∀ (v5:Value) (a:Act) (w:World),Sk a 41 [(0,vA h),(1,xF J),(2,xF e),(6,vA i),(7,vA j),(8,xF C.1),(9,xF E),(10,xF (I:Int)),(32,f),(36,v5)]→Sep A B p w [rl 1 xM 2 v5 W,rl 1 (vS 1 xM) 46 f t,bx h [n,xF M,.int .u64 P] 118,bx j [xF e,f] 65,bx i [xF 0,vH] 65]→xS E→∀ Q,Q = #[true,true,true,true,true,true,false,false,false,false]→G 4 Q a w) ?_ (fun H2=>?_)
    ·
     intro v5 a w F H i9 Q a8;subst a8;refine kT H 6 rfl ?_;have H:=H.os;refine gB (R:=(vS 1 xM)) (y:=W) xK xU cC rfl rfl F rfl rfl H El.sl fun a w v6 H F=>xJ ⟨⟨_,H⟩,?_⟩;exact H1 v6 _ _ (F.su) H i9 _ (by kernel_rfl)
    refine qJ 0 rfl (qT F rfl (fun w l=>oD fG F rfl rfl) fun a F=>qV 2 rfl (qO F rfl rfl fun a F=>qV 3 rfl (qO F rfl rfl fun a F=>qV 4 rfl (qO F rfl rfl fun a F=>aT [1,5] (by kernel_rfl) (by simp) ⟨⟨_,rfl,?_⟩,⟨_,rfl,?_⟩,trivial⟩))))
    ·
     refine aM H (oB zD F rfl rfl (H.b 2 rfl) rfl fun a F=>xJ ⟨⟨_,H⟩,?_⟩);refine kT H 5 rfl (oG F rfl call92 rfl (rO W c5 _ aA a6 a1 j1) (fun a D w ⟨v7,bu,S⟩ F=>?_));subst D;have H:=H.r1 S n0;refine xJ ⟨⟨_,H⟩,?_⟩;exact H2 v7 _ _ (F.su) H X _ (by kernel_rfl)
    refine aM H (oG F rfl call92 rfl (rO W c5 _ aA a6 a1 j1) (fun a D w ⟨v8,bv,S⟩ F=>?_));subst D;have H:=H.r1 S n0;refine xJ ⟨⟨_,H⟩,?_⟩;refine aT [1,6] (by kernel_rfl) (by simp) ⟨⟨_,rfl,?_⟩,⟨_,rfl,?_⟩,trivial⟩
    ·
     refine aM H (oB zD F rfl rfl (H.b 3 rfl) rfl fun a F=>xJ ⟨⟨_,H⟩,?_⟩);exact H2 v8 _ _ (F.su) H X _ (by kernel_rfl)
    refine aM H ?_;have H:=H.os;refine gB (R:=(vS 1 xM)) (y:=W) xK xU cC rfl rfl F rfl rfl H El.sl fun a w v9 H F=>xJ ⟨⟨_,H⟩,?_⟩;refine kT H 1 rfl (oB zD F rfl rfl (H.b 3 rfl) rfl fun a F=>xJ ⟨⟨_,H⟩,?_⟩);exact H1 v9 _ _ (F.su) H X _ (by kernel_rfl)
   replace d:=zV a7 d;refine xT (zG (xH (oO (xA 1 F rfl fun a F=>kO F rfl rfl rfl m1 fun a F=>xA 1 F rfl fun a F=>xJ ?_))));replace d:=aB d ag;exact⟨_,Nat.lt_succ_self _,I+1,M,P,t,f,(by omega),d,F.su,H,i7⟩
 rintro a w ⟨s1,s2,s3,T,rfl,F,H,b4⟩
 have d:=oJ ay;refine xH (xX (lT zF oE F rfl rfl (H.b 2 rfl) rfl rfl fun a F=>gN (vs:=[xF e,T]) oE F rfl rfl rfl (H.s [3,0,1,2] rfl rfl) (oc rfl (oc ((H.s [3,0,1,2] rfl rfl).l 1 rfl).one on)) rfl rfl fun w H=>xJ (xP (xR F rfl (bN (arr:=#[xF e,T]) F zF oE rfl (H.b 0 rfl)) ?_))));obtain rfl:=oj d;exact⟨_,rfl,T,rfl,(H.s [1,2] rfl rfl),a1,b4⟩
def cA (N:Nat) (d:List UInt8) (t y i:Int):Option (Template×Int×Int):=
 xY (oR d t y 4) fun e=>
 kY (σ:=Int×Int×Int×(List Rel)) (
  lD (σ:=Int×Int×Int×(List Rel)) (ρ:=Template×Int×Int) (fun(s:Int×Int×Int×(List Rel))=>
    match s with
    | (f,j,n,p)=>
    if (decide (0<f)) then
     xY (kN d j n ([1,2,2,2,3])) fun h=>
     xY (dO N d h.2.1 h.2.2 i h.1) fun c=>
     xY (ap p ([(Rel.mk c.1.arity c.1.tuples)])) fun A=>
     xY (ck (f - 1)) fun B=>
     some (.go (B,c.2.1,c.2.2,A))
    else
     some (.brk (f,j,n,p))) N (e.1,e.2.1,e.2.2,[])) fun(F,C,D,E)=>
 some ((Template.mk i E),C,D)
theorem lM {B:Nat→Prop} {N:Nat} {ae:List UInt8} {a0 a4 i:Int} (r:Template×Int×Int) (d:cA N ae a0 a4 i=some r) {j:Nat} {n:Value} {V:List Nat} (I:World) (hN:∀ c,B c→c<I.heap.size) (S0:Sep V B I I [bx j [n,xF a0,.int .u64 a4] 118]) (J:Bo B I (Sl 1 eQ) n ae) (b2:xS a0) (U:xS i):Calls Tryz.prog 87 #[vA j,xF i] I (Gv (fun v w'=>∃ (af:Value),v= .agg #[xF r.1.size,af]∧Sep V B I w' [rl 2 vG 65 af r.1.rels,bx j [n,xF r.2.1,.int .u64 r.2.2] 118]∧xS r.1.size∧xS r.2.1)):=by
 unfold cA at d
 refine xW (L:=[(0,vA j),(1,xF i)]) func87 rfl rfl rfl (sc rfl (sc rfl sn)) (fun a F=>?_);have H:=S0;refine xX (oA aG F rfl rfl H fun a w p H F=>zR (xA 1 F rfl fun a F=>aX pS aG (fun w=>by simp [xI,eA];rfl) F rfl rfl rfl rfl rfl (oc rfl on) rfl rfl fun a F=>oA aG F rfl rfl H fun a w t H F=>gN (vs:=[xF i,vH]) oH F rfl rfl rfl H (oc rfl (oc rfl on)) rfl rfl (fun w H=>?_)));refine xJ (xG (xX (xA 1 F rfl fun a F=>?_)));obtain⟨Q,c1,d⟩:=xB d;obtain⟨X1,b3,b4⟩:=Sep.lend (K:=[bx j [n,xF a0,.int .u64 a4] 118]) (L:=[bx t [xF i,vH] 26,bx p [xF 0,vH] 26]) (H.s [2,0,1] rfl rfl);refine oG F rfl kZ rfl (qK Q c1 _ H.hN b3 (H.u J) b2 (show xS (4) by decide)) (fun a D w ⟨cu,S,i1,i2⟩ F=>?_);subst D;have H:Sep V B I w [bx j [n,xF Q.2.1,.int .u64 Q.2.2] 118,bx t [xF i,vH] 26,bx p [xF 0,vH] 26]:=b4 S;refine xA 1 F rfl fun a F=>xJ ?_;obtain⟨o1,d,b5⟩:=xV d;refine qG (fun a w=>∃ (s1 s2 s3:Int) (s4:List Rel) (T:Value),o1= .nx (s1,s2,s3,s4)∧Sk a 27 [(0,vA j),(4,vA p),(5,vA t)]∧Sep V B I w [rl 2 vG 65 T s4,bx j [n,xF s2,.int .u64 s3] 118,bx t [xF i,T] 26,bx p [xF 0,vH] 26]∧xS s1∧xS s2) ?_ ?_
 ·
  refine qM ?_;obtain⟨b6,b7,d⟩:=iO d;refine vT (fun g a w=>∃ (W M O:Int) (A:List Rel) (h:Value),lD b6 g (W,M,O,A)=some o1∧Sk a 27 [(0,vA j),(1,xF i),(4,vA p),(5,vA t),(6,xF W)]∧Sep V B I w [rl 2 vG 65 h A,bx j [n,xF M,.int .u64 O] 118,bx t [xF i,h] 26,bx p [xF 0,vH] 26]∧xS W∧xS M) N ?_ ?_
  ·
   exact⟨Q.1,Q.2.1,Q.2.2,[],vH,d,F.su,(H.nl 2 vG 65),i1,i2⟩
  intro g1 a w ⟨W,M,O,A,h,d,F,H,i3,i4⟩;obtain⟨cx,X,cy,d,P⟩:=dW d;rw[b7] at d;refine xG (xX (xA 2 F rfl fun a F=>xJ (vK F rfl (fun a5=>?_) (fun a5=>?_))))
  ·
   replace d:=zW a5 d;refine xT (xH (xG (qM ?_)));obtain⟨C,c2,d⟩:=xB d;obtain⟨e,c3,d⟩:=xB d;obtain⟨Y,Z,d⟩:=xB d;refine lU H fun w H=>qJ 0 rfl (qT F rfl (fun w l=>oD cD F rfl rfl) fun a F=>qV 2 rfl (qO F rfl rfl fun a F=>qV 3 rfl (qO F rfl rfl fun a F=>qV 4 rfl (qO F rfl rfl fun a F=>aT [1,5] (by kernel_rfl) (by simp) ⟨⟨_,rfl,?_⟩,⟨_,rfl,?_⟩,trivial⟩))))
   ·
    refine aM H (oB kM F rfl rfl (H.b 2 rfl) rfl fun a F=>xJ ⟨⟨_,H⟩,?_⟩);refine kT H 5 rfl (oRI (xs:=[.const (xF 1),.const (xF 2),.const (xF 2),.const (xF 2),.const (xF 3)]) (l:=[1,2,2,2,3]) xC xI qQ rfl F rfl rfl rfl rfl rfl rfl (by simp only[List.forall_mem_cons,List.not_mem_nil,false_implies,implies_true,and_true];exact⟨(show xS (1) by decide),(show xS (2) by decide),(show xS (2) by decide),(show xS (2) by decide),(show xS (3) by decide)⟩) H fun a w v3 H F=>xJ ⟨⟨_,H⟩,?_⟩);refine kT H 6 rfl ?_;obtain⟨w1,rfl⟩:∃ x,x=w:=⟨_,rfl⟩;have cz:=H.sm;obtain⟨X2,N1,g2,e1,H,E,d0⟩:=H.fza;have h1:=g2.ld;obtain⟨X3,K1,b8⟩:=Sep.lend (K:=[bx j [n,xF M,.int .u64 O] 118]) (L:=[rl 2 vG 65 h A,bx t [xF i,h] 26,bx p [xF 0,vH] 26]) (H.s [1,0,2,3] rfl rfl);refine oG F rfl cX rfl (vJ C c2 _ H.hN K1 (H.u (e1 J)) i4 (H.u h1)) (fun a D w ⟨d1,S,i5,i6⟩ F=>?_);subst D;have H:Sep X2 N1 w1 w [bx j [n,xF C.2.1,.int .u64 C.2.2] 118,rl 2 vG 65 h A,bx t [xF i,h] 26,bx p [xF 0,vH] 26]:=b8 S;refine xJ ⟨⟨_,(E.1 H (Ns.all ⟨n0,⟨n0,⟨n0,⟨n0,trivial⟩⟩⟩⟩))⟩,?_⟩;refine xE (E.1 H (Ns.all ⟨n0,⟨n0,⟨n0,⟨n0,trivial⟩⟩⟩⟩)) 7 rfl (by kernel_rfl) ?_;obtain⟨X4,K2,b9⟩:=Sep.lend (K:=[bx j [n,xF C.2.1,.int .u64 C.2.2] 118]) (L:=[rl 2 vG 65 h A,bx t [xF i,h] 26,bx p [xF 0,vH] 26]) H;refine oG F rfl pT rfl (eD e c3 _ H.hN K2 (H.u (e1 J)) i6 U i5) (fun a D w ⟨v4,d2,S,i7,i8⟩ F=>?_);subst D;have H:Sep X2 N1 w1 w [rl 1 (vS 1 xM) 46 v4 e.1.tuples,bx j [n,xF e.2.1,.int .u64 e.2.2] 118,rl 2 vG 65 h A,bx t [xF i,h] 26,bx p [xF 0,vH] 26]:=b9 S;refine xJ ⟨⟨_,(E.1 H (Ns.all ⟨n0,⟨n0,⟨n0,⟨n0,⟨n0,trivial⟩⟩⟩⟩⟩))⟩,?_⟩;refine xE (E.1 H (Ns.all ⟨n0,⟨n0,⟨n0,⟨n0,⟨n0,trivial⟩⟩⟩⟩⟩)) 8 rfl (by kernel_rfl) ?_;have H:=(vG.w i7 H);refine gB (R:=vG) (y:=(Rel.mk e.1.arity e.1.tuples)) qP oE zL rfl rfl F rfl rfl H El.agg fun a w v5 H F=>xJ ⟨⟨_,(E.1 H (Ns.all ⟨n0,⟨n0,⟨n0,⟨n0,⟨n0,trivial⟩⟩⟩⟩⟩))⟩,?_⟩;refine xE (E.1 H (Ns.all ⟨n0,⟨n0,⟨n0,⟨n0,⟨n0,trivial⟩⟩⟩⟩⟩)) 9 rfl (by kernel_rfl) (oPL (sz:=2) (R:=vG) (z:=(.agg #[xF 0,vH])) (bytes:=32) qP (by kernel_rfl) rfl rfl F rfl rfl rfl (H.s [2,0,1,3,4] rfl rfl) Z fun a w v6 H F=>xJ ⟨⟨_,(E.1 H (Ns.all ⟨n0,⟨n0,⟨n0,⟨n0,trivial⟩⟩⟩⟩))⟩,?_⟩);refine qJ 10 rfl (qT F rfl (fun w l=>oD cD F rfl rfl) fun a F=>xE (E.1 H (Ns.all ⟨n0,⟨n0,⟨n0,⟨n0,trivial⟩⟩⟩⟩)) 11 rfl (by kernel_rfl) (oW eA F rfl rfl rfl (H.s [2,0,1,3] rfl rfl) ((H.s [2,0,1,3] rfl rfl).l 1 rfl).one rfl rfl fun w H=>xJ ⟨⟨_,(E.1 H (Ns.all ⟨n0,⟨n0,⟨n0,⟨n0,trivial⟩⟩⟩⟩))⟩,?_⟩));refine zN (zG (xH (oO (xA 1 F rfl fun a F=>?_))));obtain⟨z5,c5,d⟩:=xB d;refine gY F rfl rfl rfl c5 fun a F=>xA 1 F rfl fun a F=>xJ ?_;replace d:=aB d P;exact⟨X,(by omega),z5,e.2.1,e.2.2,Y,v6,d,F.su,((E.1 H (Ns.all ⟨n0,⟨n0,⟨n0,⟨n0,trivial⟩⟩⟩⟩)).s [2,3,1,4] rfl rfl),(bD c5),i8⟩
   refine aM H (oRI (xs:=[.const (xF 1),.const (xF 2),.const (xF 2),.const (xF 2),.const (xF 3)]) (l:=[1,2,2,2,3]) xC xI qQ rfl F rfl rfl rfl rfl rfl rfl (by simp only[List.forall_mem_cons,List.not_mem_nil,false_implies,implies_true,and_true];exact⟨(show xS (1) by decide),(show xS (2) by decide),(show xS (2) by decide),(show xS (2) by decide),(show xS (3) by decide)⟩) H fun a w v7 H F=>xJ ⟨⟨_,H⟩,?_⟩);refine aT [1,6] (by kernel_rfl) (by simp) ⟨⟨_,rfl,?_⟩,⟨_,rfl,?_⟩,trivial⟩
   ·
    refine aM H (oB kM F rfl rfl (H.b 3 rfl) rfl fun a F=>xJ ⟨⟨_,H⟩,?_⟩);refine kT H 6 rfl ?_;obtain⟨w2,rfl⟩:∃ x,x=w:=⟨_,rfl⟩;have d3:=H.sm;obtain⟨X5,N2,g3,e2,H,G,d4⟩:=H.fza;have h2:=g3.ld;obtain⟨X6,K3,ba⟩:=Sep.lend (K:=[bx j [n,xF M,.int .u64 O] 118]) (L:=[rl 2 vG 65 h A,bx t [xF i,h] 26,bx p [xF 0,vH] 26]) (H.s [1,0,2,3] rfl rfl);refine oG F rfl cX rfl (vJ C c2 _ H.hN K3 (H.u (e2 J)) i4 (H.u h2)) (fun a D w ⟨d5,S,i9,bb⟩ F=>?_);subst D;have H:Sep X5 N2 w2 w [bx j [n,xF C.2.1,.int .u64 C.2.2] 118,rl 2 vG 65 h A,bx t [xF i,h] 26,bx p [xF 0,vH] 26]:=ba S;refine xJ ⟨⟨_,(G.1 H (Ns.all ⟨n0,⟨n0,⟨n0,⟨n0,trivial⟩⟩⟩⟩))⟩,?_⟩;refine xE (G.1 H (Ns.all ⟨n0,⟨n0,⟨n0,⟨n0,trivial⟩⟩⟩⟩)) 7 rfl (by kernel_rfl) ?_;obtain⟨X7,K4,bc⟩:=Sep.lend (K:=[bx j [n,xF C.2.1,.int .u64 C.2.2] 118]) (L:=[rl 2 vG 65 h A,bx t [xF i,h] 26,bx p [xF 0,vH] 26]) H;refine oG F rfl pT rfl (eD e c3 _ H.hN K4 (H.u (e2 J)) bb U i9) (fun a D w ⟨v8,d6,S,be,bf⟩ F=>?_);subst D;have H:Sep X5 N2 w2 w [rl 1 (vS 1 xM) 46 v8 e.1.tuples,bx j [n,xF e.2.1,.int .u64 e.2.2] 118,rl 2 vG 65 h A,bx t [xF i,h] 26,bx p [xF 0,vH] 26]:=bc S;refine xJ ⟨⟨_,(G.1 H (Ns.all ⟨n0,⟨n0,⟨n0,⟨n0,⟨n0,trivial⟩⟩⟩⟩⟩))⟩,?_⟩;refine xE (G.1 H (Ns.all ⟨n0,⟨n0,⟨n0,⟨n0,⟨n0,trivial⟩⟩⟩⟩⟩)) 8 rfl (by kernel_rfl) ?_;have H:=(vG.w be H);refine gB (R:=vG) (y:=(Rel.mk e.1.arity e.1.tuples)) qP oE zL rfl rfl F rfl rfl H El.agg fun a w v9 H F=>xJ ⟨⟨_,(G.1 H (Ns.all ⟨n0,⟨n0,⟨n0,⟨n0,⟨n0,trivial⟩⟩⟩⟩⟩))⟩,?_⟩;refine xE (G.1 H (Ns.all ⟨n0,⟨n0,⟨n0,⟨n0,⟨n0,trivial⟩⟩⟩⟩⟩)) 9 rfl (by kernel_rfl) (oPL (sz:=2) (R:=vG) (z:=(.agg #[xF 0,vH])) (bytes:=32) qP (by kernel_rfl) rfl rfl F rfl rfl rfl (H.s [2,0,1,3,4] rfl rfl) Z fun a w bg H F=>xJ ⟨⟨_,(G.1 H (Ns.all ⟨n0,⟨n0,⟨n0,⟨n0,trivial⟩⟩⟩⟩))⟩,?_⟩);refine qJ 10 rfl (qT F rfl (fun w l=>oD cD F rfl rfl) fun a F=>xE (G.1 H (Ns.all ⟨n0,⟨n0,⟨n0,⟨n0,trivial⟩⟩⟩⟩)) 11 rfl (by kernel_rfl) (oW eA F rfl rfl rfl (H.s [2,0,1,3] rfl rfl) ((H.s [2,0,1,3] rfl rfl).l 1 rfl).one rfl rfl fun w H=>xJ ⟨⟨_,(G.1 H (Ns.all ⟨n0,⟨n0,⟨n0,⟨n0,trivial⟩⟩⟩⟩))⟩,?_⟩));refine zN (zG (xH (oO (xA 1 F rfl fun a F=>?_))));obtain⟨z6,c6,d⟩:=xB d;refine gY F rfl rfl rfl c6 fun a F=>xA 1 F rfl fun a F=>xJ ?_;replace d:=aB d P;exact⟨X,(by omega),z6,e.2.1,e.2.2,Y,bg,d,F.su,((G.1 H (Ns.all ⟨n0,⟨n0,⟨n0,⟨n0,trivial⟩⟩⟩⟩)).s [2,3,1,4] rfl rfl),(bD c6),bf⟩
   refine aM H ?_;obtain⟨w3,rfl⟩:∃ x,x=w:=⟨_,rfl⟩;have d7:=H.sm;obtain⟨X8,N3,g4,e3,H,f,d8⟩:=H.fza;have h3:=g4.ld;obtain⟨X9,K5,bh⟩:=Sep.lend (K:=[bx j [n,xF M,.int .u64 O] 118]) (L:=[rl 2 vG 65 h A,bx t [xF i,h] 26,bx p [xF 0,vH] 26]) (H.s [1,0,2,3] rfl rfl);refine oG F rfl cX rfl (vJ C c2 _ H.hN K5 (H.u (e3 J)) i4 (H.u h3)) (fun a D w ⟨d9,S,ag,ah⟩ F=>?_);subst D;have H:Sep X8 N3 w3 w [bx j [n,xF C.2.1,.int .u64 C.2.2] 118,rl 2 vG 65 h A,bx t [xF i,h] 26,bx p [xF 0,vH] 26]:=bh S;refine xJ ⟨⟨_,(f.1 H (Ns.all ⟨n0,⟨n0,⟨n0,⟨n0,trivial⟩⟩⟩⟩))⟩,?_⟩;refine aT [1,7] (by kernel_rfl) (by simp) ⟨⟨_,rfl,?_⟩,⟨_,rfl,?_⟩,trivial⟩
   ·
    refine aM (f.1 H (Ns.all ⟨n0,⟨n0,⟨n0,⟨n0,trivial⟩⟩⟩⟩)) (oB kM F rfl rfl (H.b 2 rfl) rfl fun a F=>xJ ⟨⟨_,(f.1 H (Ns.all ⟨n0,⟨n0,⟨n0,⟨n0,trivial⟩⟩⟩⟩))⟩,?_⟩);refine xE (f.1 H (Ns.all ⟨n0,⟨n0,⟨n0,⟨n0,trivial⟩⟩⟩⟩)) 7 rfl (by kernel_rfl) ?_;obtain⟨da,K6,bi⟩:=Sep.lend (K:=[bx j [n,xF C.2.1,.int .u64 C.2.2] 118]) (L:=[rl 2 vG 65 h A,bx t [xF i,h] 26,bx p [xF 0,vH] 26]) H;refine oG F rfl pT rfl (eD e c3 _ H.hN K6 (H.u (e3 J)) ah U ag) (fun a D w ⟨bj,db,S,bm,bn⟩ F=>?_);subst D;have H:Sep X8 N3 w3 w [rl 1 (vS 1 xM) 46 bj e.1.tuples,bx j [n,xF e.2.1,.int .u64 e.2.2] 118,rl 2 vG 65 h A,bx t [xF i,h] 26,bx p [xF 0,vH] 26]:=bi S;refine xJ ⟨⟨_,(f.1 H (Ns.all ⟨n0,⟨n0,⟨n0,⟨n0,⟨n0,trivial⟩⟩⟩⟩⟩))⟩,?_⟩;refine xE (f.1 H (Ns.all ⟨n0,⟨n0,⟨n0,⟨n0,⟨n0,trivial⟩⟩⟩⟩⟩)) 8 rfl (by kernel_rfl) ?_;have H:=(vG.w bm H);refine gB (R:=vG) (y:=(Rel.mk e.1.arity e.1.tuples)) qP oE zL rfl rfl F rfl rfl H El.agg fun a w dc H F=>xJ ⟨⟨_,(f.1 H (Ns.all ⟨n0,⟨n0,⟨n0,⟨n0,⟨n0,trivial⟩⟩⟩⟩⟩))⟩,?_⟩;refine xE (f.1 H (Ns.all ⟨n0,⟨n0,⟨n0,⟨n0,⟨n0,trivial⟩⟩⟩⟩⟩)) 9 rfl (by kernel_rfl) (oPL (sz:=2) (R:=vG) (z:=(.agg #[xF 0,vH])) (bytes:=32) qP (by kernel_rfl) rfl rfl F rfl rfl rfl (H.s [2,0,1,3,4] rfl rfl) Z fun a w bp H F=>xJ ⟨⟨_,(f.1 H (Ns.all ⟨n0,⟨n0,⟨n0,⟨n0,trivial⟩⟩⟩⟩))⟩,?_⟩);refine qJ 10 rfl (qT F rfl (fun w l=>oD cD F rfl rfl) fun a F=>xE (f.1 H (Ns.all ⟨n0,⟨n0,⟨n0,⟨n0,trivial⟩⟩⟩⟩)) 11 rfl (by kernel_rfl) (oW eA F rfl rfl rfl (H.s [2,0,1,3] rfl rfl) ((H.s [2,0,1,3] rfl rfl).l 1 rfl).one rfl rfl fun w H=>xJ ⟨⟨_,(f.1 H (Ns.all ⟨n0,⟨n0,⟨n0,⟨n0,trivial⟩⟩⟩⟩))⟩,?_⟩));refine zN (zG (xH (oO (xA 1 F rfl fun a F=>?_))));obtain⟨z7,c7,d⟩:=xB d;refine gY F rfl rfl rfl c7 fun a F=>xA 1 F rfl fun a F=>xJ ?_;replace d:=aB d P;exact⟨X,(by omega),z7,e.2.1,e.2.2,Y,bp,d,F.su,((f.1 H (Ns.all ⟨n0,⟨n0,⟨n0,⟨n0,trivial⟩⟩⟩⟩)).s [2,3,1,4] rfl rfl),(bD c7),bn⟩
   refine aM (f.1 H (Ns.all ⟨n0,⟨n0,⟨n0,⟨n0,trivial⟩⟩⟩⟩)) ?_;obtain⟨dd,K7,bq⟩:=Sep.lend (K:=[bx j [n,xF C.2.1,.int .u64 C.2.2] 118]) (L:=[rl 2 vG 65 h A,bx t [xF i,h] 26,bx p [xF 0,vH] 26]) H;refine oG F rfl pT rfl (eD e c3 _ H.hN K7 (H.u (e3 J)) ah U ag) (fun a D w ⟨br,de,S,ai,aj⟩ F=>?_);subst D;have H:Sep X8 N3 w3 w [rl 1 (vS 1 xM) 46 br e.1.tuples,bx j [n,xF e.2.1,.int .u64 e.2.2] 118,rl 2 vG 65 h A,bx t [xF i,h] 26,bx p [xF 0,vH] 26]:=bq S;refine xJ ⟨⟨_,(f.1 H (Ns.all ⟨n0,⟨n0,⟨n0,⟨n0,⟨n0,trivial⟩⟩⟩⟩⟩))⟩,?_⟩;refine aT [1,8] (by kernel_rfl) (by simp) ⟨⟨_,rfl,?_⟩,⟨_,rfl,?_⟩,trivial⟩
   ·
    refine aM (f.1 H (Ns.all ⟨n0,⟨n0,⟨n0,⟨n0,⟨n0,trivial⟩⟩⟩⟩⟩)) (oB kM F rfl rfl (H.b 3 rfl) rfl fun a F=>xJ ⟨⟨_,(f.1 H (Ns.all ⟨n0,⟨n0,⟨n0,⟨n0,⟨n0,trivial⟩⟩⟩⟩⟩))⟩,?_⟩);refine xE (f.1 H (Ns.all ⟨n0,⟨n0,⟨n0,⟨n0,⟨n0,trivial⟩⟩⟩⟩⟩)) 8 rfl (by kernel_rfl) ?_;have H:=(vG.w ai H);refine gB (R:=vG) (y:=(Rel.mk e.1.arity e.1.tuples)) qP oE zL rfl rfl F rfl rfl H El.agg fun a w df H F=>xJ ⟨⟨_,(f.1 H (Ns.all ⟨n0,⟨n0,⟨n0,⟨n0,⟨n0,trivial⟩⟩⟩⟩⟩))⟩,?_⟩;refine xE (f.1 H (Ns.all ⟨n0,⟨n0,⟨n0,⟨n0,⟨n0,trivial⟩⟩⟩⟩⟩)) 9 rfl (by kernel_rfl) (oPL (sz:=2) (R:=vG) (z:=(.agg #[xF 0,vH])) (bytes:=32) qP (by kernel_rfl) rfl rfl F rfl rfl rfl (H.s [2,0,1,3,4] rfl rfl) Z fun a w bt H F=>xJ ⟨⟨_,(f.1 H (Ns.all ⟨n0,⟨n0,⟨n0,⟨n0,trivial⟩⟩⟩⟩))⟩,?_⟩);refine qJ 10 rfl (qT F rfl (fun w l=>oD cD F rfl rfl) fun a F=>xE (f.1 H (Ns.all ⟨n0,⟨n0,⟨n0,⟨n0,trivial⟩⟩⟩⟩)) 11 rfl (by kernel_rfl) (oW eA F rfl rfl rfl (H.s [2,0,1,3] rfl rfl) ((H.s [2,0,1,3] rfl rfl).l 1 rfl).one rfl rfl fun w H=>xJ ⟨⟨_,(f.1 H (Ns.all ⟨n0,⟨n0,⟨n0,⟨n0,trivial⟩⟩⟩⟩))⟩,?_⟩));refine zN (zG (xH (oO (xA 1 F rfl fun a F=>?_))));obtain⟨z8,c8,d⟩:=xB d;refine gY F rfl rfl rfl c8 fun a F=>xA 1 F rfl fun a F=>xJ ?_;replace d:=aB d P;exact⟨X,(by omega),z8,e.2.1,e.2.2,Y,bt,d,F.su,((f.1 H (Ns.all ⟨n0,⟨n0,⟨n0,⟨n0,trivial⟩⟩⟩⟩)).s [2,3,1,4] rfl rfl),(bD c8),aj⟩
   refine aM (f.1 H (Ns.all ⟨n0,⟨n0,⟨n0,⟨n0,⟨n0,trivial⟩⟩⟩⟩⟩)) ?_;have H:=(vG.w ai H);refine gB (R:=vG) (y:=(Rel.mk e.1.arity e.1.tuples)) qP oE zL rfl rfl F rfl rfl H El.agg fun a w dg H F=>xJ ⟨⟨_,(f.1 H (Ns.all ⟨n0,⟨n0,⟨n0,⟨n0,⟨n0,trivial⟩⟩⟩⟩⟩))⟩,?_⟩;refine xE (f.1 H (Ns.all ⟨n0,⟨n0,⟨n0,⟨n0,⟨n0,trivial⟩⟩⟩⟩⟩)) 1 rfl (by kernel_rfl) (oB kM F rfl rfl (H.b 3 rfl) rfl fun a F=>xJ ⟨⟨_,(f.1 H (Ns.all ⟨n0,⟨n0,⟨n0,⟨n0,⟨n0,trivial⟩⟩⟩⟩⟩))⟩,?_⟩);refine xE (f.1 H (Ns.all ⟨n0,⟨n0,⟨n0,⟨n0,⟨n0,trivial⟩⟩⟩⟩⟩)) 9 rfl (by kernel_rfl) (oPL (sz:=2) (R:=vG) (z:=(.agg #[xF 0,vH])) (bytes:=32) qP (by kernel_rfl) rfl rfl F rfl rfl rfl (H.s [2,0,1,3,4] rfl rfl) Z fun a w bu H F=>xJ ⟨⟨_,(f.1 H (Ns.all ⟨n0,⟨n0,⟨n0,⟨n0,trivial⟩⟩⟩⟩))⟩,?_⟩);refine qJ 10 rfl (qT F rfl (fun w l=>oD cD F rfl rfl) fun a F=>xE (f.1 H (Ns.all ⟨n0,⟨n0,⟨n0,⟨n0,trivial⟩⟩⟩⟩)) 11 rfl (by kernel_rfl) (oW eA F rfl rfl rfl (H.s [2,0,1,3] rfl rfl) ((H.s [2,0,1,3] rfl rfl).l 1 rfl).one rfl rfl fun w H=>xJ ⟨⟨_,(f.1 H (Ns.all ⟨n0,⟨n0,⟨n0,⟨n0,trivial⟩⟩⟩⟩))⟩,?_⟩));refine zN (zG (xH (oO (xA 1 F rfl fun a F=>?_))));obtain⟨z9,c9,d⟩:=xB d;refine gY F rfl rfl rfl c9 fun a F=>xA 1 F rfl fun a F=>xJ ?_;replace d:=aB d P;exact⟨X,(by omega),z9,e.2.1,e.2.2,Y,bu,d,F.su,((f.1 H (Ns.all ⟨n0,⟨n0,⟨n0,⟨n0,trivial⟩⟩⟩⟩)).s [2,3,1,4] rfl rfl),(bD c9),aj⟩
  replace d:=zV a5 d;refine vU (vV (vV ?_));replace d:=rT d P;refine bC (xH ?_);exact⟨W,M,O,A,h,(kQ d),F.su,H,i3,i4⟩
 rintro a w ⟨s1,s2,s3,s4,T,rfl,F,H,dh,bv⟩
 have d:=oJ b5;refine xH (xX (lT qU oH F rfl rfl (H.b 2 rfl) rfl rfl fun a F=>gN (vs:=[xF i,T]) oH F rfl rfl rfl (H.s [3,0,1,2] rfl rfl) (oc rfl (oc ((H.s [3,0,1,2] rfl rfl).l 1 rfl).one on)) rfl rfl fun w H=>xJ (xP (xR F rfl (bN (arr:=#[xF i,T]) F qU oH rfl (H.b 0 rfl)) ?_))));obtain rfl:=oj d;exact⟨_,rfl,T,rfl,(H.s [1,2] rfl rfl),U,bv⟩
def jW (N:Nat) (c:List UInt8) (E F:Int) (e:Template) (O:Int):Option (Instance×Int×Int):=
 xY (oR c E F O) fun f=>
 xY (ck (1+f.1)) fun p=>
 xY (oR c f.2.1 f.2.2 7) fun h=>
 kY (σ:=Int×Int×Int×(List Con)) (
  lD (σ:=Int×Int×Int×(List Con)) (ρ:=Instance×Int×Int) (fun(s:Int×Int×Int×(List Con))=>
    match s with
    | (i,t,y,A)=>
    kY (σ:=Bool) (
     if (decide (0<i)) then  some (.nx (decide (0<(e.rels.length:Int)))) else  some (.nx false)) fun P=>
    if P then
     xY (oR c t y (e.rels.length:Int)) fun d=>
     xY (ix e.rels d.1) fun Q=>
     kY (σ:=Int×Int×Int×(List Int)) (
      lD (σ:=Int×Int×Int×(List Int)) (ρ:=(Ctl (Int×Int×Int×(List Con)) (Instance×Int×Int))) (fun(s:Int×Int×Int×(List Int))=>
        match s with
        | (j,B,C,D)=>
        if (decide (0<j)) then
         xY (oR c B C p) fun n=>
         xY (ap D ([n.1])) fun R=>
         xY (ck (j - 1)) fun S=>
         some (.go (S,n.2.1,n.2.2,R))
        else
         some (.brk (j,B,C,D))) N (Q.arity,d.2.1,d.2.2,[])) fun(U,G,H,I)=>
     xY (ap A ([(Con.mk d.1 I)])) fun T=>
     xY (ck (i - 1)) fun J=>
     some (.go (J,G,H,T))
    else
     some (.brk (i,t,y,A))) N (h.1,h.2.1,h.2.2,[])) fun(V,K,L,M)=>
 some ((Instance.mk p M),K,L)
theorem xBx {B:Nat→Prop} {N:Nat} {au:List UInt8} {a5 ae:Int} {x1:Template} {x2:Int} (r:Instance×Int×Int) (d:jW N au a5 ae x1 x2=some r) {e:Nat} {h:Value} {O:Value} {M:List Nat} (t:World) (hN:∀ c,B c→c<t.heap.size) (S0:Sep M B t t [bx e [h,xF a5,.int .u64 ae] 118]) (a1:Bo B t (Sl 1 eQ) h au) (ba:xS a5) (X:Bo B t (Pt 2 xL) O x1) (bc:xS x2):Calls Tryz.prog 89 #[vA e,O,xF x2] t (Gv (fun v w'=>∃ (aw:Value),v= .agg #[xF r.1.vars,aw]∧Sep M B t w' [rl 2 qZ 68 aw r.1.cons,bx e [h,xF r.2.1,.int .u64 r.2.2] 118]∧xS r.1.vars∧xS r.2.1)):=by
 unfold jW at d
 refine xW (L:=[(0,vA e),(1,O),(2,xF x2)]) func89 rfl rfl rfl (sc rfl (sc rfl (sc rfl sn))) (fun a F=>?_);have H:=S0;refine xX (oA kH F rfl rfl H fun a w f H F=>zR (xA 2 F rfl fun a F=>?_));obtain⟨z1,c1,d⟩:=xB d;obtain⟨X1,K1,bb⟩:=Sep.lend (K:=[bx e [h,xF a5,.int .u64 ae] 118]) (L:=[bx f [xF 0,vH] 29]) (H.s [1,0] rfl rfl);refine oG F rfl kZ rfl (qK z1 c1 _ H.hN K1 (H.u a1) ba bc) (fun a P w ⟨dd,S,i1,i2⟩ F=>?_);subst P;have H:Sep M B t w [bx e [h,xF z1.2.1,.int .u64 z1.2.2] 118,bx f [xF 0,vH] 29]:=bb S;obtain⟨D,c2,d⟩:=xB d;refine fF F rfl rfl rfl c2 fun a F=>aX gG kH (fun w=>by simp [xI,cL];rfl) F rfl rfl rfl rfl rfl (oc rfl on) rfl rfl fun a F=>oA kH F rfl rfl H fun a w p H F=>gN (vs:=[xF D,vH]) oZ F rfl rfl rfl H (oc rfl (oc rfl on)) rfl rfl fun w H=>xJ (xG (xX (xA 1 F rfl fun a F=>?_)));obtain⟨Y,c3,d⟩:=xB d;obtain⟨X2,K2,be⟩:=Sep.lend (K:=[bx e [h,xF z1.2.1,.int .u64 z1.2.2] 118]) (L:=[bx p [xF D,vH] 29,bx f [xF 0,vH] 29]) (H.s [1,0,2] rfl rfl);refine oG F rfl kZ rfl (qK Y c3 _ H.hN K2 (H.u a1) i2 (show xS (7) by decide)) (fun a P w ⟨de,S,i3,i4⟩ F=>?_);subst P;have H:Sep M B t w [bx e [h,xF Y.2.1,.int .u64 Y.2.2] 118,bx p [xF D,vH] 29,bx f [xF 0,vH] 29]:=be S;refine xA 1 F rfl fun a F=>xJ ?_;obtain⟨o1,d,bf⟩:=xV d;refine qG (fun a w=>∃ (s1 s2 s3:Int) (s4:List Con) (Z:Value),o1= .nx (s1,s2,s3,s4)∧Sk a 67 [(0,vA e),(6,vA f),(7,vA p)]∧Sep M B t w [rl 2 qZ 68 Z s4,bx e [h,xF s2,.int .u64 s3] 118,bx p [xF D,Z] 29,bx f [xF 0,vH] 29]∧xS s1∧xS s2) ?_ ?_
 ·
  refine qM ?_;obtain⟨bg,bh,d⟩:=iO d;refine vT (fun g a w=>∃ (I U s7:Int) (A:List Con) (i:Value),lD bg g (I,U,s7,A)=some o1∧Sk a 67 [(0,vA e),(1,O),(6,vA f),(7,vA p),(8,xF I)]∧Sep M B t w [rl 2 qZ 68 i A,bx e [h,xF U,.int .u64 s7] 118,bx p [xF D,i] 29,bx f [xF 0,vH] 29]∧xS I∧xS U) N ?_ ?_
  ·
   exact⟨Y.1,Y.2.1,Y.2.2,[],vH,d,F.su,(H.nl 2 qZ 68),i3,i4⟩
  intro g1 a w ⟨I,U,s7,A,i,d,F,H,i5,i6⟩;obtain⟨df,t1,dg,d,ax⟩:=dW d;rw[bh] at d;refine xG (xG ?_);obtain⟨o2,d,bi⟩:=xV d;refine qG (fun a w=>∃ (s9:Bool),o2= .nx s9∧Sk a 67 [(0,vA e),(1,O),(6,vA f),(7,vA p),(8,xF I),(27,.bool s9)]∧Sep M B t w [rl 2 qZ 68 i A,bx e [h,xF U,.int .u64 s7] 118,bx p [xF D,i] 29,bx f [xF 0,vH] 29]) ?_ ?_
  ·
   refine oO (xA 3 F rfl fun a F=>?_)
   rcases zC (decide (0<I)) with a2 | a2
   ·
    replace d:=zW a2 d;have F:=F.eb 20 rfl a2;refine xA 1 F rfl fun a F=>oN F rfl rfl X fun a F=>oF (s':=1) cD F rfl rfl X xL.f1 fun a p1 h1 F=>olS kM F rfl rfl H.sm h1 fun a v4 h2 F=>oL qP F rfl rfl h2 fun a i7 F=>xA 2 F rfl fun a F=>xJ ?_;exact⟨(decide (0<(x1.rels.length:Int))),(kQ d),F.su,H⟩
   replace d:=zV a2 d;have F:=F.eb 20 rfl a2;refine xA 7 F rfl fun a F=>xJ ?_;exact⟨false,(kQ d),F.su,H⟩
  rintro a w ⟨s9,rfl,F,H⟩
  have d:=oJ bi;refine xH (vK F rfl (fun af=>?_) (fun af=>?_))
  ·
   replace d:=zW af d;refine xT (xH (xG (qM (xX (xA 2 F rfl fun a F=>oN F rfl rfl X fun a F=>oF (s':=1) cD F rfl rfl X xL.f1 fun a p2 h3 F=>olS kM F rfl rfl H.sm h3 (fun a v5 h4 F=>?_))))));refine oL qP F rfl rfl h4 (fun a i8 F=>?_);obtain⟨C,c4,d⟩:=xB d;obtain⟨X3,K3,bj⟩:=Sep.lend (K:=[bx e [h,xF U,.int .u64 s7] 118]) (L:=[rl 2 qZ 68 i A,bx p [xF D,i] 29,bx f [xF 0,vH] 29]) (H.s [1,0,2,3] rfl rfl);refine oG F rfl kZ rfl (qK C c4 _ H.hN K3 (H.u a1) i6 i8) (fun a P w ⟨dh,S,i9,bm⟩ F=>?_);subst P;have H:Sep M B t w [bx e [h,xF C.2.1,.int .u64 C.2.2] 118,rl 2 qZ 68 i A,bx p [xF D,i] 29,bx f [xF 0,vH] 29]:=bj S;refine aX dT zM (fun w=>by simp [xI,xU];rfl) F rfl rfl rfl rfl rfl (oc rfl on) rfl rfl fun a F=>oA zM F rfl rfl H fun a w E H F=>gN (vs:=[xF C.1,vH]) zA F rfl rfl rfl H (oc rfl (oc rfl on)) rfl rfl fun w H=>xJ (xG (xG (xQa H (oM F rfl rfl fun a F=>qN F rfl rfl X fun a F=>qF (s':=1) cD F rfl rfl X xL.f1 (fun a p3 h5 F=>?_)))));refine qlS kM F rfl rfl H.q h5 fun a v6 h6 F=>zH F rfl (fun w l=>oD tD F rfl rfl) fun a F=>qB xN F rfl rfl (H.qb 0 rfl) rfl (fun a F=>?_);obtain⟨z5,c5,d⟩:=xB d;refine qI qP oE F rfl rfl rfl h6 c5 fun a p4 h7 F=>qF (s':=1) sS F rfl rfl h7 vG.f0 fun a p5 h8 F=>qlI xN F rfl rfl H.q h8 fun a bn F=>gS F rfl rfl fun a F=>aF fun w H=>xH ?_;obtain⟨o3,d,bp⟩:=xV d;refine qG (fun a w=>∃ (ag a3 a6:Int) (a7:List Int) (v7:Value),o3= .nx (ag,a3,a6,a7)∧Sk a 67 [(0,vA e),(1,O),(6,vA f),(7,vA p),(8,xF I),(9,vA E)]∧Sep M B t w [rl 1 xM 2 v7 a7,bx E [xF C.1,v7] 68,bx e [h,xF a3,.int .u64 a6] 118,rl 2 qZ 68 i A,bx p [xF D,i] 29,bx f [xF 0,vH] 29]∧xS ag∧xS a3) ?_ ?_
   ·
    refine qM ?_;obtain⟨bq,br,d⟩:=iO d;refine vT (fun g a w=>∃ (Q T W:Int) (J:List Int) (n:Value),lD bq g (Q,T,W,J)=some o3∧Sk a 67 [(0,vA e),(1,O),(6,vA f),(7,vA p),(8,xF I),(9,vA E),(10,xF Q)]∧Sep M B t w [rl 1 xM 2 n J,bx E [xF C.1,n] 68,bx e [h,xF T,.int .u64 W] 118,rl 2 qZ 68 i A,bx p [xF D,i] 29,bx f [xF 0,vH] 29]∧xS Q∧xS T) N ?_ ?_
    ·
     exact⟨z5.arity,C.2.1,C.2.2,[],vH,d,F.su,(H.nl 1 xM 2),bn,bm⟩
    intro g2 a w ⟨Q,T,W,J,n,d,F,H,bt,ah⟩;obtain⟨di,t2,dj,d,ay⟩:=dW d;rw[br] at d;refine xG (xX (xA 2 F rfl fun a F=>xJ (vK F rfl (fun ai=>?_) (fun ai=>?_))))
    ·
     replace d:=zW ai d;refine xT (xH (xG (qM ?_)));obtain⟨j,c6,d⟩:=xB d;obtain⟨z7,c7,d⟩:=xB d;obtain⟨w1,rfl⟩:∃ x,x=w:=⟨_,rfl⟩;have dk:=H.sm;obtain⟨X4,N1,g3,e1,H,bu,dl⟩:=(H.s [4,0,1,2,3,5] rfl rfl).fza;have K4:=g3.bk;refine lU H fun w H=>dp (fun G=>∀ (v9:Value) (a:Act) (w:World),Sk a 67 [(0,vA e),(1,O),(6,vA f),(7,vA p),(8,xF I),(9,vA E),(10,xF Q),(52,n),(57,v9)]→Sep X4 N1 w1 w [rl 1 xM 2 v9 ([j.1]),bx e [h,xF j.2.1,.int .u64 j.2.2] 118,rl 1 xM 2 n J,bx E [xF C.1,n] 68,rl 2 qZ 68 i A,bx f [xF 0,vH] 29]→xS j.2.1→∀ V,V = #[true,true,true,true,true,true,true,false,false,false]→G 3 V a w) ?_ (fun H1=>?_)
     ·
      intro v9 a w F H bv V aj;subst aj;refine kT H 7 rfl (oPL (sz:=1) (R:=xM) (z:=(xF 0)) (bytes:=8) xC (by kernel_rfl) rfl rfl F rfl rfl rfl (H.s [2,0,1,3,4,5] rfl rfl) c7 fun a w c0 H F=>xJ ⟨⟨_,H⟩,?_⟩);refine qJ 8 rfl (qT F rfl (fun w l=>oD gD F rfl rfl) fun a F=>kT H 9 rfl (oW xU F rfl rfl rfl (H.s [2,0,1,3,4] rfl rfl) ((H.s [2,0,1,3,4] rfl rfl).l 1 rfl).one rfl rfl fun w H=>xJ ⟨⟨_,H⟩,?_⟩));refine zN (zG (xH (oO (xA 1 F rfl fun a F=>?_))));obtain⟨z8,c8,d⟩:=xB d;refine gY F rfl rfl rfl c8 fun a F=>xA 1 F rfl fun a F=>xJ ?_;replace d:=aB d ay;exact⟨t2,(by omega),z8,j.2.1,j.2.2,z7,c0,d,F.su,((bu.1 H (Ns.all ⟨n0,⟨n0,⟨n0,⟨n0,⟨n0,trivial⟩⟩⟩⟩⟩)).s [2,1,3,4,0,5] rfl rfl),(bD c8),bv⟩
     refine dp (fun G=>∀ (a:Act) (w:World),Sk a 67 [(0,vA e),(1,O),(6,vA f),(7,vA p),(8,xF I),(9,vA E),(10,xF Q),(52,n),(56,xF j.1)]→Sep X4 N1 w1 w [bx e [h,xF j.2.1,.int .u64 j.2.2] 118,rl 1 xM 2 n J,bx E [xF C.1,n] 68,rl 2 qZ 68 i A,bx f [xF 0,vH] 29]→xS j.2.1→xS j.1→∀ V,V = #[true,true,true,true,true,true,false,false,false,false]→G 4 V a w) ?_ (fun H2=>?_)
     ·
      intro a w F H i15 i16 V aj;subst aj;refine kT H 6 rfl (iN (R:=xM) (y:=j.1) xC xI qQ rfl rfl F rfl rfl H (Eo.int i16) fun a w v11 H F=>xJ ⟨⟨_,H⟩,?_⟩);exact H1 v11 _ _ (F.su) H i15 _ (by kernel_rfl)
     refine qJ 0 rfl (qT F rfl (fun w l=>oD gD F rfl rfl) fun a F=>qV 2 rfl (qO F rfl rfl fun a F=>qJ 3 rfl (qT F rfl (fun w l=>oD gP F rfl rfl) fun a F=>qJ 4 rfl (vB xN F rfl rfl (K4.v H.sm) rfl fun a F=>aT [1,5] (by kernel_rfl) (by simp) ⟨⟨_,rfl,?_⟩,⟨_,rfl,?_⟩,trivial⟩))))
     ·
      refine aM H (oB qE F rfl rfl (H.b 1 rfl) rfl fun a F=>xJ ⟨⟨_,H⟩,?_⟩);refine kT H 5 rfl ?_;obtain⟨X5,K5,bk3⟩:=Sep.lend (K:=[bx e [h,xF T,.int .u64 W] 118]) (L:=[rl 1 xM 2 n J,bx E [xF C.1,n] 68,rl 2 qZ 68 i A,bx f [xF 0,vH] 29]) (H.s [2,0,1,3,4] rfl rfl);refine oG F rfl kZ rfl (qK j c6 _ H.hN K5 (H.u (e1 a1)) ah (bD c2)) (fun a P w ⟨dm,S,i19,i20⟩ F=>?_);subst P;have H:Sep X4 N1 w1 w [bx e [h,xF j.2.1,.int .u64 j.2.2] 118,rl 1 xM 2 n J,bx E [xF C.1,n] 68,rl 2 qZ 68 i A,bx f [xF 0,vH] 29]:=bk3 S;refine xJ ⟨⟨_,H⟩,?_⟩;exact H2 _ _ (F.su) H i20 i19 _ (by kernel_rfl)
     refine aM H ?_;obtain⟨X6,K6,bk4⟩:=Sep.lend (K:=[bx e [h,xF T,.int .u64 W] 118]) (L:=[rl 1 xM 2 n J,bx E [xF C.1,n] 68,rl 2 qZ 68 i A,bx f [xF 0,vH] 29]) (H.s [2,0,1,3,4] rfl rfl);refine oG F rfl kZ rfl (qK j c6 _ H.hN K6 (H.u (e1 a1)) ah (bD c2)) (fun a P w ⟨dq,S,az,b0⟩ F=>?_);subst P;have H:Sep X4 N1 w1 w [bx e [h,xF j.2.1,.int .u64 j.2.2] 118,rl 1 xM 2 n J,bx E [xF C.1,n] 68,rl 2 qZ 68 i A,bx f [xF 0,vH] 29]:=bk4 S;refine xJ ⟨⟨_,H⟩,?_⟩;refine aT [1,6] (by kernel_rfl) (by simp) ⟨⟨_,rfl,?_⟩,⟨_,rfl,?_⟩,trivial⟩
     ·
      refine aM H (oB qE F rfl rfl (H.b 2 rfl) rfl fun a F=>xJ ⟨⟨_,H⟩,?_⟩);exact H2 _ _ (F.su) H b0 az _ (by kernel_rfl)
     refine aM H (iN (R:=xM) (y:=j.1) xC xI qQ rfl rfl F rfl rfl H (Eo.int az) fun a w v12 H F=>xJ ⟨⟨_,H⟩,?_⟩);refine kT H 1 rfl (oB qE F rfl rfl (H.b 3 rfl) rfl fun a F=>xJ ⟨⟨_,H⟩,?_⟩);exact H1 v12 _ _ (F.su) H b0 _ (by kernel_rfl)
    replace d:=zV ai d;refine vU (vV (vV ?_));replace d:=rT d ay;refine bC (xH ?_);exact⟨Q,T,W,J,n,(kQ d),F.su,H,bt,ah⟩
   rintro a w ⟨ag,a3,a6,a7,v7,rfl,F,H,dr,i24⟩
   have d:=oJ bp;refine xH (oO (oQ bU F rfl rfl rfl fun a F=>oB vR F rfl rfl (H.b 4 rfl) rfl fun a F=>lT iB zA F rfl rfl (H.b 1 rfl) rfl rfl (fun a F=>?_)));have H:=(qZ.w i9 H);refine gB (R:=qZ) (y:=(Con.mk C.1 a7)) oY zA zM rfl rfl F rfl rfl H El.agg (fun a w ds H F=>?_);obtain⟨z9,c9,d⟩:=xB d;refine oPL (sz:=2) (R:=qZ) (z:=(.agg #[xF 0,vH])) (bytes:=32) oY (by kernel_rfl) rfl rfl F rfl rfl rfl (H.s [3,0,1,2,4,5] rfl rfl) c9 fun a w ca H F=>oQ bU F rfl rfl rfl fun a F=>oW cL F rfl rfl rfl (H.s [3,0,1,2,4] rfl rfl) ((H.s [3,0,1,2,4] rfl rfl).l 1 rfl).one rfl rfl fun w H=>vP (zG (xH (oO (xA 1 F rfl fun a F=>?_))));obtain⟨cb,b1,d⟩:=xB d;refine gY F rfl rfl rfl b1 fun a F=>xA 1 F rfl fun a F=>xJ ?_;replace d:=aB d ax;exact⟨t1,(by omega),cb,a3,a6,z9,ca,d,F.su,(H.s [1,3,0,4] rfl rfl),(bD b1),i24⟩
  replace d:=zV af d;refine vU (vV (vV ?_));replace d:=rT d ax;refine bC (xH ?_);exact⟨I,U,s7,A,i,(kQ d),F.su,H,i5,i6⟩
 rintro a w ⟨s1,s2,s3,s4,Z,rfl,F,H,du,cc⟩
 have d:=oJ bf;refine xH (xX (lT vO oZ F rfl rfl (H.b 2 rfl) rfl rfl fun a F=>gN (vs:=[xF D,Z]) oZ F rfl rfl rfl (H.s [3,0,1,2] rfl rfl) (oc rfl (oc ((H.s [3,0,1,2] rfl rfl).l 1 rfl).one on)) rfl rfl fun w H=>xJ (xP (xR F rfl (bN (arr:=#[xF D,Z]) F vO oZ rfl (H.b 0 rfl)) ?_))));obtain rfl:=oj d;exact⟨_,rfl,Z,rfl,(H.s [1,2] rfl rfl),(bD c2),cc⟩
def dZ (d:List UInt8) (e f:Int):Option (Int×Int×Int):=
 xY (kN d e f ([2,2,3,3,1,4,2])) fun c=>
 some (c.1,c.2.1,c.2.2)
theorem nW {B:Nat→Prop} {p:List UInt8} {h j:Int} (r:Int×Int×Int) (i:dZ p h j=some r) {d:Nat} {f:Value} {t:List Nat} (e:World) (W:∀ c,B c→c<e.heap.size) (S0:Sep t B e e [bx d [f,xF h,.int .u64 j] 118]) (y:Bo B e (Sl 1 eQ) f p) (A:xS h):Calls Tryz.prog 127 #[vA d] e (Gv (fun v w'=>v=xF r.1∧Sep t B e w' [bx d [f,xF r.2.1,.int .u64 r.2.2] 118]∧xS r.1∧xS r.2.1)):=by
 unfold dZ at i
 refine xW (L:=[(0,vA d)]) func127 rfl rfl rfl (sc rfl sn) (fun a F=>?_);have H:=S0;refine xX (xA 1 F rfl fun a F=>zR (xA 1 F rfl fun a F=>oRI (xs:=[.const (xF 2),.const (xF 2),.const (xF 3),.const (xF 3),.const (xF 1),.const (xF 4),.const (xF 2)]) (l:=[2,2,3,3,1,4,2]) xC xI qQ rfl F rfl rfl rfl rfl rfl rfl (by simp only[List.forall_mem_cons,List.not_mem_nil,false_implies,implies_true,and_true];exact⟨(show xS (2) by decide),(show xS (2) by decide),(show xS (3) by decide),(show xS (3) by decide),(show xS (1) by decide),(show xS (4) by decide),(show xS (2) by decide)⟩) H (fun a w X H F=>?_)));obtain⟨G,rfl⟩:∃ x,x=w:=⟨_,rfl⟩;have T:=H.sm;obtain⟨I,J,M,C,H,D,U⟩:=H.fza;have N:=M.ld;obtain⟨n,O,i⟩:=xB i;obtain⟨Y,K1,E⟩:=Sep.lend (K:=[bx d [f,xF h,.int .u64 j] 118]) (L:=[]) H;refine oG F rfl cX rfl (vJ n O _ H.hN K1 (H.u (C y)) A (H.u N)) (fun a P w ⟨V,S,Q,R⟩ F=>?_);subst P;have H:Sep I J G w [bx d [f,xF n.2.1,.int .u64 n.2.2] 118]:=E S;refine xA 1 F rfl fun a F=>xJ (xP ?_);have H:=(D.1 H (Ns.all ⟨n0,trivial⟩));refine xR F rfl (xZ F rfl) ?_;obtain rfl:=oj i;exact⟨_,rfl,rfl,(H.s [1] rfl rfl),Q,R⟩
def nH (N:Nat) (e:List UInt8) (f h i:Int):Option (Rel×Int×Int):=
 xY (oR e f h 3) fun d=>
 xY (ck (1+d.1)) fun j=>
 xY (dO N e d.2.1 d.2.2 i j) fun c=>
 some ((Rel.mk c.1.arity c.1.tuples),c.2.1,c.2.2)
theorem xFf {B:Nat→Prop} {N:Nat} {G:List UInt8} {n C p:Int} (r:Rel×Int×Int) (e:nH N G n C p=some r) {d:Nat} {h:Value} {t:List Nat} (f:World) (hN:∀ c,B c→c<f.heap.size) (S0:Sep t B f f [bx d [h,xF n,.int .u64 C] 118]) (E:Bo B f (Sl 1 eQ) h G) (M:xS n) (P:xS p):Calls Tryz.prog 172 #[vA d,xF p] f (Gv (fun v w'=>∃ (I:Value),v= .agg #[xF r.1.arity,I]∧Sep t B f w' [rl 1 (vS 1 xM) 46 I r.1.tuples,bx d [h,xF r.2.1,.int .u64 r.2.2] 118]∧xS r.1.arity∧xS r.2.1)):=by
 unfold nH at e
 refine xW (L:=[(0,vA d),(1,xF p)]) func172 rfl rfl rfl (sc rfl (sc rfl sn)) (fun a F=>?_);have H:=S0;refine xX (oA zL F rfl rfl H fun a w y H F=>zR (xA 3 F rfl fun a F=>?_));obtain⟨j,R,e⟩:=xB e;obtain⟨X1,K1,O⟩:=Sep.lend (K:=[bx d [h,xF n,.int .u64 C] 118]) (L:=[bx y [xF 0,vH] 65]) (H.s [1,0] rfl rfl);refine oG F rfl kZ rfl (qK j R _ H.hN K1 (H.u E) M (show xS (3) by decide)) (fun a D w ⟨Y,S,i1,T⟩ F=>?_);subst D;have H:Sep t B f w [bx d [h,xF j.2.1,.int .u64 j.2.2] 118,bx y [xF 0,vH] 65]:=O S;obtain⟨z2,J,e⟩:=xB e;refine fF F rfl rfl rfl J (fun a F=>?_);obtain⟨i,U,e⟩:=xB e;obtain⟨X2,V,Q⟩:=Sep.lend (K:=[bx d [h,xF j.2.1,.int .u64 j.2.2] 118]) (L:=[bx y [xF 0,vH] 65]) H;refine oG F rfl pT rfl (eD i U _ H.hN V (H.u E) T P (bD J)) (fun a D w ⟨A,Z,S,W,X⟩ F=>?_);subst D;have H:Sep t B f w [rl 1 (vS 1 xM) 46 A i.1.tuples,bx d [h,xF i.2.1,.int .u64 i.2.2] 118,bx y [xF 0,vH] 65]:=Q S;refine gN (vs:=[xF i.1.arity,A]) oE F rfl rfl rfl (H.s [2,0,1] rfl rfl) (oc rfl (oc ((H.s [2,0,1] rfl rfl).l 1 rfl).one on)) rfl rfl fun w H=>xJ (xP (xR F rfl (bN (arr:=#[xF i.1.arity,A]) F zF oE rfl (H.b 0 rfl)) ?_));obtain rfl:=oj e;exact⟨_,rfl,A,rfl,(H.s [1,2] rfl rfl),W,X⟩
end Go.Proofs.YtfmnjkpddljdcaaGreatDoor
