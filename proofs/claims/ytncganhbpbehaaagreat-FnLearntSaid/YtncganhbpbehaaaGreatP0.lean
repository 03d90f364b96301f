import Derived.Test.YtncganhbpbehaaaGreatZ
import Derived.Test.YtncganhbpbehaaaGreatNL
import Derived.Test.YtncganhbpbehaaaGreatNG
namespace Go.Proofs.YtncganhbpbehaaaGreat
open Go.Proofs.Tryz
set_option maxHeartbeats 1000000
set_option linter.unusedVariables false
set_option linter.unusedSimpArgs false
set_option maxRecDepth 100000
open Go.RowKit
def gE (c:List UInt8):Option ((List UInt8)×Int×Int):=
 some ((c,0,0))
theorem rD {B:Nat→Prop} {i:List UInt8} (r:((List UInt8)×Int×Int)) (j:gE i=some r) {e:Value} (d:World) (p:∀ c,B c→c<d.heap.size) (n:Bo B d (Sl 1 bS) e i):Calls Tryz.prog 22 #[e] d (Gv (fun v w'=>∃ (f:Nat) (h:Value),v=oO f∧Sep [] B d w' [bx f [h,xC r.2.1,.int .u64 r.2.2] 117]∧Bo B d (Sl 1 bS) h r.1∧xS r.2.1)):=by
 unfold gE at j
 refine xX (L:=[(0,e)]) func22 rfl rfl rfl (sc rfl sn) (fun a F=>?_);have H:=Sep.start p;refine xV (xA 1 F rfl fun a F=>vG (xA 1 F rfl fun a F=>vY underlying117 zeroValue117 (fun w=>by simp [sizeOf115,sizeOf22,sizeOf3];rfl) F rfl rfl rfl rfl rfl (oc (H.a n).one on) rfl rfl fun a F=>oX F rfl rfl rfl H fun a w t H F=>xA 1 F rfl fun a F=>?_));refine xJ (xR (xT F rfl (oE F rfl) ?_));obtain rfl:=oj j;exact⟨_,rfl,t,e,rfl,H,n,(show xS 0 by decide)⟩
def dF (c:List UInt8) (d e:Int):Option (Int×Int×Int):=
 zR (σ:=Int) (
  if (decide (d<(c.length:Int))) then
   xZ (ix c d) fun j=>
   some (.nx (j.toNat:Int))
  else
   some (.nx 0)) fun i=>
 xZ (ck (d+1)) fun f=>
 xZ (nn i) fun h=>
 if (decide (f≤(c.length:Int))) then
  some (i,f,(IntKind.u64.wrap ((IntKind.u64.wrap ((IntKind.u64.wrap (e*6364136223846793005))+h))+1442695040888963407)))
 else
  some ((IntKind.i64.wrap (Go.bits .and .u64 ((IntKind.u64.wrap ((IntKind.u64.wrap ((IntKind.u64.wrap (e*6364136223846793005))+h))+1442695040888963407)) / 2 ^ (40:Int).toNat) 255)),f,(IntKind.u64.wrap ((IntKind.u64.wrap ((IntKind.u64.wrap (e*6364136223846793005))+h))+1442695040888963407)))
theorem lV {B:Nat→Prop} {D:List UInt8} {h p:Int} (r:Int×Int×Int) (d:dF D h p=some r) {f:Nat} {i:Value} {y:List Nat} (e:World) (R:∀ c,B c→c<e.heap.size) (I:Sep y B e e [bx f [i,xC h,.int .u64 p] 117]) (n:Bo B e (Sl 1 bS) i D) (P:xS h):Calls Tryz.prog 67 #[oO f] e (Gv (fun v w'=>v=xC r.1∧Sep y B e w' [bx f [i,xC r.2.1,.int .u64 r.2.2] 117]∧xS r.1∧xS r.2.1)):=by
 unfold dF at d
 refine xX (L:=[(0,oO f)]) func67 rfl rfl rfl (sc rfl sn) (fun a F=>?_);have H:=I;refine xV (xA 1 F rfl fun a F=>vG (xA 1 F rfl fun a F=>xJ (xF ?_)));refine xF (xQ H (by kernel_rfl) (by kernel_rfl) (xP F rfl (fun w l=>xL F rfl) fun a F=>xP F rfl (fun w l=>vM F rfl) fun a F=>xP F rfl (fun w l=>oM tH F rfl rfl) fun a F=>qB isAgg3 F rfl rfl (H.qb 0 rfl) rfl fun a F=>xP F rfl (fun w l=>xL F rfl) fun a F=>xP F rfl (fun w l=>vM F rfl) fun a F=>xP F rfl (fun w l=>oM xCi F rfl rfl) fun a F=>qB isAgg22 F rfl rfl (H.qb 0 rfl) rfl fun a F=>qL underlying22 F rfl rfl n (fun a S F=>?_)));refine xP F rfl (fun w l=>sB F rfl rfl) fun a F=>kZ fun w H=>xG ?_;obtain⟨J,d,G⟩:=xM d;refine oH (fun a w=>∃ (j:Int),J= .nx j∧Sk a 62 [(0,oO f),(3,xC j)]∧Sep y B e w [bx f [i,xC h,.int .u64 p] 117]∧xS j) ?_ ?_
 ·
  refine qV F rfl (fun t=>?_) (fun t=>?_)
  ·
   replace d:=vX t d;refine xQ H (by kernel_rfl) (by kernel_rfl) (xP F rfl (fun w l=>xL F rfl) fun a F=>xP F rfl (fun w l=>vM F rfl) fun a F=>xP F rfl (fun w l=>oM xCi F rfl rfl) fun a F=>qB isAgg22 F rfl rfl (H.qb 0 rfl) rfl fun a F=>xP F rfl (fun w l=>xL F rfl) fun a F=>xP F rfl (fun w l=>vM F rfl) fun a F=>xP F rfl (fun w l=>oM tH F rfl rfl) fun a F=>qB isAgg3 F rfl rfl (H.qb 0 rfl) rfl (fun a F=>?_));obtain⟨K,M,d⟩:=xB d;refine qI underlying22 sizeOf5 F rfl rfl rfl n M fun a T N F=>qlU isAgg5 F rfl rfl H.q N fun a F=>xP F rfl (fun w l=>xMk underlying5 underlying3 F rfl) fun a F=>xP F rfl (fun w l=>vK F rfl) fun a F=>kZ fun w H=>xG ?_;exact⟨(K.toNat:Int),(zH d),F.su,H,(xJx _)⟩
  replace d:=vW t d;refine xN (xG ?_);exact⟨0,(zH d),F.su,H,(show xS (0) by decide)⟩
 rintro a w ⟨j,rfl,F,H,A⟩
 have d:=xW G;refine xG (xV (xA 1 F rfl fun a F=>vO F rfl rfl fun a F=>oD tH F rfl rfl rfl fun a F=>oB isAgg3 F rfl rfl (H.b 0 rfl) rfl (fun a F=>?_)));obtain⟨U,C,d⟩:=xB d;refine cX F rfl rfl rfl C fun a F=>vO F rfl rfl fun a F=>oD tH F rfl rfl rfl fun a F=>oW sizeOf3 F rfl rfl rfl H rfl rfl rfl fun w H=>vG (xA 2 F rfl fun a F=>vO F rfl rfl (fun a F=>?_));refine oD xCj F rfl rfl rfl fun a F=>oB isAgg115 F rfl rfl (H.b 0 rfl) rfl fun a F=>xPw F rfl rfl rfl fun a F=>xA 1 F rfl fun a F=>?_;obtain⟨O,E,d⟩:=xB d
 have V:xS O:=by rw[(lN E).2];exact A
 refine oU1 underlying3 underlying115 F rfl rfl A E fun a F=>xNp F rfl rfl rfl fun a F=>xNp F rfl rfl rfl fun a F=>vO F rfl rfl fun a F=>oD xCj F rfl rfl rfl fun a F=>oW sizeOf115 F rfl rfl rfl H rfl rfl rfl fun w H=>xJ (xF (xF (xQ H (by kernel_rfl) (by kernel_rfl) ?_)));refine xP F rfl (fun w l=>xL F rfl) fun a F=>xP F rfl (fun w l=>vM F rfl) fun a F=>xP F rfl (fun w l=>oM tH F rfl rfl) fun a F=>qB isAgg3 F rfl rfl (H.qb 0 rfl) rfl fun a F=>xP F rfl (fun w l=>xL F rfl) fun a F=>xP F rfl (fun w l=>vM F rfl) fun a F=>xP F rfl (fun w l=>oM xCi F rfl rfl) fun a F=>qB isAgg22 F rfl rfl (H.qb 0 rfl) rfl fun a F=>qL underlying22 F rfl rfl n fun a Q F=>xP F rfl (fun w l=>xKt F rfl rfl) fun a F=>kZ (fun w H=>?_);refine xG (qV F rfl (fun x=>?_) (fun x=>?_))
 ·
  replace d:=vX x d;refine xV (xA 2 F rfl fun a F=>xJ (xR (oQ (xT F rfl (oE F rfl) ?_))));obtain rfl:=oj d;exact⟨_,rfl,rfl,H,A,(kV C)⟩
 replace d:=vW x d;refine xN (xG (xV (xA 1 F rfl fun a F=>vO F rfl rfl fun a F=>oD xCj F rfl rfl rfl fun a F=>oB isAgg115 F rfl rfl (H.b 0 rfl) rfl fun a F=>xPt F rfl rfl (by decide) fun a F=>xPb F rfl rfl rfl fun a F=>oUw underlying115 underlying2 F rfl rfl (fun a F=>?_))));refine xA 1 F rfl fun a F=>xJ (xR (xT F rfl (oE F rfl) ?_));obtain rfl:=oj d;exact⟨_,rfl,rfl,H,(wr64 _),(kV C)⟩
def oU (f:List UInt8) (h i d:Int):Option (Int×Int×Int):=
 if (decide (d≤1)) then
  some (0,h,i)
 else
  xZ (dF f h i) fun c=>
  if (decide (200<d)) then
   xZ (ck (c.1*256)) fun j=>
   xZ (dF f c.2.1 c.2.2) fun e=>
   xZ (ck (j+e.1)) fun n=>
   xZ (rm n d) fun p=>
   some (p,e.2.1,e.2.2)
  else
   xZ (rm c.1 d) fun t=>
   some (t,c.2.1,c.2.2)
theorem oY {B:Nat→Prop} {G:List UInt8} {j t n:Int} (r:Int×Int×Int) (d:oU G j t n=some r) {e:Nat} {h:Value} {p:List Nat} (f:World) (hN:∀ c,B c→c<f.heap.size) (R:Sep p B f f [bx e [h,xC j,.int .u64 t] 117]) (D:Bo B f (Sl 1 bS) h G) (E:xS j) (I:xS n):Calls Tryz.prog 25 #[oO e,xC n] f (Gv (fun v w'=>v=xC r.1∧Sep p B f w' [bx e [h,xC r.2.1,.int .u64 r.2.2] 117]∧xS r.1∧xS r.2.1)):=by
 unfold oU at d
 refine xX (L:=[(0,oO e),(1,xC n)]) func25 rfl rfl rfl (sc rfl (sc rfl sn)) (fun a F=>?_);have H:=R;refine xV (xA 1 F rfl fun a F=>xJ (xF (xV (xA 2 F rfl fun a F=>qU ?_))));refine xG (qV F rfl (fun x=>?_) (fun x=>?_))
 ·
  replace d:=vX x d;refine xV (xA 1 F rfl fun a F=>xJ (xR (oQ (xT F rfl (oE F rfl) ?_))));obtain rfl:=oj d;exact⟨_,rfl,rfl,H,(show xS (0) by decide),E⟩
 replace d:=vW x d;refine xN (xG (xV (xA 1 F rfl fun a F=>?_)));obtain⟨i,T,d⟩:=xB d;obtain⟨X1,K1,P⟩:=Sep.lend (K:=[bx e [h,xC j,.int .u64 t] 117]) (L:=[]) H;refine oG F rfl call67 rfl (lV i T _ H.hN K1 (H.u D) E) (fun a A w ⟨Z,S,U,M⟩ F=>?_);subst A;have H:Sep p B f w [bx e [h,xC i.2.1,.int .u64 i.2.2] 117]:=P S;refine xA 1 F rfl fun a F=>xJ (xF (xV (xA 2 F rfl fun a F=>xJ (qV F rfl (fun y=>?_) (fun y=>?_)))))
 ·
  replace d:=vX y d;refine xY (xA 1 F rfl fun a F=>?_);obtain⟨z2,V,d⟩:=xB d;refine xDx F rfl rfl rfl V fun a F=>xA 1 F rfl fun a F=>?_;obtain⟨C,W,d⟩:=xB d;obtain⟨X2,X,Q⟩:=Sep.lend (K:=[bx e [h,xC i.2.1,.int .u64 i.2.2] 117]) (L:=[]) H;refine oG F rfl call67 rfl (lV C W _ H.hN X (H.u D) M) (fun a A w ⟨a0,S,i3,Y⟩ F=>?_);subst A;have H:Sep p B f w [bx e [h,xC C.2.1,.int .u64 C.2.2] 117]:=Q S;obtain⟨z4,J,d⟩:=xB d;refine cX F rfl rfl rfl J fun a F=>xA 1 F rfl fun a F=>vG (xA 2 F rfl fun a F=>?_);obtain⟨z5,N,d⟩:=xB d;refine xGz F rfl rfl rfl N fun a F=>xA 1 F rfl fun a F=>xJ (xR (xT F rfl (oE F rfl) ?_));obtain rfl:=oj d;exact⟨_,rfl,rfl,H,(xAk N (kV J) I),Y⟩
 replace d:=vW y d;refine xN (xG (xV (xA 2 F rfl fun a F=>?_)));obtain⟨z6,O,d⟩:=xB d;refine xGz F rfl rfl rfl O fun a F=>xA 1 F rfl fun a F=>xJ (xR (xT F rfl (oE F rfl) ?_));obtain rfl:=oj d;exact⟨_,rfl,rfl,H,(xAk O U I),M⟩
def aM (d:List UInt8) (e f h:Int):Option (Bool×Int×Int):=
 xZ (oU d e f h) fun c=>
 some ((c.1==0),c.2.1,c.2.2)
theorem iM {B:Nat→Prop} {x:List UInt8} {h n i:Int} (r:Bool×Int×Int) (j:aM x h n i=some r) {e:Nat} {f:Value} {p:List Nat} (d:World) (O:∀ c,B c→c<d.heap.size) (E:Sep p B d d [bx e [f,xC h,.int .u64 n] 117]) (y:Bo B d (Sl 1 bS) f x) (A:xS h) (C:xS i):Calls Tryz.prog 61 #[oO e,xC i] d (Gv (fun v w'=>v= .bool r.1∧Sep p B d w' [bx e [f,xC r.2.1,.int .u64 r.2.2] 117]∧xS r.2.1)):=by
 unfold aM at j
 refine xX (L:=[(0,oO e),(1,xC i)]) func61 rfl rfl rfl (sc rfl (sc rfl sn)) (fun a F=>?_);have H:=E;refine xV (xA 1 F rfl fun a F=>vG (xA 2 F rfl fun a F=>?_));obtain⟨t,G,j⟩:=xB j;obtain⟨P,K1,D⟩:=Sep.lend (K:=[bx e [f,xC h,.int .u64 n] 117]) (L:=[]) H;refine oG F rfl call25 rfl (oY t G _ H.hN K1 (H.u y) A C) (fun a I w ⟨M,S,N,J⟩ F=>?_);subst I;have H:Sep p B d w [bx e [f,xC t.2.1,.int .u64 t.2.2] 117]:=D S;refine xA 2 F rfl fun a F=>xJ (xR (xT F rfl (oE F rfl) ?_));obtain rfl:=oj j;exact⟨_,rfl,rfl,H,J⟩
def zM (e:List UInt8) (f h:Int) (d:List Int):Option (Int×Int×Int):=
 xZ (oU e f h (d.length:Int)) fun c=>
 xZ (ix d c.1) fun i=>
 some (i,c.2.1,c.2.2)
theorem qZ {B:Nat→Prop} {x:List UInt8} {i j:Int} {y:List Int} (r:Int×Int×Int) (f:zM x i j y=some r) {e:Nat} {h:Value} {n:Value} {p:List Nat} (d:World) (T:∀ c,B c→c<d.heap.size) (G:Sep p B d d [bx e [h,xC i,.int .u64 j] 117]) (C:Bo B d (Sl 1 bS) h x) (D:xS i) (A:Bo B d (Sl 1 xI) n y):Calls Tryz.prog 98 #[oO e,n] d (Gv (fun v w'=>v=xC r.1∧Sep p B d w' [bx e [h,xC r.2.1,.int .u64 r.2.2] 117]∧xS r.1∧xS r.2.1)):=by
 unfold zM at f
 refine xX (L:=[(0,oO e),(1,n)]) func98 rfl rfl rfl (sc rfl (sc rfl sn)) (fun a F=>?_);have H:=G;refine xV (xA 1 F rfl fun a F=>vG (xA 3 F rfl fun a F=>oL underlying41 F rfl rfl A (fun a I F=>?_)));obtain⟨t,J,f⟩:=xB f;obtain⟨U,K1,E⟩:=Sep.lend (K:=[bx e [h,xC i,.int .u64 j] 117]) (L:=[]) H;refine oG F rfl call25 rfl (oY t J _ H.hN K1 (H.u C) D I) (fun a M w ⟨R,S,V,N⟩ F=>?_);subst M;have H:Sep p B d w [bx e [h,xC t.2.1,.int .u64 t.2.2] 117]:=E S;obtain⟨W,O,f⟩:=xB f;refine oI underlying41 sizeOf2 F rfl rfl rfl A O fun a X P F=>olI isAgg2 F rfl rfl H.sm P fun a Q F=>xA 1 F rfl fun a F=>xJ (xR (xT F rfl (oE F rfl) ?_));obtain rfl:=oj f;exact⟨_,rfl,rfl,H,Q,N⟩
def dB (N:Nat) (f h:Int):Option Int:=
 zR (σ:=Int×Int) (
  fA (σ:=Int×Int) (ρ:=Int) (fun(s:Int×Int)=>
    match s with
    | (c,d)=>
    if (decide (0<c)) then
     xZ (ck (d*f)) fun i=>
     xZ (ck (c - 1)) fun j=>
     some (.go (j,i))
    else
     some (.brk (c,d))) N (h,1)) fun(n,e)=>
 some e
theorem wA {B:Nat→Prop} {N:Nat} {e f:Int} (r:Int) (d:dB N e f=some r)  (h:World) (J:∀ c,B c→c<h.heap.size) (S:xS e) (D:xS f):Calls Tryz.prog 101 #[xC e,xC f] h (fS r h):=by
 unfold dB at d
 refine xX (L:=[(0,xC e),(1,xC f)]) func101 rfl rfl rfl (sc rfl (sc rfl sn)) (fun a F=>?_);have H:=Sep.start J;refine xV (xA 1 F rfl fun a F=>vG (xA 1 F rfl fun a F=>xJ (xF ?_)));obtain⟨y,d,E⟩:=xM d;refine oH (fun a w=>∃ (t n:Int),y= .nx (t,n)∧Sk a 14 [(5,xC n)]∧Sep [] B h w []∧xS t∧xS n) ?_ ?_
 ·
  refine oJ ?_;obtain⟨G,I,d⟩:=bJ d;refine qK (fun g a w=>∃ (i j:Int),fA G g (i,j)=some y∧Sk a 14 [(0,xC e),(1,xC i),(5,xC j)]∧Sep [] B h w []∧xS i∧xS j) N ?_ ?_
  ·
   exact⟨f,1,d,F.su,H,D,(show xS (1) by decide)⟩
  intro V a w ⟨i,j,d,F,H,K,M⟩;obtain⟨T,O,U,d,x⟩:=kR d;rw[I] at d;refine xF (xV (xA 2 F rfl fun a F=>xJ (qV F rfl (fun p=>?_) (fun p=>?_))))
  ·
   replace d:=vX p d;refine xN (xG (xF (oJ (xY (xA 2 F rfl fun a F=>?_)))));obtain⟨P,A,d⟩:=xB d;refine xDx F rfl rfl rfl A fun a F=>xA 1 F rfl fun a F=>qU (vH (xG (xY (xA 1 F rfl fun a F=>?_))));obtain⟨Q,C,d⟩:=xB d;refine gM F rfl rfl rfl C fun a F=>xA 1 F rfl fun a F=>xJ ?_;replace d:=vU d x;exact⟨O,(by omega),Q,P,d,F.su,H,(kV C),(kV A)⟩
  replace d:=vW p d;refine qJ (qM (qM ?_));replace d:=gV d x;refine zQ (xG ?_);exact⟨i,j,(zH d),F.su,H,K,M⟩
 rintro a w ⟨t,n,rfl,F,H,W,R⟩
 have d:=xW E;refine xG (xV (xA 2 F rfl fun a F=>xJ (xR (xT F rfl (oE F rfl) ?_))));obtain rfl:=oj d;exact⟨⟨rfl,H.bl⟩,R⟩
def gB (N:Nat) (f h i:Int):Option (List Int):=
 xZ (mkz (0:Int) h) fun j=>
 xZ (ck (h - 1)) fun n=>
 zR (σ:=Int×Int×(List Int)) (
  fA (σ:=Int×Int×(List Int)) (ρ:=(List Int)) (fun(s:Int×Int×(List Int))=>
    match s with
    | (e,c,d)=>
    if (decide (0≤c)) then
     xZ (rm e f) fun p=>
     xZ (ix d c) fun A=>
     xZ (dv e f) fun t=>
     xZ (ck (c - 1)) fun x=>
     some (.go (t,x,(d.set (c).toNat p)))
    else
     some (.brk (e,c,d))) N (i,n,j)) fun(B,C,y)=>
 some y
theorem nL {B:Nat→Prop} {N:Nat} {h t i:Int} (r:(List Int)) (d:gB N h t i=some r)  (j:World) (Y:∀ c,B c→c<j.heap.size) (S:xS h) (a8:xS t) (T:xS i):Calls Tryz.prog 102 #[xC h,xC t,xC i] j (Gv (fun v w'=>∃ (E:Value),v=E∧Sep [] B j w' [rl 1 xI 2 E r])):=by
 unfold gB at d
 refine xX (L:=[(0,xC h),(1,xC t),(2,xC i)]) func102 rfl rfl rfl (sc rfl (sc rfl (sc rfl sn))) (fun a F=>?_);have H:=Sep.start Y;refine xV (xA 1 F rfl fun a F=>vG (xA 1 F rfl fun a F=>?_));obtain⟨Z,c1,d⟩:=xB d;refine oRM (sz:=1) (R:=xI) (z:=(xC 0)) (bytes:=8) underlying41 (by kernel_rfl) rfl (by decide) (by decide) (fun w=>⟨rfl,by decide,rfl⟩) F rfl rfl rfl c1 H fun a w v1 H F=>xA 1 F rfl fun a F=>xJ (xF (xV (xA 1 F rfl fun a F=>?_)));obtain⟨z2,G,d⟩:=xB d;refine gM F rfl rfl rfl G fun a F=>xA 1 F rfl fun a F=>xJ ?_;obtain⟨J,d,U⟩:=xM d;refine oH (fun a w=>∃ (A C:Int) (D:List Int) (x:Value),J= .nx (A,C,D)∧Sk a 27 [(7,x)]∧Sep [] B j w [rl 1 xI 2 x D]∧xS A∧xS C) ?_ ?_
 ·
  refine oJ ?_;obtain⟨V,W,d⟩:=bJ d;refine qK (fun g a w=>∃ (n e:Int) (f:List Int) (p:Value),fA V g (n,e,f)=some J∧Sk a 27 [(0,xC h),(2,xC n),(7,p),(8,xC e)]∧Sep [] B j w [rl 1 xI 2 p f]∧xS n∧xS e) N ?_ ?_
  ·
   exact⟨i,z2,Z,v1,d,F.su,H,T,(kV G)⟩
  intro g1 a w ⟨n,e,f,p,d,F,H,K,i2⟩;obtain⟨a9,t1,aa,d,I⟩:=kR d;rw[W] at d;refine xF (xV (xA 2 F rfl fun a F=>xJ (qV F rfl (fun y=>?_) (fun y=>?_))))
  ·
   replace d:=vX y d;refine xN (xG (xF (oJ (xV (xA 4 F rfl fun a F=>?_)))));obtain⟨z3,M,d⟩:=xB d;refine xGz F rfl rfl rfl M (fun a F=>?_);obtain⟨z4,O,d⟩:=xB d;refine oRl underlying41 sizeOf2 F rfl rfl rfl H 0 rfl O (fun a p1 h1 X F=>?_);have H:=H.lw;refine oS sizeOf2 F rfl rfl rfl H X (fZ O) (Eo.int (xAk M K S)) rfl rfl (fun w H=>?_);have H:=H.tl;refine xJ (xY (xA 2 F rfl fun a F=>?_));obtain⟨z5,P,d⟩:=xB d;refine xNr F rfl rfl rfl P fun a F=>xA 1 F rfl fun a F=>qU (vH (xG (xY (xA 1 F rfl fun a F=>?_))));obtain⟨z6,Q,d⟩:=xB d;refine gM F rfl rfl rfl Q fun a F=>xA 1 F rfl fun a F=>xJ ?_;replace d:=vU d I;exact⟨t1,(by omega),z5,z6,(f.set (e).toNat z3),p,d,F.su,H,(xLo P),(kV Q)⟩
  replace d:=vW y d;refine qJ (qM (qM ?_));replace d:=gV d I;refine zQ (xG ?_);exact⟨n,e,f,p,(zH d),F.su,H,K,i2⟩
 rintro a w ⟨A,C,D,x,rfl,F,H,i3,i4⟩
 have d:=xW U;refine xG (xV (xA 2 F rfl fun a F=>xJ (xR (xT F rfl (oE F rfl) ?_))));obtain rfl:=oj d;exact⟨_,rfl,x,rfl,H⟩
def bV (N:Nat) (d:List UInt8) (t x i e:Int):Option (Rel×Int×Int):=
 xZ (oU d t x 5) fun f=>
 xZ (dB N i e) fun y=>
 zR (σ:=Int×Int×(List (List Int))) (
  aS (σ:=Int×Int×(List (List Int))) (ρ:=Rel×Int×Int) (fun(A:Nat) (s:Int×Int×(List (List Int)))=>
    match s with
    | (B,C,j)=>
    zR (σ:=Bool×Int×Int) (
     xZ (oU d B C 5) fun c=>
     if (decide (c.1≤f.1)) then  some (.nx (true,c.2.1,c.2.2)) else  xZ (aM d c.2.1 c.2.2 8) fun h=>
      some (.nx (h.1,h.2.1,h.2.2))) fun(D,n,p)=>
    if D then
     xZ (gB N i e (A:Int)) fun E=>
     xZ (ap j ([E])) fun F=>
     some (.go (n,p,F))
    else
     some (.go (n,p,j))) y.toNat 0 (f.2.1,f.2.2,[])) fun(G,H,I)=>
 some ((Rel.mk e I),G,H)
theorem cJ {B:Nat→Prop} {N:Nat} {ae:List UInt8} {Z a4 I e:Int} (r:Rel×Int×Int) (d:bV N ae Z a4 I e=some r) {h:Nat} {n:Value} {x:List Nat} (p:World) (hN:∀ c,B c→c<p.heap.size) (S0:Sep x B p p [bx h [n,xC Z,.int .u64 a4] 117]) (a3:Bo B p (Sl 1 bS) n ae) (au:xS Z) (a5:xS I) (a0:xS e):Calls Tryz.prog 63 #[oO h,xC I,xC e] p (Gv (fun v w'=>∃ (af:Value),v= .agg #[xC r.1.arity,af]∧Sep x B p w' [rl 1 (vQ 1 xI) 41 af r.1.tuples,bx h [n,xC r.2.1,.int .u64 r.2.2] 117]∧xS r.1.arity∧xS r.2.1)):=by
 unfold bV at d
 refine xX (L:=[(0,oO h),(1,xC I),(2,xC e)]) func63 rfl rfl rfl (sc rfl (sc rfl (sc rfl sn))) (fun a F=>?_);have H:=S0;refine xV (oA zeroValue66 F rfl rfl H fun a w i H F=>vG (xA 1 F rfl fun a F=>vY underlying66 zeroValue66 (fun w=>by simp [sizeOf2,sizeOf38];rfl) F rfl rfl rfl rfl rfl (oc rfl on) rfl rfl fun a F=>oA zeroValue66 F rfl rfl H fun a w j H F=>cN (vs:=[xC e,qD]) sizeOf66 F rfl rfl rfl H (oc rfl (oc rfl on)) rfl rfl (fun w H=>?_)));refine vG (xA 1 F rfl fun a F=>?_);obtain⟨A,c1,d⟩:=xB d;obtain⟨X1,av,aw⟩:=Sep.lend (K:=[bx h [n,xC Z,.int .u64 a4] 117]) (L:=[bx j [xC e,qD] 66,bx i [xC 0,qD] 66]) (H.s [2,0,1] rfl rfl);refine oG F rfl call25 rfl (oY A c1 _ H.hN av (H.u a3) au (show xS (5) by decide)) (fun a C w ⟨bn,S,i1,i2⟩ F=>?_);subst C;have H:Sep x B p w [bx h [n,xC A.2.1,.int .u64 A.2.2] 117,bx j [xC e,qD] 66,bx i [xC 0,qD] 66]:=aw S;refine xA 1 F rfl fun a F=>vG (xA 2 F rfl fun a F=>?_);obtain⟨D,c2,d⟩:=xB d;refine oKI F rfl call101 rfl H (wA D c2 _ aA a5 a0) fun a w H W F=>xA 1 F rfl fun a F=>xJ (xF (xV (xA 1 F rfl fun a F=>xJ ?_)));obtain⟨o1,d,ax⟩:=xM d;refine oH (fun a w=>∃ (s1 s2:Int) (s3:List (List Int)) (Q:Value),o1= .nx (s1,s2,s3)∧Sk a 41 [(0,oO h),(6,oO i),(7,oO j)]∧Sep x B p w [rl 1 (vQ 1 xI) 41 Q s3,bx h [n,xC s1,.int .u64 s2] 117,bx j [xC e,Q] 66,bx i [xC 0,qD] 66]∧xS s1) ?_ ?_
 ·
  refine oJ ?_;obtain⟨ay,az,d⟩:=dP d;refine qK (fun g a w=>∃ (E:Nat) (T Y:Int) (t:List (List Int)) (f:Value),E+g=D.toNat∧aS ay g E (T,Y,t)=some o1∧Sk a 41 [(10,xC (E:Int)),(0,oO h),(1,xC I),(2,xC e),(6,oO i),(7,oO j),(8,xC A.1),(9,xC D)]∧Sep x B p w [rl 1 (vQ 1 xI) 41 f t,bx h [n,xC T,.int .u64 Y] 117,bx j [xC e,f] 66,bx i [xC 0,qD] 66]∧xS T) D.toNat ?_ ?_
  ·
   exact⟨0,A.2.1,A.2.2,[],qD,(Nat.zero_add _),d,F.su,(H.nl 1 (vQ 1 xI) 41),i2⟩
  intro g1 a w ⟨E,T,Y,t,f,a1,d,F,H,i3⟩
  cases g1 with
  | zero=>
   replace d:=cC d;have l1:=gH a1;refine xF (xV (xA 3 F rfl fun a F=>xJ (zD F rfl l1 (qJ (qM ?_)))));refine qM (zQ (xG ?_));exact⟨T,Y,t,f,(zH d),F.su,H,i3⟩
  | succ g1=>
   obtain⟨bp,d,ag⟩:=cI d;rw[az] at d;have l1:=eR a1;refine xF (xV (xA 3 F rfl fun a F=>xJ (zC F rfl l1 (xN (xG ?_)))));refine xF ?_;have j1:=uA a1 W;have m1:=jB a1 W;refine oJ (xF ?_);obtain⟨o2,d,b0⟩:=xM d;refine oH (fun a w=>∃ (s7:Bool) (J O:Int),o2= .nx (s7,J,O)∧Sk a 41 [(0,oO h),(1,xC I),(2,xC e),(6,oO i),(7,oO j),(8,xC A.1),(9,xC D),(10,xC (E:Int)),(30,.bool s7)]∧Sep x B p w [rl 1 (vQ 1 xI) 41 f t,bx h [n,xC J,.int .u64 O] 117,bx j [xC e,f] 66,bx i [xC 0,qD] 66]∧xS J) ?_ ?_
   ·
    refine xY (xA 1 F rfl fun a F=>?_);obtain⟨M,c3,d⟩:=xB d;obtain⟨X2,K1,b1⟩:=Sep.lend (K:=[bx h [n,xC T,.int .u64 Y] 117]) (L:=[rl 1 (vQ 1 xI) 41 f t,bx j [xC e,f] 66,bx i [xC 0,qD] 66]) (H.s [1,0,2,3] rfl rfl);refine oG F rfl call25 rfl (oY M c3 _ H.hN K1 (H.u a3) i3 (show xS (5) by decide)) (fun a C w ⟨bq,S,i4,i5⟩ F=>?_);subst C;have H:Sep x B p w [bx h [n,xC M.2.1,.int .u64 M.2.2] 117,rl 1 (vQ 1 xI) 41 f t,bx j [xC e,f] 66,bx i [xC 0,qD] 66]:=b1 S;refine xA 3 F rfl fun a F=>?_
    rcases vR (decide (M.1≤A.1)) with X | X
    ·
     replace d:=vX X d;have F:=F.eb 27 rfl X;refine xA 3 F rfl fun a F=>xJ ?_;exact⟨true,M.2.1,M.2.2,(zH d),F.su,(H.s [1,0,2,3] rfl rfl),i5⟩
    replace d:=vW X d;have F:=F.eb 27 rfl X;refine xA 1 F rfl fun a F=>?_;obtain⟨U,c4,d⟩:=xB d;obtain⟨X3,K2,b2⟩:=Sep.lend (K:=[bx h [n,xC M.2.1,.int .u64 M.2.2] 117]) (L:=[rl 1 (vQ 1 xI) 41 f t,bx j [xC e,f] 66,bx i [xC 0,qD] 66]) H;refine oG F rfl call61 rfl (iM U c4 _ H.hN K2 (H.u a3) i5 (show xS (8) by decide)) (fun a C w ⟨br,S,i6⟩ F=>?_);subst C;have H:Sep x B p w [bx h [n,xC U.2.1,.int .u64 U.2.2] 117,rl 1 (vQ 1 xI) 41 f t,bx j [xC e,f] 66,bx i [xC 0,qD] 66]:=b2 S;refine xA 1 F rfl fun a F=>xJ ?_;exact⟨U.1,U.2.1,U.2.2,(zH d),F.su,(H.s [1,0,2,3] rfl rfl),i6⟩
   rintro a w ⟨s7,J,O,rfl,F,H,i7⟩
   have d:=xW b0;refine xG (qV F rfl (fun a6=>?_) (fun a6=>?_))
   ·
    replace d:=vX a6 d;obtain⟨V,c5,d⟩:=xB d;obtain⟨z6,c6,d⟩:=xB d;refine xD H (by kernel_rfl) fun w H=>dp (fun G=>∀ (v3:Value) (a:Act) (w:World),Sk a 41 [(0,oO h),(1,xC I),(2,xC e),(6,oO i),(7,oO j),(8,xC A.1),(9,xC D),(10,xC (E:Int)),(32,f),(37,v3)]→Sep x B p w [rl 1 (vQ 1 xI) 41 v3 ([V]),rl 1 (vQ 1 xI) 41 f t,bx h [n,xC J,.int .u64 O] 117,bx j [xC e,f] 66,bx i [xC 0,qD] 66]→xS D→∀ P,P = #[true,true,true,true,true,true,true,false,false,false]→G 3 P a w) ?_ (fun H1=>?_)
    ·
     intro v3 a w F H i8 P a7;subst a7;refine xE H 7 rfl (by kernel_rfl) (oPL (sz:=1) (R:=(vQ 1 xI)) (z:=(qD)) (bytes:=24) underlying38 (by kernel_rfl) rfl rfl F rfl rfl rfl (H.s [1,0,2,3,4] rfl rfl) c6 fun a w v4 H F=>xJ ⟨⟨_,H⟩,?_⟩);refine qE 8 rfl (by kernel_rfl) (xO F rfl (fun w l=>oM bG F rfl rfl) fun a F=>xE H 9 rfl (by kernel_rfl) (oW sizeOf38 F rfl rfl rfl (H.s [2,0,1,3] rfl rfl) ((H.s [2,0,1,3] rfl rfl).l 1 rfl).one rfl rfl fun w H=>xJ ⟨⟨_,H⟩,?_⟩));refine vZ (by kernel_rfl) (vH (xG (xY (xA 1 F rfl fun a F=>vP F rfl rfl rfl m1 fun a F=>xA 1 F rfl fun a F=>xJ ?_))));replace d:=vU d ag;exact⟨_,Nat.lt_succ_self _,E+1,J,O,z6,v4,(by omega),d,F.su,(H.s [1,2,0,3] rfl rfl),i7⟩
    refine dp (fun G=>∀ (v5:Value) (a:Act) (w:World),Sk a 41 [(0,oO h),(1,xC I),(2,xC e),(6,oO i),(7,oO j),(8,xC A.1),(9,xC D),(10,xC (E:Int)),(32,f),(36,v5)]→Sep x B p w [rl 1 xI 2 v5 V,rl 1 (vQ 1 xI) 41 f t,bx h [n,xC J,.int .u64 O] 117,bx j [xC e,f] 66,bx i [xC 0,qD] 66]→xS D→∀ P,P = #[true,true,true,true,true,true,false,false,false,false]→G 4 P a w) ?_ (fun H2=>?_)
    ·
     intro v5 a w F H i9 P a7;subst a7;refine xE H 6 rfl (by kernel_rfl) ?_;have H:=H.os;refine eZ (R:=(vQ 1 xI)) (y:=V) underlying38 sizeOf41 zeroValue41 rfl rfl F rfl rfl H El.sl fun a w v6 H F=>xJ ⟨⟨_,H⟩,?_⟩;exact H1 v6 _ _ (F.su) H i9 _ (by kernel_rfl)
    refine qE 0 rfl (by kernel_rfl) (xO F rfl (fun w l=>oM bG F rfl rfl) fun a F=>qW 2 rfl (by kernel_rfl) (xO F rfl (fun w l=>xL F rfl) fun a F=>qW 3 rfl (by kernel_rfl) (xO F rfl (fun w l=>xL F rfl) fun a F=>qW 4 rfl (by kernel_rfl) (xO F rfl (fun w l=>xL F rfl) fun a F=>kP [1,5] (by kernel_rfl) (by simp) ⟨⟨_,rfl,?_⟩,⟨_,rfl,?_⟩,trivial⟩))))
    ·
     refine kJ H (oB isAgg38 F rfl rfl (H.b 2 rfl) rfl fun a F=>xJ ⟨⟨_,H⟩,?_⟩);refine xE H 5 rfl (by kernel_rfl) (oG F rfl call102 rfl (nL V c5 _ aA a5 a0 j1) (fun a C w ⟨v7,bt,S⟩ F=>?_));subst C;have H:=H.r1 S n0;refine xJ ⟨⟨_,H⟩,?_⟩;exact H2 v7 _ _ (F.su) H W _ (by kernel_rfl)
    refine kJ H (oG F rfl call102 rfl (nL V c5 _ aA a5 a0 j1) (fun a C w ⟨v8,bu,S⟩ F=>?_));subst C;have H:=H.r1 S n0;refine xJ ⟨⟨_,H⟩,?_⟩;refine kP [1,6] (by kernel_rfl) (by simp) ⟨⟨_,rfl,?_⟩,⟨_,rfl,?_⟩,trivial⟩
    ·
     refine kJ H (oB isAgg38 F rfl rfl (H.b 3 rfl) rfl fun a F=>xJ ⟨⟨_,H⟩,?_⟩);exact H2 v8 _ _ (F.su) H W _ (by kernel_rfl)
    refine kJ H ?_;have H:=H.os;refine eZ (R:=(vQ 1 xI)) (y:=V) underlying38 sizeOf41 zeroValue41 rfl rfl F rfl rfl H El.sl fun a w v9 H F=>xJ ⟨⟨_,H⟩,?_⟩;refine xE H 1 rfl (by kernel_rfl) (oB isAgg38 F rfl rfl (H.b 3 rfl) rfl fun a F=>xJ ⟨⟨_,H⟩,?_⟩);exact H1 v9 _ _ (F.su) H W _ (by kernel_rfl)
   replace d:=vW a6 d;refine xN (vH (xG (xY (xA 1 F rfl fun a F=>vP F rfl rfl rfl m1 fun a F=>xA 1 F rfl fun a F=>xJ ?_))));replace d:=vU d ag;exact⟨_,Nat.lt_succ_self _,E+1,J,O,t,f,(by omega),d,F.su,H,i7⟩
 rintro a w ⟨s1,s2,s3,Q,rfl,F,H,b3⟩
 have d:=xW ax;refine xG (xV (dJ isAgg66 sizeOf66 F rfl rfl (H.b 2 rfl) rfl rfl fun a F=>cN (vs:=[xC e,Q]) sizeOf66 F rfl rfl rfl (H.s [3,0,1,2] rfl rfl) (oc rfl (oc ((H.s [3,0,1,2] rfl rfl).l 1 rfl).one on)) rfl rfl fun w H=>xJ (xR (xT F rfl (kF (arr:=#[xC e,Q]) F isAgg66 sizeOf66 rfl (H.b 0 rfl)) ?_))));obtain rfl:=oj d;exact⟨_,rfl,Q,rfl,(H.s [1,2] rfl rfl),a0,b3⟩
def aJ (N:Nat) (d:List UInt8) (t x i:Int):Option (Template×Int×Int):=
 xZ (oU d t x 4) fun e=>
 zR (σ:=Int×Int×Int×(List Rel)) (
  fA (σ:=Int×Int×Int×(List Rel)) (ρ:=Template×Int×Int) (fun(s:Int×Int×Int×(List Rel))=>
    match s with
    | (f,j,n,p)=>
    if (decide (0<f)) then
     xZ (zM d j n ([1,2,2,2,3])) fun h=>
     xZ (bV N d h.2.1 h.2.2 i h.1) fun c=>
     xZ (ap p ([(Rel.mk c.1.arity c.1.tuples)])) fun y=>
     xZ (ck (f - 1)) fun A=>
     some (.go (A,c.2.1,c.2.2,y))
    else
     some (.brk (f,j,n,p))) N (e.1,e.2.1,e.2.2,[])) fun(E,B,C,D)=>
 some ((Template.mk i D),B,C)
theorem iH {B:Nat→Prop} {N:Nat} {ae:List UInt8} {a0 a4 i:Int} (r:Template×Int×Int) (d:aJ N ae a0 a4 i=some r) {j:Nat} {n:Value} {V:List Nat} (I:World) (hN:∀ c,B c→c<I.heap.size) (S0:Sep V B I I [bx j [n,xC a0,.int .u64 a4] 117]) (J:Bo B I (Sl 1 bS) n ae) (b1:xS a0) (U:xS i):Calls Tryz.prog 97 #[oO j,xC i] I (Gv (fun v w'=>∃ (af:Value),v= .agg #[xC r.1.size,af]∧Sep V B I w' [rl 2 oV 66 af r.1.rels,bx j [n,xC r.2.1,.int .u64 r.2.2] 117]∧xS r.1.size∧xS r.2.1)):=by
 unfold aJ at d
 refine xX (L:=[(0,oO j),(1,xC i)]) func97 rfl rfl rfl (sc rfl (sc rfl sn)) (fun a F=>?_);have H:=S0;refine xV (oA zeroValue26 F rfl rfl H fun a w p H F=>vG (xA 1 F rfl fun a F=>vY underlying26 zeroValue26 (fun w=>by simp [sizeOf2,sizeOf24];rfl) F rfl rfl rfl rfl rfl (oc rfl on) rfl rfl fun a F=>oA zeroValue26 F rfl rfl H fun a w t H F=>cN (vs:=[xC i,qD]) sizeOf26 F rfl rfl rfl H (oc rfl (oc rfl on)) rfl rfl (fun w H=>?_)));refine xJ (xF (xV (xA 1 F rfl fun a F=>?_)));obtain⟨Q,c1,d⟩:=xB d;obtain⟨X1,b2,b3⟩:=Sep.lend (K:=[bx j [n,xC a0,.int .u64 a4] 117]) (L:=[bx t [xC i,qD] 26,bx p [xC 0,qD] 26]) (H.s [2,0,1] rfl rfl);refine oG F rfl call25 rfl (oY Q c1 _ H.hN b2 (H.u J) b1 (show xS (4) by decide)) (fun a D w ⟨cs,S,i1,i2⟩ F=>?_);subst D;have H:Sep V B I w [bx j [n,xC Q.2.1,.int .u64 Q.2.2] 117,bx t [xC i,qD] 26,bx p [xC 0,qD] 26]:=b3 S;refine xA 1 F rfl fun a F=>xJ ?_;obtain⟨o1,d,b4⟩:=xM d;refine oH (fun a w=>∃ (s1 s2 s3:Int) (s4:List Rel) (T:Value),o1= .nx (s1,s2,s3,s4)∧Sk a 27 [(0,oO j),(4,oO p),(5,oO t)]∧Sep V B I w [rl 2 oV 66 T s4,bx j [n,xC s2,.int .u64 s3] 117,bx t [xC i,T] 26,bx p [xC 0,qD] 26]∧xS s1∧xS s2) ?_ ?_
 ·
  refine oJ ?_;obtain⟨b5,b6,d⟩:=bJ d;refine qK (fun g a w=>∃ (W M O:Int) (A:List Rel) (h:Value),fA b5 g (W,M,O,A)=some o1∧Sk a 27 [(0,oO j),(1,xC i),(4,oO p),(5,oO t),(6,xC W)]∧Sep V B I w [rl 2 oV 66 h A,bx j [n,xC M,.int .u64 O] 117,bx t [xC i,h] 26,bx p [xC 0,qD] 26]∧xS W∧xS M) N ?_ ?_
  ·
   exact⟨Q.1,Q.2.1,Q.2.2,[],qD,d,F.su,(H.nl 2 oV 66),i1,i2⟩
  intro g1 a w ⟨W,M,O,A,h,d,F,H,i3,i4⟩;obtain⟨ct,X,cu,d,P⟩:=kR d;rw[b6] at d;refine xF (xV (xA 2 F rfl fun a F=>xJ (qV F rfl (fun a5=>?_) (fun a5=>?_))))
  ·
   replace d:=vX a5 d;refine xN (xG (xF (oJ ?_)));obtain⟨C,c2,d⟩:=xB d;obtain⟨e,c3,d⟩:=xB d;obtain⟨Y,Z,d⟩:=xB d;refine xD H (by kernel_rfl) fun w H=>qE 0 rfl (by kernel_rfl) (xO F rfl (fun w l=>oM kG F rfl rfl) fun a F=>qW 2 rfl (by kernel_rfl) (xO F rfl (fun w l=>xL F rfl) fun a F=>qW 3 rfl (by kernel_rfl) (xO F rfl (fun w l=>xL F rfl) fun a F=>qW 4 rfl (by kernel_rfl) (xO F rfl (fun w l=>xL F rfl) fun a F=>kP [1,5] (by kernel_rfl) (by simp) ⟨⟨_,rfl,?_⟩,⟨_,rfl,?_⟩,trivial⟩))))
   ·
    refine kJ H (oB isAgg24 F rfl rfl (H.b 2 rfl) rfl fun a F=>xJ ⟨⟨_,H⟩,?_⟩);refine xE H 5 rfl (by kernel_rfl) (oRI (xs:=[.const (xC 1),.const (xC 2),.const (xC 2),.const (xC 2),.const (xC 3)]) (l:=[1,2,2,2,3]) underlying41 sizeOf2 zeroValue2 rfl F rfl rfl rfl rfl rfl rfl (by simp only[List.forall_mem_cons,List.not_mem_nil,false_implies,implies_true,and_true];exact⟨(show xS (1) by decide),(show xS (2) by decide),(show xS (2) by decide),(show xS (2) by decide),(show xS (3) by decide)⟩) H fun a w v3 H F=>xJ ⟨⟨_,H⟩,?_⟩);refine xE H 6 rfl (by kernel_rfl) ?_;obtain⟨w1,rfl⟩:∃ x,x=w:=⟨_,rfl⟩;have cx:=H.sm;obtain⟨X2,N1,g2,e1,H,E,cy⟩:=H.fza;have h1:=g2.ld;obtain⟨X3,K1,b7⟩:=Sep.lend (K:=[bx j [n,xC M,.int .u64 O] 117]) (L:=[rl 2 oV 66 h A,bx t [xC i,h] 26,bx p [xC 0,qD] 26]) (H.s [1,0,2,3] rfl rfl);refine oG F rfl call98 rfl (qZ C c2 _ H.hN K1 (H.u (e1 J)) i4 (H.u h1)) (fun a D w ⟨cz,S,i5,i6⟩ F=>?_);subst D;have H:Sep X2 N1 w1 w [bx j [n,xC C.2.1,.int .u64 C.2.2] 117,rl 2 oV 66 h A,bx t [xC i,h] 26,bx p [xC 0,qD] 26]:=b7 S;refine xJ ⟨⟨_,(E.1 H (Ns.all ⟨n0,⟨n0,⟨n0,⟨n0,trivial⟩⟩⟩⟩))⟩,?_⟩;refine xE (E.1 H (Ns.all ⟨n0,⟨n0,⟨n0,⟨n0,trivial⟩⟩⟩⟩)) 7 rfl (by kernel_rfl) ?_;obtain⟨X4,K2,b8⟩:=Sep.lend (K:=[bx j [n,xC C.2.1,.int .u64 C.2.2] 117]) (L:=[rl 2 oV 66 h A,bx t [xC i,h] 26,bx p [xC 0,qD] 26]) H;refine oG F rfl call63 rfl (cJ e c3 _ H.hN K2 (H.u (e1 J)) i6 U i5) (fun a D w ⟨v4,d0,S,i7,i8⟩ F=>?_);subst D;have H:Sep X2 N1 w1 w [rl 1 (vQ 1 xI) 41 v4 e.1.tuples,bx j [n,xC e.2.1,.int .u64 e.2.2] 117,rl 2 oV 66 h A,bx t [xC i,h] 26,bx p [xC 0,qD] 26]:=b8 S;refine xJ ⟨⟨_,(E.1 H (Ns.all ⟨n0,⟨n0,⟨n0,⟨n0,⟨n0,trivial⟩⟩⟩⟩⟩))⟩,?_⟩;refine xE (E.1 H (Ns.all ⟨n0,⟨n0,⟨n0,⟨n0,⟨n0,trivial⟩⟩⟩⟩⟩)) 8 rfl (by kernel_rfl) ?_;have H:=(oV.w i7 H);refine eZ (R:=oV) (y:=(Rel.mk e.1.arity e.1.tuples)) underlying24 sizeOf66 zeroValue66 rfl rfl F rfl rfl H El.agg fun a w v5 H F=>xJ ⟨⟨_,(E.1 H (Ns.all ⟨n0,⟨n0,⟨n0,⟨n0,⟨n0,trivial⟩⟩⟩⟩⟩))⟩,?_⟩;refine xE (E.1 H (Ns.all ⟨n0,⟨n0,⟨n0,⟨n0,⟨n0,trivial⟩⟩⟩⟩⟩)) 9 rfl (by kernel_rfl) (oPL (sz:=2) (R:=oV) (z:=(.agg #[xC 0,qD])) (bytes:=32) underlying24 (by kernel_rfl) rfl rfl F rfl rfl rfl (H.s [2,0,1,3,4] rfl rfl) Z fun a w v6 H F=>xJ ⟨⟨_,(E.1 H (Ns.all ⟨n0,⟨n0,⟨n0,⟨n0,trivial⟩⟩⟩⟩))⟩,?_⟩);refine qE 10 rfl (by kernel_rfl) (xO F rfl (fun w l=>oM kG F rfl rfl) fun a F=>xE (E.1 H (Ns.all ⟨n0,⟨n0,⟨n0,⟨n0,trivial⟩⟩⟩⟩)) 11 rfl (by kernel_rfl) (oW sizeOf24 F rfl rfl rfl (H.s [2,0,1,3] rfl rfl) ((H.s [2,0,1,3] rfl rfl).l 1 rfl).one rfl rfl fun w H=>xJ ⟨⟨_,(E.1 H (Ns.all ⟨n0,⟨n0,⟨n0,⟨n0,trivial⟩⟩⟩⟩))⟩,?_⟩));refine vZ (by kernel_rfl) (vH (xG (xY (xA 1 F rfl fun a F=>?_))));obtain⟨z5,c5,d⟩:=xB d;refine gM F rfl rfl rfl c5 fun a F=>xA 1 F rfl fun a F=>xJ ?_;replace d:=vU d P;exact⟨X,(by omega),z5,e.2.1,e.2.2,Y,v6,d,F.su,((E.1 H (Ns.all ⟨n0,⟨n0,⟨n0,⟨n0,trivial⟩⟩⟩⟩)).s [2,3,1,4] rfl rfl),(kV c5),i8⟩
   refine kJ H (oRI (xs:=[.const (xC 1),.const (xC 2),.const (xC 2),.const (xC 2),.const (xC 3)]) (l:=[1,2,2,2,3]) underlying41 sizeOf2 zeroValue2 rfl F rfl rfl rfl rfl rfl rfl (by simp only[List.forall_mem_cons,List.not_mem_nil,false_implies,implies_true,and_true];exact⟨(show xS (1) by decide),(show xS (2) by decide),(show xS (2) by decide),(show xS (2) by decide),(show xS (3) by decide)⟩) H fun a w v7 H F=>xJ ⟨⟨_,H⟩,?_⟩);refine kP [1,6] (by kernel_rfl) (by simp) ⟨⟨_,rfl,?_⟩,⟨_,rfl,?_⟩,trivial⟩
   ·
    refine kJ H (oB isAgg24 F rfl rfl (H.b 3 rfl) rfl fun a F=>xJ ⟨⟨_,H⟩,?_⟩);refine xE H 6 rfl (by kernel_rfl) ?_;obtain⟨w2,rfl⟩:∃ x,x=w:=⟨_,rfl⟩;have d1:=H.sm;obtain⟨X5,N2,g3,e2,H,G,d2⟩:=H.fza;have h2:=g3.ld;obtain⟨X6,K3,b9⟩:=Sep.lend (K:=[bx j [n,xC M,.int .u64 O] 117]) (L:=[rl 2 oV 66 h A,bx t [xC i,h] 26,bx p [xC 0,qD] 26]) (H.s [1,0,2,3] rfl rfl);refine oG F rfl call98 rfl (qZ C c2 _ H.hN K3 (H.u (e2 J)) i4 (H.u h2)) (fun a D w ⟨d3,S,i9,ba⟩ F=>?_);subst D;have H:Sep X5 N2 w2 w [bx j [n,xC C.2.1,.int .u64 C.2.2] 117,rl 2 oV 66 h A,bx t [xC i,h] 26,bx p [xC 0,qD] 26]:=b9 S;refine xJ ⟨⟨_,(G.1 H (Ns.all ⟨n0,⟨n0,⟨n0,⟨n0,trivial⟩⟩⟩⟩))⟩,?_⟩;refine xE (G.1 H (Ns.all ⟨n0,⟨n0,⟨n0,⟨n0,trivial⟩⟩⟩⟩)) 7 rfl (by kernel_rfl) ?_;obtain⟨X7,K4,bb⟩:=Sep.lend (K:=[bx j [n,xC C.2.1,.int .u64 C.2.2] 117]) (L:=[rl 2 oV 66 h A,bx t [xC i,h] 26,bx p [xC 0,qD] 26]) H;refine oG F rfl call63 rfl (cJ e c3 _ H.hN K4 (H.u (e2 J)) ba U i9) (fun a D w ⟨v8,d4,S,bc,bd⟩ F=>?_);subst D;have H:Sep X5 N2 w2 w [rl 1 (vQ 1 xI) 41 v8 e.1.tuples,bx j [n,xC e.2.1,.int .u64 e.2.2] 117,rl 2 oV 66 h A,bx t [xC i,h] 26,bx p [xC 0,qD] 26]:=bb S;refine xJ ⟨⟨_,(G.1 H (Ns.all ⟨n0,⟨n0,⟨n0,⟨n0,⟨n0,trivial⟩⟩⟩⟩⟩))⟩,?_⟩;refine xE (G.1 H (Ns.all ⟨n0,⟨n0,⟨n0,⟨n0,⟨n0,trivial⟩⟩⟩⟩⟩)) 8 rfl (by kernel_rfl) ?_;have H:=(oV.w bc H);refine eZ (R:=oV) (y:=(Rel.mk e.1.arity e.1.tuples)) underlying24 sizeOf66 zeroValue66 rfl rfl F rfl rfl H El.agg fun a w v9 H F=>xJ ⟨⟨_,(G.1 H (Ns.all ⟨n0,⟨n0,⟨n0,⟨n0,⟨n0,trivial⟩⟩⟩⟩⟩))⟩,?_⟩;refine xE (G.1 H (Ns.all ⟨n0,⟨n0,⟨n0,⟨n0,⟨n0,trivial⟩⟩⟩⟩⟩)) 9 rfl (by kernel_rfl) (oPL (sz:=2) (R:=oV) (z:=(.agg #[xC 0,qD])) (bytes:=32) underlying24 (by kernel_rfl) rfl rfl F rfl rfl rfl (H.s [2,0,1,3,4] rfl rfl) Z fun a w be H F=>xJ ⟨⟨_,(G.1 H (Ns.all ⟨n0,⟨n0,⟨n0,⟨n0,trivial⟩⟩⟩⟩))⟩,?_⟩);refine qE 10 rfl (by kernel_rfl) (xO F rfl (fun w l=>oM kG F rfl rfl) fun a F=>xE (G.1 H (Ns.all ⟨n0,⟨n0,⟨n0,⟨n0,trivial⟩⟩⟩⟩)) 11 rfl (by kernel_rfl) (oW sizeOf24 F rfl rfl rfl (H.s [2,0,1,3] rfl rfl) ((H.s [2,0,1,3] rfl rfl).l 1 rfl).one rfl rfl fun w H=>xJ ⟨⟨_,(G.1 H (Ns.all ⟨n0,⟨n0,⟨n0,⟨n0,trivial⟩⟩⟩⟩))⟩,?_⟩));refine vZ (by kernel_rfl) (vH (xG (xY (xA 1 F rfl fun a F=>?_))));obtain⟨z6,c6,d⟩:=xB d;refine gM F rfl rfl rfl c6 fun a F=>xA 1 F rfl fun a F=>xJ ?_;replace d:=vU d P;exact⟨X,(by omega),z6,e.2.1,e.2.2,Y,be,d,F.su,((G.1 H (Ns.all ⟨n0,⟨n0,⟨n0,⟨n0,trivial⟩⟩⟩⟩)).s [2,3,1,4] rfl rfl),(kV c6),bd⟩
   refine kJ H ?_;obtain⟨w3,rfl⟩:∃ x,x=w:=⟨_,rfl⟩;have d5:=H.sm;obtain⟨X8,N3,g4,e3,H,f,d6⟩:=H.fza;have h3:=g4.ld;obtain⟨X9,K5,bf⟩:=Sep.lend (K:=[bx j [n,xC M,.int .u64 O] 117]) (L:=[rl 2 oV 66 h A,bx t [xC i,h] 26,bx p [xC 0,qD] 26]) (H.s [1,0,2,3] rfl rfl);refine oG F rfl call98 rfl (qZ C c2 _ H.hN K5 (H.u (e3 J)) i4 (H.u h3)) (fun a D w ⟨d7,S,ag,ah⟩ F=>?_);subst D;have H:Sep X8 N3 w3 w [bx j [n,xC C.2.1,.int .u64 C.2.2] 117,rl 2 oV 66 h A,bx t [xC i,h] 26,bx p [xC 0,qD] 26]:=bf S;refine xJ ⟨⟨_,(f.1 H (Ns.all ⟨n0,⟨n0,⟨n0,⟨n0,trivial⟩⟩⟩⟩))⟩,?_⟩;refine kP [1,7] (by kernel_rfl) (by simp) ⟨⟨_,rfl,?_⟩,⟨_,rfl,?_⟩,trivial⟩
   ·
    refine kJ (f.1 H (Ns.all ⟨n0,⟨n0,⟨n0,⟨n0,trivial⟩⟩⟩⟩)) (oB isAgg24 F rfl rfl (H.b 2 rfl) rfl fun a F=>xJ ⟨⟨_,(f.1 H (Ns.all ⟨n0,⟨n0,⟨n0,⟨n0,trivial⟩⟩⟩⟩))⟩,?_⟩);refine xE (f.1 H (Ns.all ⟨n0,⟨n0,⟨n0,⟨n0,trivial⟩⟩⟩⟩)) 7 rfl (by kernel_rfl) ?_;obtain⟨d8,K6,bg⟩:=Sep.lend (K:=[bx j [n,xC C.2.1,.int .u64 C.2.2] 117]) (L:=[rl 2 oV 66 h A,bx t [xC i,h] 26,bx p [xC 0,qD] 26]) H;refine oG F rfl call63 rfl (cJ e c3 _ H.hN K6 (H.u (e3 J)) ah U ag) (fun a D w ⟨bh,d9,S,bi,bj⟩ F=>?_);subst D;have H:Sep X8 N3 w3 w [rl 1 (vQ 1 xI) 41 bh e.1.tuples,bx j [n,xC e.2.1,.int .u64 e.2.2] 117,rl 2 oV 66 h A,bx t [xC i,h] 26,bx p [xC 0,qD] 26]:=bg S;refine xJ ⟨⟨_,(f.1 H (Ns.all ⟨n0,⟨n0,⟨n0,⟨n0,⟨n0,trivial⟩⟩⟩⟩⟩))⟩,?_⟩;refine xE (f.1 H (Ns.all ⟨n0,⟨n0,⟨n0,⟨n0,⟨n0,trivial⟩⟩⟩⟩⟩)) 8 rfl (by kernel_rfl) ?_;have H:=(oV.w bi H);refine eZ (R:=oV) (y:=(Rel.mk e.1.arity e.1.tuples)) underlying24 sizeOf66 zeroValue66 rfl rfl F rfl rfl H El.agg fun a w da H F=>xJ ⟨⟨_,(f.1 H (Ns.all ⟨n0,⟨n0,⟨n0,⟨n0,⟨n0,trivial⟩⟩⟩⟩⟩))⟩,?_⟩;refine xE (f.1 H (Ns.all ⟨n0,⟨n0,⟨n0,⟨n0,⟨n0,trivial⟩⟩⟩⟩⟩)) 9 rfl (by kernel_rfl) (oPL (sz:=2) (R:=oV) (z:=(.agg #[xC 0,qD])) (bytes:=32) underlying24 (by kernel_rfl) rfl rfl F rfl rfl rfl (H.s [2,0,1,3,4] rfl rfl) Z fun a w bm H F=>xJ ⟨⟨_,(f.1 H (Ns.all ⟨n0,⟨n0,⟨n0,⟨n0,trivial⟩⟩⟩⟩))⟩,?_⟩);refine qE 10 rfl (by kernel_rfl) (xO F rfl (fun w l=>oM kG F rfl rfl) fun a F=>xE (f.1 H (Ns.all ⟨n0,⟨n0,⟨n0,⟨n0,trivial⟩⟩⟩⟩)) 11 rfl (by kernel_rfl) (oW sizeOf24 F rfl rfl rfl (H.s [2,0,1,3] rfl rfl) ((H.s [2,0,1,3] rfl rfl).l 1 rfl).one rfl rfl fun w H=>xJ ⟨⟨_,(f.1 H (Ns.all ⟨n0,⟨n0,⟨n0,⟨n0,trivial⟩⟩⟩⟩))⟩,?_⟩));refine vZ (by kernel_rfl) (vH (xG (xY (xA 1 F rfl fun a F=>?_))));obtain⟨z7,c7,d⟩:=xB d;refine gM F rfl rfl rfl c7 fun a F=>xA 1 F rfl fun a F=>xJ ?_;replace d:=vU d P;exact⟨X,(by omega),z7,e.2.1,e.2.2,Y,bm,d,F.su,((f.1 H (Ns.all ⟨n0,⟨n0,⟨n0,⟨n0,trivial⟩⟩⟩⟩)).s [2,3,1,4] rfl rfl),(kV c7),bj⟩
   refine kJ (f.1 H (Ns.all ⟨n0,⟨n0,⟨n0,⟨n0,trivial⟩⟩⟩⟩)) ?_;obtain⟨db,K7,bn⟩:=Sep.lend (K:=[bx j [n,xC C.2.1,.int .u64 C.2.2] 117]) (L:=[rl 2 oV 66 h A,bx t [xC i,h] 26,bx p [xC 0,qD] 26]) H;refine oG F rfl call63 rfl (cJ e c3 _ H.hN K7 (H.u (e3 J)) ah U ag) (fun a D w ⟨bp,dc,S,ai,aj⟩ F=>?_);subst D;have H:Sep X8 N3 w3 w [rl 1 (vQ 1 xI) 41 bp e.1.tuples,bx j [n,xC e.2.1,.int .u64 e.2.2] 117,rl 2 oV 66 h A,bx t [xC i,h] 26,bx p [xC 0,qD] 26]:=bn S;refine xJ ⟨⟨_,(f.1 H (Ns.all ⟨n0,⟨n0,⟨n0,⟨n0,⟨n0,trivial⟩⟩⟩⟩⟩))⟩,?_⟩;refine kP [1,8] (by kernel_rfl) (by simp) ⟨⟨_,rfl,?_⟩,⟨_,rfl,?_⟩,trivial⟩
   ·
    refine kJ (f.1 H (Ns.all ⟨n0,⟨n0,⟨n0,⟨n0,⟨n0,trivial⟩⟩⟩⟩⟩)) (oB isAgg24 F rfl rfl (H.b 3 rfl) rfl fun a F=>xJ ⟨⟨_,(f.1 H (Ns.all ⟨n0,⟨n0,⟨n0,⟨n0,⟨n0,trivial⟩⟩⟩⟩⟩))⟩,?_⟩);refine xE (f.1 H (Ns.all ⟨n0,⟨n0,⟨n0,⟨n0,⟨n0,trivial⟩⟩⟩⟩⟩)) 8 rfl (by kernel_rfl) ?_;have H:=(oV.w ai H);refine eZ (R:=oV) (y:=(Rel.mk e.1.arity e.1.tuples)) underlying24 sizeOf66 zeroValue66 rfl rfl F rfl rfl H El.agg fun a w dd H F=>xJ ⟨⟨_,(f.1 H (Ns.all ⟨n0,⟨n0,⟨n0,⟨n0,⟨n0,trivial⟩⟩⟩⟩⟩))⟩,?_⟩;refine xE (f.1 H (Ns.all ⟨n0,⟨n0,⟨n0,⟨n0,⟨n0,trivial⟩⟩⟩⟩⟩)) 9 rfl (by kernel_rfl) (oPL (sz:=2) (R:=oV) (z:=(.agg #[xC 0,qD])) (bytes:=32) underlying24 (by kernel_rfl) rfl rfl F rfl rfl rfl (H.s [2,0,1,3,4] rfl rfl) Z fun a w bq H F=>xJ ⟨⟨_,(f.1 H (Ns.all ⟨n0,⟨n0,⟨n0,⟨n0,trivial⟩⟩⟩⟩))⟩,?_⟩);refine qE 10 rfl (by kernel_rfl) (xO F rfl (fun w l=>oM kG F rfl rfl) fun a F=>xE (f.1 H (Ns.all ⟨n0,⟨n0,⟨n0,⟨n0,trivial⟩⟩⟩⟩)) 11 rfl (by kernel_rfl) (oW sizeOf24 F rfl rfl rfl (H.s [2,0,1,3] rfl rfl) ((H.s [2,0,1,3] rfl rfl).l 1 rfl).one rfl rfl fun w H=>xJ ⟨⟨_,(f.1 H (Ns.all ⟨n0,⟨n0,⟨n0,⟨n0,trivial⟩⟩⟩⟩))⟩,?_⟩));refine vZ (by kernel_rfl) (vH (xG (xY (xA 1 F rfl fun a F=>?_))));obtain⟨z8,c8,d⟩:=xB d;refine gM F rfl rfl rfl c8 fun a F=>xA 1 F rfl fun a F=>xJ ?_;replace d:=vU d P;exact⟨X,(by omega),z8,e.2.1,e.2.2,Y,bq,d,F.su,((f.1 H (Ns.all ⟨n0,⟨n0,⟨n0,⟨n0,trivial⟩⟩⟩⟩)).s [2,3,1,4] rfl rfl),(kV c8),aj⟩
   refine kJ (f.1 H (Ns.all ⟨n0,⟨n0,⟨n0,⟨n0,⟨n0,trivial⟩⟩⟩⟩⟩)) ?_;have H:=(oV.w ai H);refine eZ (R:=oV) (y:=(Rel.mk e.1.arity e.1.tuples)) underlying24 sizeOf66 zeroValue66 rfl rfl F rfl rfl H El.agg fun a w de H F=>xJ ⟨⟨_,(f.1 H (Ns.all ⟨n0,⟨n0,⟨n0,⟨n0,⟨n0,trivial⟩⟩⟩⟩⟩))⟩,?_⟩;refine xE (f.1 H (Ns.all ⟨n0,⟨n0,⟨n0,⟨n0,⟨n0,trivial⟩⟩⟩⟩⟩)) 1 rfl (by kernel_rfl) (oB isAgg24 F rfl rfl (H.b 3 rfl) rfl fun a F=>xJ ⟨⟨_,(f.1 H (Ns.all ⟨n0,⟨n0,⟨n0,⟨n0,⟨n0,trivial⟩⟩⟩⟩⟩))⟩,?_⟩);refine xE (f.1 H (Ns.all ⟨n0,⟨n0,⟨n0,⟨n0,⟨n0,trivial⟩⟩⟩⟩⟩)) 9 rfl (by kernel_rfl) (oPL (sz:=2) (R:=oV) (z:=(.agg #[xC 0,qD])) (bytes:=32) underlying24 (by kernel_rfl) rfl rfl F rfl rfl rfl (H.s [2,0,1,3,4] rfl rfl) Z fun a w br H F=>xJ ⟨⟨_,(f.1 H (Ns.all ⟨n0,⟨n0,⟨n0,⟨n0,trivial⟩⟩⟩⟩))⟩,?_⟩);refine qE 10 rfl (by kernel_rfl) (xO F rfl (fun w l=>oM kG F rfl rfl) fun a F=>xE (f.1 H (Ns.all ⟨n0,⟨n0,⟨n0,⟨n0,trivial⟩⟩⟩⟩)) 11 rfl (by kernel_rfl) (oW sizeOf24 F rfl rfl rfl (H.s [2,0,1,3] rfl rfl) ((H.s [2,0,1,3] rfl rfl).l 1 rfl).one rfl rfl fun w H=>xJ ⟨⟨_,(f.1 H (Ns.all ⟨n0,⟨n0,⟨n0,⟨n0,trivial⟩⟩⟩⟩))⟩,?_⟩));refine vZ (by kernel_rfl) (vH (xG (xY (xA 1 F rfl fun a F=>?_))));obtain⟨z9,c9,d⟩:=xB d;refine gM F rfl rfl rfl c9 fun a F=>xA 1 F rfl fun a F=>xJ ?_;replace d:=vU d P;exact⟨X,(by omega),z9,e.2.1,e.2.2,Y,br,d,F.su,((f.1 H (Ns.all ⟨n0,⟨n0,⟨n0,⟨n0,trivial⟩⟩⟩⟩)).s [2,3,1,4] rfl rfl),(kV c9),aj⟩
  replace d:=vW a5 d;refine qJ (qM (qM ?_));replace d:=gV d P;refine zQ (xG ?_);exact⟨W,M,O,A,h,(zH d),F.su,H,i3,i4⟩
 rintro a w ⟨s1,s2,s3,s4,T,rfl,F,H,df,bt⟩
 have d:=xW b4;refine xG (xV (dJ isAgg26 sizeOf26 F rfl rfl (H.b 2 rfl) rfl rfl fun a F=>cN (vs:=[xC i,T]) sizeOf26 F rfl rfl rfl (H.s [3,0,1,2] rfl rfl) (oc rfl (oc ((H.s [3,0,1,2] rfl rfl).l 1 rfl).one on)) rfl rfl fun w H=>xJ (xR (xT F rfl (kF (arr:=#[xC i,T]) F isAgg26 sizeOf26 rfl (H.b 0 rfl)) ?_))));obtain rfl:=oj d;exact⟨_,rfl,T,rfl,(H.s [1,2] rfl rfl),U,bt⟩
def gT (N:Nat) (c:List UInt8) (D E:Int) (e:Template) (M:Int):Option (Instance×Int×Int):=
 xZ (oU c D E M) fun f=>
 xZ (ck (1+f.1)) fun p=>
 xZ (oU c f.2.1 f.2.2 7) fun h=>
 zR (σ:=Int×Int×Int×(List Con)) (
  fA (σ:=Int×Int×Int×(List Con)) (ρ:=Instance×Int×Int) (fun(s:Int×Int×Int×(List Con))=>
    match s with
    | (i,t,x,y)=>
    zR (σ:=Bool) (
     if (decide (0<i)) then  some (.nx (decide (0<(e.rels.length:Int)))) else  some (.nx false)) fun O=>
    if O then
     xZ (oU c t x (e.rels.length:Int)) fun d=>
     xZ (ix e.rels d.1) fun P=>
     zR (σ:=Int×Int×Int×(List Int)) (
      fA (σ:=Int×Int×Int×(List Int)) (ρ:=(Ctl (Int×Int×Int×(List Con)) (Instance×Int×Int))) (fun(s:Int×Int×Int×(List Int))=>
        match s with
        | (j,A,B,C)=>
        if (decide (0<j)) then
         xZ (oU c A B p) fun n=>
         xZ (ap C ([n.1])) fun Q=>
         xZ (ck (j - 1)) fun R=>
         some (.go (R,n.2.1,n.2.2,Q))
        else
         some (.brk (j,A,B,C))) N (P.arity,d.2.1,d.2.2,[])) fun(T,F,G,H)=>
     xZ (ap y ([(Con.mk d.1 H)])) fun S=>
     xZ (ck (i - 1)) fun I=>
     some (.go (I,F,G,S))
    else
     some (.brk (i,t,x,y))) N (h.1,h.2.1,h.2.2,[])) fun(U,J,K,L)=>
 some ((Instance.mk p L),J,K)
theorem wN {B:Nat→Prop} {N:Nat} {au:List UInt8} {a5 ae:Int} {x1:Template} {x2:Int} (r:Instance×Int×Int) (d:gT N au a5 ae x1 x2=some r) {e:Nat} {h:Value} {O:Value} {M:List Nat} (t:World) (hN:∀ c,B c→c<t.heap.size) (S0:Sep M B t t [bx e [h,xC a5,.int .u64 ae] 117]) (a1:Bo B t (Sl 1 bS) h au) (b9:xS a5) (X:Bo B t (Pt 2 xH) O x1) (bb:xS x2):Calls Tryz.prog 99 #[oO e,O,xC x2] t (Gv (fun v w'=>∃ (av:Value),v= .agg #[xC r.1.vars,av]∧Sep M B t w' [rl 2 oR 69 av r.1.cons,bx e [h,xC r.2.1,.int .u64 r.2.2] 117]∧xS r.1.vars∧xS r.2.1)):=by
 unfold gT at d
 refine xX (L:=[(0,oO e),(1,O),(2,xC x2)]) func99 rfl rfl rfl (sc rfl (sc rfl (sc rfl sn))) (fun a F=>?_);have H:=S0;refine xV (oA zeroValue29 F rfl rfl H fun a w f H F=>vG (xA 2 F rfl fun a F=>?_));obtain⟨z1,c1,d⟩:=xB d;obtain⟨X1,K1,ba⟩:=Sep.lend (K:=[bx e [h,xC a5,.int .u64 ae] 117]) (L:=[bx f [xC 0,qD] 29]) (H.s [1,0] rfl rfl);refine oG F rfl call25 rfl (oY z1 c1 _ H.hN K1 (H.u a1) b9 bb) (fun a P w ⟨db,S,i1,i2⟩ F=>?_);subst P;have H:Sep M B t w [bx e [h,xC z1.2.1,.int .u64 z1.2.2] 117,bx f [xC 0,qD] 29]:=ba S;obtain⟨D,c2,d⟩:=xB d;refine cX F rfl rfl rfl c2 fun a F=>vY underlying29 zeroValue29 (fun w=>by simp [sizeOf2,sizeOf27];rfl) F rfl rfl rfl rfl rfl (oc rfl on) rfl rfl fun a F=>oA zeroValue29 F rfl rfl H fun a w p H F=>cN (vs:=[xC D,qD]) sizeOf29 F rfl rfl rfl H (oc rfl (oc rfl on)) rfl rfl fun w H=>xJ (xF (xV (xA 1 F rfl fun a F=>?_)));obtain⟨Y,c3,d⟩:=xB d;obtain⟨X2,K2,bc⟩:=Sep.lend (K:=[bx e [h,xC z1.2.1,.int .u64 z1.2.2] 117]) (L:=[bx p [xC D,qD] 29,bx f [xC 0,qD] 29]) (H.s [1,0,2] rfl rfl);refine oG F rfl call25 rfl (oY Y c3 _ H.hN K2 (H.u a1) i2 (show xS (7) by decide)) (fun a P w ⟨dc,S,i3,i4⟩ F=>?_);subst P;have H:Sep M B t w [bx e [h,xC Y.2.1,.int .u64 Y.2.2] 117,bx p [xC D,qD] 29,bx f [xC 0,qD] 29]:=bc S;refine xA 1 F rfl fun a F=>xJ ?_;obtain⟨o1,d,bd⟩:=xM d;refine oH (fun a w=>∃ (s1 s2 s3:Int) (s4:List Con) (Z:Value),o1= .nx (s1,s2,s3,s4)∧Sk a 67 [(0,oO e),(6,oO f),(7,oO p)]∧Sep M B t w [rl 2 oR 69 Z s4,bx e [h,xC s2,.int .u64 s3] 117,bx p [xC D,Z] 29,bx f [xC 0,qD] 29]∧xS s1∧xS s2) ?_ ?_
 ·
  refine oJ ?_;obtain⟨be,bf,d⟩:=bJ d;refine qK (fun g a w=>∃ (I U s7:Int) (A:List Con) (i:Value),fA be g (I,U,s7,A)=some o1∧Sk a 67 [(0,oO e),(1,O),(6,oO f),(7,oO p),(8,xC I)]∧Sep M B t w [rl 2 oR 69 i A,bx e [h,xC U,.int .u64 s7] 117,bx p [xC D,i] 29,bx f [xC 0,qD] 29]∧xS I∧xS U) N ?_ ?_
  ·
   exact⟨Y.1,Y.2.1,Y.2.2,[],qD,d,F.su,(H.nl 2 oR 69),i3,i4⟩
  intro g1 a w ⟨I,U,s7,A,i,d,F,H,i5,i6⟩;obtain⟨dd,t1,de,d,aw⟩:=kR d;rw[bf] at d;refine xF (xF ?_);obtain⟨o2,d,bg⟩:=xM d;refine oH (fun a w=>∃ (s9:Bool),o2= .nx s9∧Sk a 67 [(0,oO e),(1,O),(6,oO f),(7,oO p),(8,xC I),(27,.bool s9)]∧Sep M B t w [rl 2 oR 69 i A,bx e [h,xC U,.int .u64 s7] 117,bx p [xC D,i] 29,bx f [xC 0,qD] 29]) ?_ ?_
  ·
   refine xY (xA 3 F rfl fun a F=>?_)
   rcases vR (decide (0<I)) with a2 | a2
   ·
    replace d:=vX a2 d;have F:=F.eb 20 rfl a2;refine xA 1 F rfl fun a F=>oN F rfl rfl X fun a F=>oF (s':=1) kG F rfl rfl X xH.f1 fun a p1 h1 F=>olS isAgg24 F rfl rfl H.sm h1 fun a v4 h2 F=>oL underlying24 F rfl rfl h2 fun a i7 F=>xA 2 F rfl fun a F=>xJ ?_;exact⟨(decide (0<(x1.rels.length:Int))),(zH d),F.su,H⟩
   replace d:=vW a2 d;have F:=F.eb 20 rfl a2;refine xA 7 F rfl fun a F=>xJ ?_;exact⟨false,(zH d),F.su,H⟩
  rintro a w ⟨s9,rfl,F,H⟩
  have d:=xW bg;refine xG (qV F rfl (fun af=>?_) (fun af=>?_))
  ·
   replace d:=vX af d;refine xN (xG (xF (oJ (xV (xA 2 F rfl fun a F=>oN F rfl rfl X fun a F=>oF (s':=1) kG F rfl rfl X xH.f1 fun a p2 h3 F=>olS isAgg24 F rfl rfl H.sm h3 (fun a v5 h4 F=>?_))))));refine oL underlying24 F rfl rfl h4 (fun a i8 F=>?_);obtain⟨C,c4,d⟩:=xB d;obtain⟨X3,K3,bh⟩:=Sep.lend (K:=[bx e [h,xC U,.int .u64 s7] 117]) (L:=[rl 2 oR 69 i A,bx p [xC D,i] 29,bx f [xC 0,qD] 29]) (H.s [1,0,2,3] rfl rfl);refine oG F rfl call25 rfl (oY C c4 _ H.hN K3 (H.u a1) i6 i8) (fun a P w ⟨df,S,i9,bi⟩ F=>?_);subst P;have H:Sep M B t w [bx e [h,xC C.2.1,.int .u64 C.2.2] 117,rl 2 oR 69 i A,bx p [xC D,i] 29,bx f [xC 0,qD] 29]:=bh S;refine vY underlying69 zeroValue69 (fun w=>by simp [sizeOf2,sizeOf41];rfl) F rfl rfl rfl rfl rfl (oc rfl on) rfl rfl fun a F=>oA zeroValue69 F rfl rfl H fun a w E H F=>cN (vs:=[xC C.1,qD]) sizeOf69 F rfl rfl rfl H (oc rfl (oc rfl on)) rfl rfl fun w H=>xJ (xF (xF (xQ H (by kernel_rfl) (by kernel_rfl) (xP F rfl (fun w l=>xL F rfl) fun a F=>qN F rfl rfl X fun a F=>qF (s':=1) kG F rfl rfl X xH.f1 (fun a p3 h5 F=>?_)))));refine qlS isAgg24 F rfl rfl H.q h5 fun a v6 h6 F=>xP F rfl (fun w l=>oM lX F rfl rfl) fun a F=>qB isAgg2 F rfl rfl (H.qb 0 rfl) rfl (fun a F=>?_);obtain⟨z5,c5,d⟩:=xB d;refine qI underlying24 sizeOf66 F rfl rfl rfl h6 c5 fun a p4 h7 F=>qF (s':=1) mU F rfl rfl h7 oV.f0 fun a p5 h8 F=>qlI isAgg2 F rfl rfl H.q h8 fun a bj F=>xP F rfl (fun w l=>vK F rfl) fun a F=>kZ fun w H=>xG ?_;obtain⟨o3,d,bm⟩:=xM d;refine oH (fun a w=>∃ (ag a3 a6:Int) (a7:List Int) (v7:Value),o3= .nx (ag,a3,a6,a7)∧Sk a 67 [(0,oO e),(1,O),(6,oO f),(7,oO p),(8,xC I),(9,oO E)]∧Sep M B t w [rl 1 xI 2 v7 a7,bx E [xC C.1,v7] 69,bx e [h,xC a3,.int .u64 a6] 117,rl 2 oR 69 i A,bx p [xC D,i] 29,bx f [xC 0,qD] 29]∧xS ag∧xS a3) ?_ ?_
   ·
    refine oJ ?_;obtain⟨bn,bp,d⟩:=bJ d;refine qK (fun g a w=>∃ (Q T W:Int) (J:List Int) (n:Value),fA bn g (Q,T,W,J)=some o3∧Sk a 67 [(0,oO e),(1,O),(6,oO f),(7,oO p),(8,xC I),(9,oO E),(10,xC Q)]∧Sep M B t w [rl 1 xI 2 n J,bx E [xC C.1,n] 69,bx e [h,xC T,.int .u64 W] 117,rl 2 oR 69 i A,bx p [xC D,i] 29,bx f [xC 0,qD] 29]∧xS Q∧xS T) N ?_ ?_
    ·
     exact⟨z5.arity,C.2.1,C.2.2,[],qD,d,F.su,(H.nl 1 xI 2),bj,bi⟩
    intro g2 a w ⟨Q,T,W,J,n,d,F,H,bq,ah⟩;obtain⟨dg,t2,dh,d,ax⟩:=kR d;rw[bp] at d;refine xF (xV (xA 2 F rfl fun a F=>xJ (qV F rfl (fun ai=>?_) (fun ai=>?_))))
    ·
     replace d:=vX ai d;refine xN (xG (xF (oJ ?_)));obtain⟨j,c6,d⟩:=xB d;obtain⟨z7,c7,d⟩:=xB d;obtain⟨w1,rfl⟩:∃ x,x=w:=⟨_,rfl⟩;have di:=H.sm;obtain⟨X4,N1,g3,e1,H,br,dj⟩:=(H.s [4,0,1,2,3,5] rfl rfl).fza;have K4:=g3.bk;refine xD H (by kernel_rfl) fun w H=>dp (fun G=>∀ (v9:Value) (a:Act) (w:World),Sk a 67 [(0,oO e),(1,O),(6,oO f),(7,oO p),(8,xC I),(9,oO E),(10,xC Q),(52,n),(57,v9)]→Sep X4 N1 w1 w [rl 1 xI 2 v9 ([j.1]),bx e [h,xC j.2.1,.int .u64 j.2.2] 117,rl 1 xI 2 n J,bx E [xC C.1,n] 69,rl 2 oR 69 i A,bx f [xC 0,qD] 29]→xS j.2.1→∀ V,V = #[true,true,true,true,true,true,true,false,false,false]→G 3 V a w) ?_ (fun H1=>?_)
     ·
      intro v9 a w F H bt V aj;subst aj;refine xE H 7 rfl (by kernel_rfl) (oPL (sz:=1) (R:=xI) (z:=(xC 0)) (bytes:=8) underlying41 (by kernel_rfl) rfl rfl F rfl rfl rfl (H.s [2,0,1,3,4,5] rfl rfl) c7 fun a w bu H F=>xJ ⟨⟨_,H⟩,?_⟩);refine qE 8 rfl (by kernel_rfl) (xO F rfl (fun w l=>oM bM F rfl rfl) fun a F=>xE H 9 rfl (by kernel_rfl) (oW sizeOf41 F rfl rfl rfl (H.s [2,0,1,3,4] rfl rfl) ((H.s [2,0,1,3,4] rfl rfl).l 1 rfl).one rfl rfl fun w H=>xJ ⟨⟨_,H⟩,?_⟩));refine vZ (by kernel_rfl) (vH (xG (xY (xA 1 F rfl fun a F=>?_))));obtain⟨z8,c8,d⟩:=xB d;refine gM F rfl rfl rfl c8 fun a F=>xA 1 F rfl fun a F=>xJ ?_;replace d:=vU d ax;exact⟨t2,(by omega),z8,j.2.1,j.2.2,z7,bu,d,F.su,((br.1 H (Ns.all ⟨n0,⟨n0,⟨n0,⟨n0,⟨n0,trivial⟩⟩⟩⟩⟩)).s [2,1,3,4,0,5] rfl rfl),(kV c8),bt⟩
     refine dp (fun G=>∀ (a:Act) (w:World),Sk a 67 [(0,oO e),(1,O),(6,oO f),(7,oO p),(8,xC I),(9,oO E),(10,xC Q),(52,n),(56,xC j.1)]→Sep X4 N1 w1 w [bx e [h,xC j.2.1,.int .u64 j.2.2] 117,rl 1 xI 2 n J,bx E [xC C.1,n] 69,rl 2 oR 69 i A,bx f [xC 0,qD] 29]→xS j.2.1→xS j.1→∀ V,V = #[true,true,true,true,true,true,false,false,false,false]→G 4 V a w) ?_ (fun H2=>?_)
     ·
      intro a w F H bv bw V aj;subst aj;refine xE H 6 rfl (by kernel_rfl) (cM (R:=xI) (y:=j.1) underlying41 sizeOf2 zeroValue2 rfl rfl F rfl rfl H (Eo.int bw) fun a w c0 H F=>xJ ⟨⟨_,H⟩,?_⟩);exact H1 c0 _ _ (F.su) H bv _ (by kernel_rfl)
     refine qE 0 rfl (by kernel_rfl) (xO F rfl (fun w l=>oM bM F rfl rfl) fun a F=>qW 2 rfl (by kernel_rfl) (xO F rfl (fun w l=>xL F rfl) fun a F=>qE 3 rfl (by kernel_rfl) (xO F rfl (fun w l=>oM eE F rfl rfl) fun a F=>qE 4 rfl (by kernel_rfl) (vB isAgg2 F rfl rfl (K4.v H.sm) rfl fun a F=>kP [1,5] (by kernel_rfl) (by simp) ⟨⟨_,rfl,?_⟩,⟨_,rfl,?_⟩,trivial⟩))))
     ·
      refine kJ H (oB isAgg41 F rfl rfl (H.b 1 rfl) rfl fun a F=>xJ ⟨⟨_,H⟩,?_⟩);refine xE H 5 rfl (by kernel_rfl) ?_;obtain⟨X5,K5,bk3⟩:=Sep.lend (K:=[bx e [h,xC T,.int .u64 W] 117]) (L:=[rl 1 xI 2 n J,bx E [xC C.1,n] 69,rl 2 oR 69 i A,bx f [xC 0,qD] 29]) (H.s [2,0,1,3,4] rfl rfl);refine oG F rfl call25 rfl (oY j c6 _ H.hN K5 (H.u (e1 a1)) ah (kV c2)) (fun a P w ⟨dk,S,i19,i20⟩ F=>?_);subst P;have H:Sep X4 N1 w1 w [bx e [h,xC j.2.1,.int .u64 j.2.2] 117,rl 1 xI 2 n J,bx E [xC C.1,n] 69,rl 2 oR 69 i A,bx f [xC 0,qD] 29]:=bk3 S;refine xJ ⟨⟨_,H⟩,?_⟩;exact H2 _ _ (F.su) H i20 i19 _ (by kernel_rfl)
     refine kJ H ?_;obtain⟨X6,K6,bk4⟩:=Sep.lend (K:=[bx e [h,xC T,.int .u64 W] 117]) (L:=[rl 1 xI 2 n J,bx E [xC C.1,n] 69,rl 2 oR 69 i A,bx f [xC 0,qD] 29]) (H.s [2,0,1,3,4] rfl rfl);refine oG F rfl call25 rfl (oY j c6 _ H.hN K6 (H.u (e1 a1)) ah (kV c2)) (fun a P w ⟨dl,S,ay,az⟩ F=>?_);subst P;have H:Sep X4 N1 w1 w [bx e [h,xC j.2.1,.int .u64 j.2.2] 117,rl 1 xI 2 n J,bx E [xC C.1,n] 69,rl 2 oR 69 i A,bx f [xC 0,qD] 29]:=bk4 S;refine xJ ⟨⟨_,H⟩,?_⟩;refine kP [1,6] (by kernel_rfl) (by simp) ⟨⟨_,rfl,?_⟩,⟨_,rfl,?_⟩,trivial⟩
     ·
      refine kJ H (oB isAgg41 F rfl rfl (H.b 2 rfl) rfl fun a F=>xJ ⟨⟨_,H⟩,?_⟩);exact H2 _ _ (F.su) H az ay _ (by kernel_rfl)
     refine kJ H (cM (R:=xI) (y:=j.1) underlying41 sizeOf2 zeroValue2 rfl rfl F rfl rfl H (Eo.int ay) fun a w v12 H F=>xJ ⟨⟨_,H⟩,?_⟩);refine xE H 1 rfl (by kernel_rfl) (oB isAgg41 F rfl rfl (H.b 3 rfl) rfl fun a F=>xJ ⟨⟨_,H⟩,?_⟩);exact H1 v12 _ _ (F.su) H az _ (by kernel_rfl)
    replace d:=vW ai d;refine qJ (qM (qM ?_));replace d:=gV d ax;refine zQ (xG ?_);exact⟨Q,T,W,J,n,(zH d),F.su,H,bq,ah⟩
   rintro a w ⟨ag,a3,a6,a7,v7,rfl,F,H,dm,i24⟩
   have d:=xW bm;refine xG (xY (oD zT F rfl rfl rfl fun a F=>oB isAgg27 F rfl rfl (H.b 4 rfl) rfl fun a F=>dJ isAgg69 sizeOf69 F rfl rfl (H.b 1 rfl) rfl rfl (fun a F=>?_)));have H:=(oR.w i9 H);refine eZ (R:=oR) (y:=(Con.mk C.1 a7)) underlying27 sizeOf69 zeroValue69 rfl rfl F rfl rfl H El.agg (fun a w dq H F=>?_);obtain⟨z9,c9,d⟩:=xB d;refine oPL (sz:=2) (R:=oR) (z:=(.agg #[xC 0,qD])) (bytes:=32) underlying27 (by kernel_rfl) rfl rfl F rfl rfl rfl (H.s [3,0,1,2,4,5] rfl rfl) c9 fun a w v14 H F=>oD zT F rfl rfl rfl fun a F=>oW sizeOf27 F rfl rfl rfl (H.s [3,0,1,2,4] rfl rfl) ((H.s [3,0,1,2,4] rfl rfl).l 1 rfl).one rfl rfl fun w H=>qU (vH (xG (xY (xA 1 F rfl fun a F=>?_))));obtain⟨z10,b0,d⟩:=xB d;refine gM F rfl rfl rfl b0 fun a F=>xA 1 F rfl fun a F=>xJ ?_;replace d:=vU d aw;exact⟨t1,(by omega),z10,a3,a6,z9,v14,d,F.su,(H.s [1,3,0,4] rfl rfl),(kV b0),i24⟩
  replace d:=vW af d;refine qJ (qM (qM ?_));replace d:=gV d aw;refine zQ (xG ?_);exact⟨I,U,s7,A,i,(zH d),F.su,H,i5,i6⟩
 rintro a w ⟨s1,s2,s3,s4,Z,rfl,F,H,dr,i26⟩
 have d:=xW bd;refine xG (xV (dJ isAgg29 sizeOf29 F rfl rfl (H.b 2 rfl) rfl rfl fun a F=>cN (vs:=[xC D,Z]) sizeOf29 F rfl rfl rfl (H.s [3,0,1,2] rfl rfl) (oc rfl (oc ((H.s [3,0,1,2] rfl rfl).l 1 rfl).one on)) rfl rfl fun w H=>xJ (xR (xT F rfl (kF (arr:=#[xC D,Z]) F isAgg29 sizeOf29 rfl (H.b 0 rfl)) ?_))));obtain rfl:=oj d;exact⟨_,rfl,Z,rfl,(H.s [1,2] rfl rfl),(kV c2),i26⟩
def cE (d:List UInt8) (e f:Int):Option (Int×Int×Int):=
 xZ (zM d e f ([2,2,3,3,1,4,2])) fun c=>
 some (c.1,c.2.1,c.2.2)
theorem lC {B:Nat→Prop} {p:List UInt8} {h j:Int} (r:Int×Int×Int) (i:cE p h j=some r) {d:Nat} {f:Value} {t:List Nat} (e:World) (X:∀ c,B c→c<e.heap.size) (G:Sep t B e e [bx d [f,xC h,.int .u64 j] 117]) (y:Bo B e (Sl 1 bS) f p) (A:xS h):Calls Tryz.prog 130 #[oO d] e (Gv (fun v w'=>v=xC r.1∧Sep t B e w' [bx d [f,xC r.2.1,.int .u64 r.2.2] 117]∧xS r.1∧xS r.2.1)):=by
 unfold cE at i
 refine xX (L:=[(0,oO d)]) func130 rfl rfl rfl (sc rfl sn) (fun a F=>?_);have H:=G;refine xV (xA 1 F rfl fun a F=>vG (xA 1 F rfl fun a F=>oRI (xs:=[.const (xC 2),.const (xC 2),.const (xC 3),.const (xC 3),.const (xC 1),.const (xC 4),.const (xC 2)]) (l:=[2,2,3,3,1,4,2]) underlying41 sizeOf2 zeroValue2 rfl F rfl rfl rfl rfl rfl rfl (by simp only[List.forall_mem_cons,List.not_mem_nil,false_implies,implies_true,and_true];exact⟨(show xS (2) by decide),(show xS (2) by decide),(show xS (3) by decide),(show xS (3) by decide),(show xS (1) by decide),(show xS (4) by decide),(show xS (2) by decide)⟩) H (fun a w Y H F=>?_)));obtain⟨I,rfl⟩:∃ x,x=w:=⟨_,rfl⟩;have U:=H.sm;obtain⟨J,M,N,C,H,D,V⟩:=H.fza;have O:=N.ld;obtain⟨n,P,i⟩:=xB i;obtain⟨Z,K1,E⟩:=Sep.lend (K:=[bx d [f,xC h,.int .u64 j] 117]) (L:=[]) H;refine oG F rfl call98 rfl (qZ n P _ H.hN K1 (H.u (C y)) A (H.u O)) (fun a Q w ⟨W,S,R,T⟩ F=>?_);subst Q;have H:Sep J M I w [bx d [f,xC n.2.1,.int .u64 n.2.2] 117]:=E S;refine xA 1 F rfl fun a F=>xJ (xR ?_);have H:=(D.1 H (Ns.all ⟨n0,trivial⟩));refine xT F rfl (oE F rfl) ?_;obtain rfl:=oj i;exact⟨_,rfl,rfl,(H.s [1] rfl rfl),R,T⟩
def jS (N:Nat) (e:List UInt8) (f h i:Int):Option (Rel×Int×Int):=
 xZ (oU e f h 3) fun d=>
 xZ (ck (1+d.1)) fun j=>
 xZ (bV N e d.2.1 d.2.2 i j) fun c=>
 some ((Rel.mk c.1.arity c.1.tuples),c.2.1,c.2.2)
theorem xAx {B:Nat→Prop} {N:Nat} {E:List UInt8} {n A p:Int} (r:Rel×Int×Int) (e:jS N E n A p=some r) {d:Nat} {h:Value} {t:List Nat} (f:World) (hN:∀ c,B c→c<f.heap.size) (Q:Sep t B f f [bx d [h,xC n,.int .u64 A] 117]) (D:Bo B f (Sl 1 bS) h E) (J:xS n) (O:xS p):Calls Tryz.prog 149 #[oO d,xC p] f (Gv (fun v w'=>∃ (G:Value),v= .agg #[xC r.1.arity,G]∧Sep t B f w' [rl 1 (vQ 1 xI) 41 G r.1.tuples,bx d [h,xC r.2.1,.int .u64 r.2.2] 117]∧xS r.1.arity∧xS r.2.1)):=by
 unfold jS at e
 refine xX (L:=[(0,oO d),(1,xC p)]) func149 rfl rfl rfl (sc rfl (sc rfl sn)) (fun a F=>?_);have H:=Q;refine xV (oA zeroValue66 F rfl rfl H fun a w x H F=>vG (xA 3 F rfl fun a F=>?_));obtain⟨j,R,e⟩:=xB e;obtain⟨X1,K1,M⟩:=Sep.lend (K:=[bx d [h,xC n,.int .u64 A] 117]) (L:=[bx x [xC 0,qD] 66]) (H.s [1,0] rfl rfl);refine oG F rfl call25 rfl (oY j R _ H.hN K1 (H.u D) J (show xS (3) by decide)) (fun a C w ⟨Y,S,i1,T⟩ F=>?_);subst C;have H:Sep t B f w [bx d [h,xC j.2.1,.int .u64 j.2.2] 117,bx x [xC 0,qD] 66]:=M S;obtain⟨z2,I,e⟩:=xB e;refine cX F rfl rfl rfl I (fun a F=>?_);obtain⟨i,U,e⟩:=xB e;obtain⟨X2,V,P⟩:=Sep.lend (K:=[bx d [h,xC j.2.1,.int .u64 j.2.2] 117]) (L:=[bx x [xC 0,qD] 66]) H;refine oG F rfl call63 rfl (cJ i U _ H.hN V (H.u D) T O (kV I)) (fun a C w ⟨y,Z,S,W,X⟩ F=>?_);subst C;have H:Sep t B f w [rl 1 (vQ 1 xI) 41 y i.1.tuples,bx d [h,xC i.2.1,.int .u64 i.2.2] 117,bx x [xC 0,qD] 66]:=P S;refine cN (vs:=[xC i.1.arity,y]) sizeOf66 F rfl rfl rfl (H.s [2,0,1] rfl rfl) (oc rfl (oc ((H.s [2,0,1] rfl rfl).l 1 rfl).one on)) rfl rfl fun w H=>xJ (xR (xT F rfl (kF (arr:=#[xC i.1.arity,y]) F isAgg66 sizeOf66 rfl (H.b 0 rfl)) ?_));obtain rfl:=oj e;exact⟨_,rfl,y,rfl,(H.s [1,2] rfl rfl),W,X⟩
def jP (d:List UInt8) (e:Int):Option Int:=
 xZ (gE d) fun c=>
 xZ (oU c.1 c.2.1 c.2.2 e) fun f=>
 some f.1
theorem xAw {B:Nat→Prop} {t:List UInt8} {f:Int} (r:Int) (d:jP t f=some r) {h:Value} (e:World) (E:∀ c,B c→c<e.heap.size) (G:Bo B e (Sl 1 bS) h t) (A:xS f):Calls Tryz.prog 6 #[h,xC f] e (fS r e):=by
 unfold jP at d
 refine xX (L:=[(0,h),(1,xC f)]) func6 rfl rfl rfl (sc rfl (sc rfl sn)) (fun a F=>?_);have H:=Sep.start E;refine xV (xA 1 F rfl fun a F=>vG (xA 1 F rfl fun a F=>?_));obtain⟨i,I,d⟩:=xB d;refine oG F rfl call22 rfl (rD i I _ H.hN (H.u G)) (fun a j w ⟨x,y,N,S,n,C⟩ F=>?_);subst j;have n:=H.dn n;have H:=H.r1 S n0;refine xA 1 F rfl fun a F=>?_;obtain⟨p,J,d⟩:=xB d;obtain⟨P,K1,D⟩:=Sep.lend (K:=[bx x [y,xC i.2.1,.int .u64 i.2.2] 117]) (L:=[]) H;refine oG F rfl call25 rfl (oY p J _ H.hN K1 (H.u n) C A) (fun a j w ⟨O,S,M,Q⟩ F=>?_);subst j;have H:Sep [] B e w [bx x [y,xC p.2.1,.int .u64 p.2.2] 117]:=D S;refine xA 1 F rfl fun a F=>xJ (xR (xT F rfl (oE F rfl) ?_));obtain rfl:=oj d;exact⟨⟨rfl,H.bl⟩,M⟩
end Go.Proofs.YtncganhbpbehaaaGreat
