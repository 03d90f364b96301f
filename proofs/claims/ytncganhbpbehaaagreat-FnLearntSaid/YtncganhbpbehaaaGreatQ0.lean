import Derived.Test.YtncganhbpbehaaaGreatZ
import Derived.Test.YtncganhbpbehaaaGreatNG
namespace Go.Proofs.YtncganhbpbehaaaGreat
open Go.Proofs.Tryz
set_option maxHeartbeats 1000000
set_option linter.unusedVariables false
set_option linter.unusedSimpArgs false
set_option maxRecDepth 100000
open Go.RowKit
def mF (c d:List Int):Option (List Int):=
 zR (σ:=(List Int)) (
  qT (σ:=(List Int)) (ρ:=(List Int)) (fun (n:Nat) (e:Int) (f:(List Int))=>
   xZ (ix c e) fun h=>
   xZ (ap f ([h])) fun i=>
   some (.go i)) d 0 []) fun j=>
 some j
theorem xBb {B:Nat→Prop} {G f:List Int} (r:(List Int)) (d:mF G f=some r) {n:Value} {p:Value} (h:World) (S:∀ c,B c→c<h.heap.size) (T:Bo B h (Sl 1 xI) n G) (I:Bo B h (Sl 1 xI) p f):Calls Tryz.prog 144 #[n,p] h (Gv (fun v w'=>∃ (E:Value),v=E∧Sep [] B h w' [rl 1 xI 2 E r])):=by
 unfold mF at d
 refine xX (L:=[(0,n),(1,p)]) func144 rfl rfl rfl (sc rfl (sc rfl sn)) (fun a F=>?_);have H:=Sep.start S;refine xV (xA 1 F rfl fun a F=>vG (oR0 (R:=xI) underlying41 sizeOf2 F rfl H fun a w U H F=>xA 1 F rfl fun a F=>xJ ?_));refine xF (xV (xA 1 F rfl fun a F=>oL underlying41 F rfl rfl I fun a J F=>xA 1 F rfl fun a F=>xJ ?_));obtain⟨K,d,M⟩:=xM d;refine oH (fun a w=>∃ (C:List Int) (t:Value),K= .nx C∧Sk a 24 [(5,t)]∧Sep [] B h w [rl 1 xI 2 t C]) ?_ ?_
 ·
  refine oJ ?_;obtain⟨N,O,d⟩:=qP d;refine qK (fun g a w=>∃ (j:Nat) (i x:List Int) (A:Value),(j≤f.length∧f.drop j=i)∧i.length=g∧qT N i j x=some K∧Sk a 24 [(11,xC (j:Int)),(0,n),(5,A),(9,p),(10,xC (f.length:Int))]∧Sep [] B h w [rl 1 xI 2 A x]) f.length ?_ ?_
  ·
   exact⟨0,f,[],U,⟨Nat.zero_le _,rfl⟩,rfl,d,F.su,H⟩
  intro g1 a w ⟨j,i,x,A,e,P,d,F,H⟩
  cases i with
  | nil=>
   replace d:=qO d;have V:=qQ e.1 e.2;have D:=vS V;refine xV (xA 1 F rfl fun a F=>xJ (xF (zD F rfl D (qJ (qM (qM (zQ ?_)))))));refine xG ?_;exact⟨x,A,(zH d),F.su,H⟩
  | cons x2 i=>
   subst P;replace e:=oZ e.2;have W:=qX e.2.1;obtain⟨a6,d,Q⟩:=qG d;rw[O] at d;have D:=vE e.1;refine xV (xA 1 F rfl fun a F=>xJ (xF (zC F rfl D (xN (xG (xF ?_))))));have j1:=gP (Nat.le_of_lt e.1) J;have X:=zU e.1 J;refine oJ (xV (oI underlying41 sizeOf2 F rfl rfl rfl I W fun a p1 Y F=>olI isAgg2 F rfl rfl H.sm Y fun a i2 F=>xA 1 F rfl fun a F=>xJ (xY (xA 2 F rfl fun a F=>?_))));refine xA 1 F rfl fun a F=>?_;obtain⟨Z,c1,d⟩:=xB d;refine oI underlying41 sizeOf2 F rfl rfl rfl T c1 fun a p2 h2 F=>olI isAgg2 F rfl rfl H.sm h2 fun a i3 F=>cM (R:=xI) (y:=Z) underlying41 sizeOf2 zeroValue2 rfl rfl F rfl rfl H (Eo.int i3) (fun a w v5 H F=>?_);obtain⟨z2,c2,d⟩:=xB d;refine oPL (sz:=1) (R:=xI) (z:=(xC 0)) (bytes:=8) underlying41 (by kernel_rfl) rfl rfl F rfl rfl rfl (H.s [1,0] rfl rfl) c2 fun a w v6 H F=>xA 1 F rfl fun a F=>qU (vH (xG (xY (vP F rfl rfl rfl X fun a F=>xA 1 F rfl fun a F=>xJ ?_))));replace d:=vU d Q;exact⟨_,Nat.lt_succ_self _,j+1,i,z2,v6,⟨e.1,e.2.2⟩,rfl,d,F.su,H⟩
 rintro a w ⟨C,t,rfl,F,H⟩
 have d:=xW M;refine xG (xV (xA 2 F rfl fun a F=>xJ (xR (xT F rfl (oE F rfl) ?_))));obtain rfl:=oj d;exact⟨_,rfl,t,rfl,H⟩
def zF (N:Nat) (c:List (List Int)) (i:List Int) (j:(List Int)→(List Int)→Option Int):Option (Int×Bool):=
 zR (σ:=Int×Int) (
  fA (σ:=Int×Int) (ρ:=Int×Bool) (fun(s:Int×Int)=>
    match s with
    | (d,e)=>
    if (decide (d<e)) then
     xZ (ck (d+e)) fun n=>
     xZ (nn n) fun h=>
     xZ (ix c (h / 2)) fun p=>
     xZ (j p i) fun t=>
     if (decide (t<0)) then
      xZ (ck ((h / 2)+1)) fun x=>
      some (.go (x,e))
     else
      some (.go (d,(h / 2)))
    else
     some (.brk (d,e))) N (0,(c.length:Int))) fun(f,D)=>
 zR (σ:=Int×Bool) (
  if (decide (f<(c.length:Int))) then  xZ (ix c f) fun y=>
   xZ (j y i) fun A=>
   some (.nx (f,(A==0))) else  some (.nx (f,false))) fun(B,C)=>
 some (B,C)
theorem dC {B:Nat→Prop} {N:Nat} {j:List (List Int)} {R:List Int} {S:(List Int)→(List Int)→Option Int} (r:Int×Bool) (d:zF N j R S=some r) {A:Value} {C:Value} {h:FuncId} {x:List Value} (e:World) (hN:∀ c,B c→c<e.heap.size) (J:Bo B e (Sl 1 (vQ 1 xI)) A j) (T:Bo B e (Sl 1 xI) C R) (P:∀ args w,(callFunc h args).run Tryz.prog w= .ok (.enter h args) w) (Q:∀ (U V:List Int) (r:Int),S U V=some r→∀ W,Below e.heap.size e W→∀ (X Y:Value),Bo (All W) W (Sl 1 xI) X U→Bo (All W) W (Sl 1 xI) Y V→Calls Tryz.prog h ([X,Y]++x:List Value).toArray W (fS r W)):Calls Tryz.prog 165 #[A,C,.func (.func h) #[] x.toArray] e (Gv (fun v w'=>v= .tuple #[xC r.1,.bool r.2]∧Sep [] B e w' []∧xS r.1)):=by
 unfold zF at d
 refine xX (L:=[(0,A),(1,C),(2,.func (.func h) #[] x.toArray)]) func165 rfl rfl rfl (sc rfl (sc rfl (sc rfl sn))) (fun a F=>?_);have H:=Sep.start hN;refine xV (xA 2 F rfl fun a F=>vG (xA 1 F rfl fun a F=>oL underlying38 F rfl rfl J fun a i1 F=>xA 1 F rfl fun a F=>?_));refine vG (xA 3 F rfl fun a F=>xJ (xF ?_));obtain⟨Z,d,a7⟩:=xM d;refine oH (fun a w=>∃ (i K:Int),Z= .nx (i,K)∧Sk a 49 [(0,A),(1,C),(2,.func (.func h) #[] x.toArray),(8,xC (j.length:Int)),(9,xC i)]∧Sep [] B e w []∧xS i∧xS K) ?_ ?_
 ·
  refine oJ ?_;obtain⟨a8,a9,d⟩:=bJ d;refine qK (fun g a w=>∃ (n p:Int),fA a8 g (n,p)=some Z∧Sk a 49 [(0,A),(1,C),(2,.func (.func h) #[] x.toArray),(8,xC (j.length:Int)),(9,xC n),(10,xC p)]∧Sep [] B e w []∧xS n∧xS p) N ?_ ?_
  ·
   exact⟨0,(j.length:Int),d,F.su,H,(show xS (0) by decide),i1⟩
  intro g1 a w ⟨n,p,d,F,H,i2,i3⟩;obtain⟨aq,t1,ar,d,E⟩:=kR d;rw[a9] at d;refine xF (xV (xA 3 F rfl fun a F=>xJ (qV F rfl (fun G=>?_) (fun G=>?_))))
  ·
   replace d:=vX G d;refine xN (xG (oJ (xV (xA 2 F rfl fun a F=>?_))));obtain⟨z1,M,d⟩:=xB d;refine cX F rfl rfl rfl M (fun a F=>?_);obtain⟨t,f,d⟩:=xB d
   have i4:xS t:=by rw[(lN f).2];exact(kV M)
   refine oU1 underlying3 underlying156 F rfl rfl (kV M) f fun a F=>oU2 F rfl rfl fun a F=>oU3 underlying156 underlying3 F rfl rfl (xJj i4 (lN (show nn t=some t by rw[(lN f).2];exact((lN f).2.symm ▸ f))).1) fun a F=>xA 1 F rfl fun a F=>vG (xA 3 F rfl fun a F=>?_);obtain⟨z3,c3,d⟩:=xB d;refine oI underlying38 sizeOf41 F rfl rfl rfl J c3 fun a p1 h1 F=>olS isAgg41 F rfl rfl H.sm h1 fun a v2 aa F=>xA 1 F rfl fun a F=>?_;obtain⟨z4,c4,d⟩:=xB d;refine xPv F rfl rfl P rfl H (Q _ _ z4 c4 _ H.bl _ _ (H.a aa) (H.a T)) fun a w H au F=>xA 1 F rfl fun a F=>xJ (qV F rfl (fun I=>?_) (fun I=>?_))
   ·
    replace d:=vX I d;refine xY (xA 1 F rfl fun a F=>?_);obtain⟨z5,c5,d⟩:=xB d;refine cX F rfl rfl rfl c5 fun a F=>xA 1 F rfl fun a F=>qU (vH (xG ?_));replace d:=vU d E;exact⟨t1,(by omega),z5,p,d,F.su,H,(kV c5),i3⟩
   replace d:=vW I d;refine xY (xA 2 F rfl fun a F=>qU (vH (xG ?_)));replace d:=vU d E;exact⟨t1,(by omega),n,(t / 2),d,F.su,H,i2,(xJj i4 (lN (show nn t=some t by rw[(lN f).2];exact((lN f).2.symm ▸ f))).1)⟩
  replace d:=vW G d;refine qJ (qM (qM ?_));replace d:=gV d E;refine zQ (xG ?_);exact⟨n,p,(zH d),F.su,H,i2,i3⟩
 rintro a w ⟨i,K,rfl,F,H,i5,i6⟩
 have d:=xW a7;refine xG (xF ?_);obtain⟨o2,d,ab⟩:=xM d;refine oH (fun a w=>∃ (D:Int) (O:Bool),o2= .nx (D,O)∧Sk a 49 [(6,xC D),(7,.bool O)]∧Sep [] B e w []∧xS D) ?_ ?_
 ·
  refine xY (xA 5 F rfl fun a F=>?_)
  rcases vR (decide (i<(j.length:Int))) with y | y
  ·
   replace d:=vX y d;have F:=F.eb 39 rfl y;refine xA 3 F rfl fun a F=>?_;obtain⟨z6,c6,d⟩:=xB d;refine oI underlying38 sizeOf41 F rfl rfl rfl J c6 fun a p2 h2 F=>olS isAgg41 F rfl rfl H.sm h2 fun a v3 h3 F=>xA 1 F rfl fun a F=>?_;obtain⟨z7,c7,d⟩:=xB d;refine xPv F rfl rfl P rfl H (Q _ _ z7 c7 _ H.bl _ _ (H.a h3) (H.a T)) fun a w H av F=>xA 4 F rfl fun a F=>xJ ?_;exact⟨i,(z7==0),(zH d),F.su,H,i5⟩
  replace d:=vW y d;have F:=F.eb 39 rfl y;refine xA 11 F rfl fun a F=>?_;refine xJ ?_;exact⟨i,false,(zH d),F.su,H,i5⟩
 rintro a w ⟨D,O,rfl,F,H,i7⟩
 have d:=xW ab;refine xG (xR (vJ F rfl (oE F rfl) (oE F rfl) ?_));obtain rfl:=oj d;exact⟨_,rfl,rfl,H,i7⟩
def fH (c:Int):Option Bool:=
 some ((c != c))
theorem mJ {B:Nat→Prop} {d:Int} (r:Bool) (f:fH d=some r)  (e:World) (h:∀ c,B c→c<e.heap.size) (i:xS d):Calls Tryz.prog 169 #[xC d] e (kL (.bool r) e):=by
 unfold fH at f
 refine xX (L:=[(0,xC d)]) func169 rfl rfl rfl (sc rfl sn) (fun a F=>?_);have H:=Sep.start h;refine xV (xA 1 F rfl fun a F=>vG (xA 4 F rfl fun a F=>?_));refine xJ (xR (xT F rfl (oE F rfl) ?_));obtain rfl:=oj f;exact⟨rfl,H.bl⟩
def cF (c d:Int):Option Int:=
 xZ (fH c) fun f=>
 xZ (fH d) fun e=>
 if f then
  if e then
   some 0
  else
   some ((-1))
 else
  if e then
   some 1
  else
   if (decide (c<d)) then
    some ((-1))
   else
    if (decide (d<c)) then
     some 1
    else
     some 0
theorem rQ {B:Nat→Prop} {e f:Int} (r:Int) (d:cF e f=some r)  (t:World) (A:∀ c,B c→c<t.heap.size) (x:xS e) (y:xS f):Calls Tryz.prog 153 #[xC e,xC f] t (fS r t):=by
 unfold cF at d
 refine xX (L:=[(0,xC e),(1,xC f)]) func153 rfl rfl rfl (sc rfl (sc rfl sn)) (fun a F=>?_);have H:=Sep.start A;refine xV (xA 1 F rfl fun a F=>vG (xA 1 F rfl fun a F=>?_));obtain⟨C,D,d⟩:=xB d;refine oK F rfl call169 rfl H (mJ C D _ aA x) fun a w H F=>xA 1 F rfl fun a F=>vG (xA 1 F rfl fun a F=>?_);obtain⟨E,G,d⟩:=xB d;refine oK F rfl call169 rfl H (mJ E G _ aA y) fun a w H F=>xA 1 F rfl fun a F=>xJ (xF (xV (xA 1 F rfl fun a F=>xJ (qV F rfl (fun i=>?_) (fun i=>?_)))))
 ·
  replace d:=vX i d;refine xF (xV (xA 1 F rfl fun a F=>xJ (qV F rfl (fun h=>?_) (fun h=>?_))))
  ·
   replace d:=vX h d;refine xV (xA 1 F rfl fun a F=>xJ (xR (oQ (oQ (xT F rfl (oE F rfl) ?_)))));obtain rfl:=oj d;exact⟨⟨rfl,H.bl⟩,(show xS (0) by decide)⟩
  replace d:=vW h d;refine xN (xG (xV (xA 1 F rfl fun a F=>xJ (xR (oQ (xT F rfl (oE F rfl) ?_))))));obtain rfl:=oj d;exact⟨⟨rfl,H.bl⟩,(show xS (-1) by decide)⟩
 replace d:=vW i d;refine xN (xG (xF (xV (xA 1 F rfl fun a F=>xJ (qV F rfl (fun j=>?_) (fun j=>?_))))))
 ·
  replace d:=vX j d;refine xV (xA 1 F rfl fun a F=>xJ (xR (oQ (xT F rfl (oE F rfl) ?_))));obtain rfl:=oj d;exact⟨⟨rfl,H.bl⟩,(show xS (1) by decide)⟩
 replace d:=vW j d;refine xN (xG (xF (xV (xA 3 F rfl fun a F=>xJ (qV F rfl (fun n=>?_) (fun n=>?_))))))
 ·
  replace d:=vX n d;refine xV (xA 1 F rfl fun a F=>xJ (xR (oQ (xT F rfl (oE F rfl) ?_))));obtain rfl:=oj d;exact⟨⟨rfl,H.bl⟩,(show xS (-1) by decide)⟩
 replace d:=vW n d;refine xN (xG (xF (xV (xA 3 F rfl fun a F=>xJ (qV F rfl (fun p=>?_) (fun p=>?_))))))
 ·
  replace d:=vX p d;refine xV (xA 1 F rfl fun a F=>xJ (xR (oQ (xT F rfl (oE F rfl) ?_))));obtain rfl:=oj d;exact⟨⟨rfl,H.bl⟩,(show xS (1) by decide)⟩
 replace d:=vW p d;refine xN (xG (xV (xA 1 F rfl fun a F=>xJ (xR (xT F rfl (oE F rfl) ?_)))));obtain rfl:=oj d;exact⟨⟨rfl,H.bl⟩,(show xS (0) by decide)⟩
def zN (d c:List Int):Option Int:=
 zR (σ:=Unit) (
  qT (σ:=Unit) (ρ:=Int) (fun (e:Nat) (h:Int) (s:Unit)=>
    match s with
    | _=>
    if (decide ((c.length:Int)≤(e:Int))) then
     some (.ret 1)
    else
     xZ (ix c (e:Int)) fun i=>
     xZ (cF h i) fun f=>
     if (f != 0) then
      some (.ret f)
     else
      some (.go ())) d 0 ()) fun _=>
 if (decide ((d.length:Int)<(c.length:Int))) then
  some ((-1))
 else
  some 0
theorem eX {B:Nat→Prop} {h I:List Int} (r:Int) (d:zN h I=some r) {j:Value} {p:Value} (i:World) (Q:∀ c,B c→c<i.heap.size) (D:Bo B i (Sl 1 xI) j h) (E:Bo B i (Sl 1 xI) p I):Calls Tryz.prog 140 #[j,p] i (fS r i):=by
 unfold zN at d
 refine xX (L:=[(0,j),(1,p)]) func140 rfl rfl rfl (sc rfl (sc rfl sn)) (fun a F=>?_);have H:=Sep.start Q;refine xV (xA 1 F rfl fun a F=>xJ (xF (xV (xA 1 F rfl fun a F=>oL underlying41 F rfl rfl D fun a J F=>xA 1 F rfl fun a F=>?_))));refine xJ ?_;obtain⟨K,d,t⟩:=xM d;refine oH (fun a w=>K= .nx ()∧Sk a 36 [(0,j),(1,p)]∧Sep [] B i w []) ?_ ?_
 ·
  refine oJ ?_;obtain⟨M,N,d⟩:=qP d;refine qK (fun g a w=>∃ (n:Nat) (f:List Int),(n≤h.length∧h.drop n=f)∧f.length=g∧qT M f n ()=some K∧Sk a 36 [(11,xC (n:Int)),(0,j),(1,p),(9,j),(10,xC (h.length:Int))]∧Sep [] B i w []) h.length ?_ ?_
  ·
   exact⟨0,h,⟨Nat.zero_le _,rfl⟩,rfl,d,F.su,H⟩
  intro g1 a w ⟨n,f,e,O,d,F,H⟩
  cases f with
  | nil=>
   replace d:=qO d;have R:=qQ e.1 e.2;have G:=vS R;refine xV (xA 1 F rfl fun a F=>xJ (xF (zD F rfl G (qJ (qM (qM (zQ ?_)))))));refine xG ?_;exact⟨(zH d),F.su,H⟩
  | cons x2 f=>
   subst O;replace e:=oZ e.2;have S:=qX e.2.1;obtain⟨a1,d,x⟩:=qG d;rw[N] at d;have G:=vE e.1;refine xV (xA 1 F rfl fun a F=>xJ (xF (zC F rfl G (xN (xG (xF ?_))))));have j1:=gP (Nat.le_of_lt e.1) J;have T:=zU e.1 J;refine oJ (xV (xA 1 F rfl fun a F=>oI underlying41 sizeOf2 F rfl rfl rfl D S fun a p1 U F=>olI isAgg2 F rfl rfl H.sm U fun a V F=>xA 2 F rfl fun a F=>xJ (xF ?_)));refine xV (xA 2 F rfl fun a F=>oL underlying41 F rfl rfl E fun a i3 F=>xA 1 F rfl fun a F=>xJ (qV F rfl (fun y=>?_) (fun y=>?_)))
   ·
    replace d:=vX y d;refine xV (xA 1 F rfl fun a F=>xJ (xR (oQ (vT (oQ (oQ ?_))))));replace d:=kD d x;refine vT (oQ ?_);replace d:=zZ d t;refine oQ (xT F rfl (oE F rfl) ?_);obtain rfl:=oj d;exact⟨⟨rfl,H.bl⟩,(show xS (1) by decide)⟩
   replace d:=vW y d;refine xN (xG (xV (xA 2 F rfl fun a F=>?_)));obtain⟨z1,W,d⟩:=xB d;refine oI underlying41 sizeOf2 F rfl rfl rfl E W fun a p2 X F=>olI isAgg2 F rfl rfl H.sm X fun a Y F=>xA 1 F rfl fun a F=>vG (xA 2 F rfl fun a F=>?_);obtain⟨Z,c2,d⟩:=xB d;refine oKI F rfl call153 rfl H (rQ Z c2 _ aA V Y) fun a w H P F=>xA 1 F rfl fun a F=>vG (xA 2 F rfl fun a F=>xJ (qV F rfl (fun A=>?_) (fun A=>?_)))
   ·
    replace d:=vX A d;refine xV (xA 2 F rfl fun a F=>xJ (xR (vT (oQ (oQ ?_)))));replace d:=kD d x;refine vT (oQ ?_);replace d:=zZ d t;refine oQ (xT F rfl (oE F rfl) ?_);obtain rfl:=oj d;exact⟨⟨rfl,H.bl⟩,P⟩
   replace d:=vW A d;refine xN (vH (xG (xY (vP F rfl rfl rfl T fun a F=>xA 1 F rfl fun a F=>xJ ?_))));replace d:=vU d x;exact⟨_,Nat.lt_succ_self _,n+1,f,⟨e.1,e.2.2⟩,rfl,d,F.su,H⟩
 rintro a w ⟨rfl,F,H⟩
 have d:=xW t;refine xG (xF (xV (xA 1 F rfl fun a F=>oL underlying41 F rfl rfl D fun a i5 F=>xA 1 F rfl fun a F=>oL underlying41 F rfl rfl E fun a i6 F=>xA 1 F rfl fun a F=>xJ ?_)));refine qV F rfl (fun C=>?_) (fun C=>?_)
 ·
  replace d:=vX C d;refine xV (xA 1 F rfl fun a F=>xJ (xR (oQ (xT F rfl (oE F rfl) ?_))));obtain rfl:=oj d;exact⟨⟨rfl,H.bl⟩,(show xS (-1) by decide)⟩
 replace d:=vW C d;refine xN (xG (xV (xA 1 F rfl fun a F=>xJ (xR (xT F rfl (oE F rfl) ?_)))));obtain rfl:=oj d;exact⟨⟨rfl,H.bl⟩,(show xS (0) by decide)⟩
def gD (c d:List Int):Option Int:=
 xZ (zN c d) fun e=>
 some e
theorem uO {B:Nat→Prop} {i j:List Int} (r:Int) (e:gD i j=some r) {f:Value} {h:Value} (d:World) (p:∀ c,B c→c<d.heap.size) (t:Bo B d (Sl 1 xI) f i) (x:Bo B d (Sl 1 xI) h j):Calls Tryz.prog 166 #[f,h] d (fS r d):=by
 unfold gD at e
 refine xX (L:=[(0,f),(1,h)]) func166 rfl rfl rfl (sc rfl (sc rfl sn)) (fun a F=>?_);have H:=Sep.start p;refine xV (xA 1 F rfl fun a F=>vG (xA 2 F rfl fun a F=>?_));obtain⟨y,A,e⟩:=xB e;refine oKI F rfl call140 rfl H (eX y A _ aA (H.a t) (H.a x)) fun a w H n F=>xA 1 F rfl fun a F=>xJ (xR (xT F rfl (oE F rfl) ?_));obtain rfl:=oj e;exact⟨⟨rfl,H.bl⟩,n⟩
def iS (N:Nat) (c:Rel) (d:List Int):Option Bool:=
 xZ (zF N c.tuples d (fun e f=>gD e f)) fun h=>
 some h.2
theorem yM {B:Nat→Prop} {N:Nat} {j:Rel} {n:List Int} (r:Bool) (e:iS N j n=some r) {f:Value} {i:Value} (d:World) (t:∀ c,B c→c<d.heap.size) (x:Bo B d (kK 2 oV) f j) (y:Bo B d (Sl 1 xI) i n):Calls Tryz.prog 145 #[f,i] d (kL (.bool r) d):=by
 unfold iS at e
 refine xX (L:=[(0,f),(1,i)]) func145 rfl rfl rfl (sc rfl (sc rfl sn)) (fun a F=>?_);have H:=Sep.start t;refine xV ?_;obtain⟨G,rfl,I,A⟩:=oV.o x;refine oX F rfl rfl rfl H fun a w J H F=>xA 1 F rfl fun a F=>vG (oD bG F rfl rfl rfl fun a F=>oB isAgg38 F rfl rfl (H.b 0 rfl) rfl fun a F=>xA 1 F rfl fun a F=>?_);obtain⟨C,p,e⟩:=xB e;refine oG F rfl call165 rfl (dC C p _ aA (H.a A) (H.a y) call166 (fun K M r h W O P Q f0 f1=>uO r h W aA f0 f1)) (fun a D w ⟨E,S,R⟩ F=>?_);subst D;have H:=H.r0 S;refine xA 5 F rfl fun a F=>vG (xA 2 F rfl fun a F=>?_);refine xJ (xR (xT F rfl (oE F rfl) ?_));obtain rfl:=oj e;exact⟨rfl,H.bl⟩
def bD (N:Nat) (e:Template) (c:Atom) (f:List Int):Option Bool:=
 xZ (mF f c.args) fun d=>
 if (c.rel==(-1)) then
  xZ (ix d 0) fun h=>
  xZ (ix d 1) fun i=>
  some ((h==i))
 else
  xZ (ix e.rels c.rel) fun j=>
  xZ (iS N j d) fun n=>
  some n
theorem pJ {B:Nat→Prop} {N:Nat} {n:Template} {p:Atom} {t:List Int} (r:Bool) (d:bD N n p t=some r) {h:Value} {i:Value} {j:Value} (e:World) (x:∀ c,B c→c<e.heap.size) (y:Bo B e (kK 2 xH) h n) (A:Bo B e (kK 2 zW) i p) (C:Bo B e (Sl 1 xI) j t):Calls Tryz.prog 121 #[h,i,j] e (kL (.bool r) e):=by
 unfold bD at d
 refine xX (L:=[(0,h),(1,i),(2,j)]) func121 rfl rfl rfl (sc rfl (sc rfl (sc rfl sn))) (fun a F=>?_);have H:=Sep.start x;refine xV ?_;obtain⟨Z,rfl,i1,D⟩:=xH.o y;refine oX F rfl rfl rfl H (fun a w b1 H F=>?_);obtain⟨W,rfl,i2,E⟩:=zW.o A;refine oX F rfl rfl rfl H fun a w b2 H F=>xA 1 F rfl fun a F=>vG (xA 1 F rfl fun a F=>oD xGv F rfl rfl rfl fun a F=>oB isAgg41 F rfl rfl (H.b 0 rfl) rfl (fun a F=>?_));obtain⟨G,I,d⟩:=xB d;refine oG F rfl call144 rfl (xBb G I _ aA (H.a C) (H.a E)) (fun a J w ⟨v4,X,S⟩ F=>?_);subst J;have H:=H.r1 S n0;refine xA 1 F rfl fun a F=>xJ (xF (xV (oD xHj F rfl rfl rfl fun a F=>oB isAgg2 F rfl rfl (H.b 1 rfl) rfl fun a F=>xA 1 F rfl fun a F=>xJ ?_)));refine qV F rfl (fun f=>?_) (fun f=>?_)
 ·
  replace d:=vX f d;refine xF (xQ H (by kernel_rfl) (by kernel_rfl) (xP F rfl (fun w l=>xL F rfl) (fun a F=>?_)));obtain⟨z2,K,d⟩:=xB d;refine qI underlying41 sizeOf2 F rfl rfl rfl (H.l 0 rfl) K fun a p1 M F=>qlI isAgg2 F rfl rfl qA M fun a i3 F=>xP F rfl (fun w l=>xL F rfl) (fun a F=>?_);obtain⟨z3,O,d⟩:=xB d;refine qI underlying41 sizeOf2 F rfl rfl rfl (H.l 0 rfl) O fun a Y P F=>qlI isAgg2 F rfl rfl qA P fun a i4 F=>xP F rfl (fun w l=>tN F rfl rfl) fun a F=>xP F rfl (fun w l=>vK F rfl) fun a F=>kZ fun w H=>xG (xR (oQ (xT F rfl (oE F rfl) ?_)));obtain rfl:=oj d;exact⟨rfl,H.bl⟩
 replace d:=vW f d;refine xN (xG (xV (oD kG F rfl rfl rfl fun a F=>oB isAgg24 F rfl rfl (H.b 2 rfl) rfl fun a F=>oD xHj F rfl rfl rfl fun a F=>oB isAgg2 F rfl rfl (H.b 1 rfl) rfl (fun a F=>?_))));obtain⟨z4,Q,d⟩:=xB d;refine oI underlying24 sizeOf66 F rfl rfl rfl D Q fun a p2 R F=>olA isAgg66 sizeOf66 F rfl rfl H.sm R fun a v5 T F=>xA 1 F rfl fun a F=>?_;obtain⟨U,V,d⟩:=xB d;refine oK F rfl call145 rfl H (yM U V _ aA (H.a T) (H.l 0 rfl)) fun a w H F=>xA 1 F rfl fun a F=>xJ (xR (xT F rfl (oE F rfl) ?_));obtain rfl:=oj d;exact⟨rfl,H.bl⟩
def fE (N:Nat) (c:Atom) (d:solver) (e:(List Int)):Option Bool:=
 xZ (bD N d.t (Atom.mk c.rel c.args) e) fun f=>
 some ((!f))
theorem pX {B:Nat→Prop} {N:Nat} {p:Atom} {t:solver} {x:(List Int)} (r:Bool) (e:fE N p t x=some r) {f:Value} {i:Value} {j:Value} (d:World) (y:∀ c,B c→c<d.heap.size) (A:Bo B d (kK 2 zW) f p) (C:Bo B d (Pt 1 (RP 4 kU)) i t) (D:Bo B d (Pt 1 (vQ 1 xI)) j x):Calls Tryz.prog 120 #[f,i,j] d (kL (.bool r) d):=by
 unfold fE at e
 refine xX (L:=[(0,f),(1,i),(2,j)]) func120 rfl rfl rfl (sc rfl (sc rfl (sc rfl sn))) (fun a F=>?_);have H:=Sep.start y;refine xV ?_;obtain⟨P,rfl,E,G⟩:=zW.o A;refine oX F rfl rfl rfl H fun a w Q H F=>xA 1 F rfl fun a F=>xJ (xF (xQ H (by kernel_rfl) (by kernel_rfl) (qlP isAgg84 F rfl rfl H.q C fun a R n F=>qN F rfl rfl n fun a F=>qF (s':=2) xHv F rfl rfl n kU.f0 fun a S I F=>qlA isAgg26 sizeOf26 F rfl rfl H.q I fun a T J F=>qBA isAgg141 sizeOf141 F rfl rfl (H.qb 0 rfl) rfl rfl (fun a F=>?_))));refine qlS isAgg41 F rfl rfl H.q D (fun a U K F=>?_);obtain⟨M,O,e⟩:=xB e;refine fX F rfl call121 rfl (fun w w' h l=>l.through h) (fun w l=>pJ M O w aA ((H.go l).a J) (zW.m E ((H.go l).a G)) ((H.go l).a K)) fun a F=>xP F rfl (fun w l=>lD F rfl) fun a F=>xP F rfl (fun w l=>vK F rfl) fun a F=>kZ fun w H=>xG (xR (xT F rfl (oE F rfl) ?_));obtain rfl:=oj e;exact⟨rfl,H.bl⟩
def aO (c:List Atom) (d:Atom→Option Bool):Option Int:=
 zR (σ:=Unit) (
  qT (σ:=Unit) (ρ:=Int) (fun (e:Nat) (f:Atom) (s:Unit)=>
    match s with
    | _=>
    xZ (d f) fun h=>
    if h then
     some (.ret ((e:Int)))
    else
     some (.go ())) c 0 ()) fun _=>
 some ((-1))
theorem jF {B:Nat→Prop} {h:List Atom} {D:Atom→Option Bool} (r:Int) (d:aO h D=some r) {t:Value} {j:FuncId} {p:List Value} (f:World) (S:∀ c,B c→c<f.heap.size) (E:Bo B f (Sl 2 zW) t h) (M:∀ args w,(callFunc j args).run Tryz.prog w= .ok (.enter j args) w) (N:∀ (G:Atom) (r:Bool),D G=some r→∀ W,Below f.heap.size f W→∀ (I:Value),Bo (All W) W (kK 2 zW) I G→Calls Tryz.prog j ([I]++p:List Value).toArray W (kL (.bool r) W)):Calls Tryz.prog 143 #[t,.func (.func j) #[] p.toArray] f (fS r f):=by
 unfold aO at d
 refine xX (L:=[(0,t),(1,.func (.func j) #[] p.toArray)]) func143 rfl rfl rfl (sc rfl (sc rfl sn)) (fun a F=>?_);have H:=Sep.start S;refine xV (xA 1 F rfl fun a F=>xJ (xF (xV (xA 1 F rfl fun a F=>oL underlying139 F rfl rfl E fun a J F=>xA 1 F rfl fun a F=>?_))));refine xJ ?_;obtain⟨K,d,A⟩:=xM d;refine oH (fun a w=>K= .nx ()∧Sk a 19 []∧Sep [] B f w []) ?_ ?_
 ·
  refine oJ ?_;obtain⟨O,P,d⟩:=qP d;refine qK (fun g a w=>∃ (n:Nat) (i:List Atom),(n≤h.length∧h.drop n=i)∧i.length=g∧qT O i n ()=some K∧Sk a 19 [(8,xC (n:Int)),(0,t),(1,.func (.func j) #[] p.toArray),(7,xC (h.length:Int))]∧Sep [] B f w []) h.length ?_ ?_
  ·
   exact⟨0,h,⟨Nat.zero_le _,rfl⟩,rfl,d,F.su,H⟩
  intro g2 a w ⟨n,i,e,Q,d,F,H⟩
  cases i with
  | nil=>
   replace d:=qO d;have T:=qQ e.1 e.2;have y:=vS T;refine xV (xA 1 F rfl fun a F=>xJ (xF (zD F rfl y (qJ (qM (qM (zQ ?_)))))));refine xG ?_;exact⟨(zH d),F.sub sn,H⟩
  | cons x2 i=>
   subst Q;replace e:=oZ e.2;have U:=qX e.2.1;obtain⟨a1,d,C⟩:=qG d;rw[P] at d;have y:=vE e.1;refine xV (xA 1 F rfl fun a F=>xJ (xF (zC F rfl y (xN (xG (xF ?_))))));have V:=gP (Nat.le_of_lt e.1) J;have X:=zU e.1 J;refine oJ (xV (xA 2 F rfl fun a F=>vG (xA 2 F rfl fun a F=>?_)));refine xA 1 F rfl fun a F=>oI underlying139 sizeOf141 F rfl rfl rfl E U fun a p1 R F=>olA isAgg141 sizeOf141 F rfl rfl H.sm R (fun a v1 Y F=>?_);obtain⟨Z,c1,d⟩:=xB d;refine oKV F rfl rfl M rfl H (N _ Z c1 _ H.bl _ (H.a Y)) fun a w H F=>xJ (qV F rfl (fun x=>?_) (fun x=>?_))
   ·
    replace d:=vX x d;refine xV (xA 2 F rfl fun a F=>xJ (xR (vT (oQ (oQ ?_)))));replace d:=kD d C;refine vT (oQ ?_);replace d:=zZ d A;refine oQ (xT F rfl (oE F rfl) ?_);obtain rfl:=oj d;exact⟨⟨rfl,H.bl⟩,V⟩
   replace d:=vW x d;refine xN (vH (xG (xY (vP F rfl rfl rfl X fun a F=>xA 1 F rfl fun a F=>xJ ?_))));replace d:=vU d C;exact⟨_,Nat.lt_succ_self _,n+1,i,⟨e.1,e.2.2⟩,rfl,d,F.su,H⟩
 rintro a w ⟨rfl,F,H⟩
 have d:=xW A;refine xG (xV (xA 1 F rfl fun a F=>xJ (xR (xT F rfl (oE F rfl) ?_))));obtain rfl:=oj d;exact⟨⟨rfl,H.bl⟩,(show xS (-1) by decide)⟩
def kH (c:List Atom) (d:Atom→Option Bool):Option Bool:=
 xZ (aO c d) fun e=>
 some ((decide (0≤e)))
theorem iJ {B:Nat→Prop} {p:List Atom} {t:Atom→Option Bool} (r:Bool) (f:kH p t=some r) {n:Value} {e:FuncId} {j:List Value} (d:World) (C:∀ c,B c→c<d.heap.size) (D:Bo B d (Sl 2 zW) n p) (y:∀ args w,(callFunc e args).run Tryz.prog w= .ok (.enter e args) w) (A:∀ (i:Atom) (r:Bool),t i=some r→∀ W,Below d.heap.size d W→∀ (x:Value),Bo (All W) W (kK 2 zW) x i→Calls Tryz.prog e ([x]++j:List Value).toArray W (kL (.bool r) W)):Calls Tryz.prog 119 #[n,.func (.func e) #[] j.toArray] d (kL (.bool r) d):=by
 unfold kH at f
 refine xX (L:=[(0,n),(1,.func (.func e) #[] j.toArray)]) func119 rfl rfl rfl (sc rfl (sc rfl sn)) (fun a F=>?_);have H:=Sep.start C;refine xV (xA 1 F rfl fun a F=>vG (xA 2 F rfl fun a F=>?_));obtain⟨E,G,f⟩:=xB f;refine oKI F rfl call143 rfl H (jF E G _ aA (H.a D) y (fun i r h W I=>A i r h W (H.bl.trans (I.mono H.fr.size)))) fun a w H J F=>xA 2 F rfl fun a F=>xJ (xR (xT F rfl (oE F rfl) ?_));obtain rfl:=oj f;exact⟨rfl,H.bl⟩
def aU (N:Nat) (c:solver) (d:List Int):Option Bool:=
 xZ (ck ((d.length:Int) - 1)) fun e=>
 xZ (ix c.due e) fun f=>
 xZ (kH f (fun h=>fE N h c d)) fun i=>
 some ((!i))
theorem mC {B:Nat→Prop} {N:Nat} {p:solver} {t:List Int} (r:Bool) (d:aU N p t=some r) {i:Value} {j:Value} (e:World) (A:∀ c,B c→c<e.heap.size) (f:Bo B e (Pt 4 kU) i p) (n:Bo B e (Sl 1 xI) j t):Calls Tryz.prog 91 #[i,j] e (kL (.bool r) e):=by
 unfold aU at d
 refine xX (L:=[(0,i),(1,j)]) func91 rfl rfl rfl (sc rfl (sc rfl sn)) (fun a F=>?_);have H:=Sep.start A;refine xV (oX F rfl rfl (nJ (H.a f).pone) H fun a w M H F=>oX F rfl rfl (nJ (H.a n).one) H fun a w O H F=>xA 1 F rfl fun a F=>xJ (xF (xQ H (by kernel_rfl) (by kernel_rfl) (qB isAgg84 F rfl rfl (H.qb 1 rfl) rfl fun a F=>qN F rfl rfl f (fun a F=>?_)))));refine qF (s':=1) xCa F rfl rfl f kU.f2 fun a P C F=>qlS isAgg143 F rfl rfl H.q C fun a Q y F=>qB isAgg41 F rfl rfl (H.qb 0 rfl) rfl fun a F=>qL underlying41 F rfl rfl n (fun a R F=>?_);obtain⟨S,D,d⟩:=xB d;refine xP F rfl (fun w l=>rC F rfl rfl D) (fun a F=>?_);obtain⟨T,E,d⟩:=xB d;refine qI underlying143 sizeOf139 F rfl rfl rfl y E fun a U G F=>qlS isAgg139 F rfl rfl H.q G fun a V I F=>xP F rfl (fun w l=>xFr F rfl rfl) (fun a F=>?_);obtain⟨J,K,d⟩:=xB d;refine fX F rfl call119 rfl (fun w w' h l=>l.through h) (fun w l=>iJ J K w aA ((H.go l).a I) call120 (fun X r h W x Y f0=>pX r h W aA f0 ((c1P ((H.go l).g 1 rfl).bk ((H.go l).a f)).w x) ((c1S ((H.go l).g 0 rfl).bk ((H.go l).a n)).w x))) fun a F=>xP F rfl (fun w l=>lD F rfl) fun a F=>xP F rfl (fun w l=>vK F rfl) fun a F=>kZ fun w H=>xG (xR (xT F rfl (oE F rfl) ?_));obtain rfl:=oj d;exact⟨rfl,H.bl⟩
def zP (c:List Int):Option (List Int):=
 some c
theorem lI {B:Nat→Prop} {i:List Int} (r:(List Int)) (j:zP i=some r) {e:Value} (d:World) (n:∀ c,B c→c<d.heap.size) (f:Bo B d (Sl 1 xI) e i):Calls Tryz.prog 90 #[e] d (Gv (fun v w'=>∃ (h:Option Addr),v=(.slice h r.length r.length)∧Sep [] B d w' []∧Bo B d (Sl 1 xI) (.slice h r.length r.length) r)):=by
 unfold zP at j
 refine xX (L:=[(0,e)]) func90 rfl rfl rfl (sc rfl sn) (fun a F=>?_);have H:=Sep.start n;refine xV (xA 1 F rfl fun a F=>vG (xA 2 F rfl fun a F=>oL underlying41 F rfl rfl f fun a x F=>xA 1 F rfl fun a F=>?_));refine oL underlying41 F rfl rfl f fun a y F=>oCl underlying41 sizeOf2 F rfl rfl rfl rfl f fun a p t F=>xA 1 F rfl fun a F=>xJ (xR (xT F rfl (oE F rfl) ?_));obtain rfl:=oj j;exact⟨_,rfl,p,rfl,H,t⟩
def kY (c:List Int):Option Int:=
 zR (σ:=Unit) (
  if (decide ((c.length:Int)<1)) then
   none
  else
   some (.nx ())) fun _=>
 xZ (ix c 0) fun f=>
 zR (σ:=Int) (
  aS (σ:=Int) (ρ:=Int) (fun (h:Nat) (d:Int)=>
   xZ (ix c (1+(h:Int))) fun e=>
   some (.go (if d<e then e else d))) ((c.length:Int) - 1).toNat 0 f) fun i=>
 some i
theorem mD {B:Nat→Prop} {p:List Int} (r:Int) (d:kY p=some r) {h:Value} (e:World) (O:∀ c,B c→c<e.heap.size) (i:Bo B e (Sl 1 xI) h p):Calls Tryz.prog 118 #[h] e (fS r e):=by
 unfold kY at d
 refine xX (L:=[(0,h)]) func118 rfl rfl rfl (sc rfl sn) (fun a F=>?_);have H:=Sep.start O;refine xV (xA 1 F rfl fun a F=>xJ (xF (xV (xA 1 F rfl fun a F=>oL underlying41 F rfl rfl i fun a i1 F=>xA 1 F rfl fun a F=>?_))));refine xJ ?_;obtain⟨P,d,J⟩:=xM d;refine oH (fun a w=>P= .nx ()∧Sk a 25 [(0,h)]∧Sep [] B e w []) ?_ ?_
 ·
  refine qV F rfl (fun x=>?_) (fun x=>?_)
  ·
   replace d:=vX x d
   cases d
  replace d:=vW x d;refine xN (xG ?_);exact⟨(zH d),F.su,H⟩
 rintro a w ⟨rfl,F,H⟩
 have d:=xW J;refine xG (xV (xA 1 F rfl fun a F=>?_));obtain⟨Q,R,d⟩:=xB d;refine oI underlying41 sizeOf2 F rfl rfl rfl i R fun a p1 S F=>olI isAgg2 F rfl rfl H.sm S fun a T F=>xA 1 F rfl fun a F=>xJ (xF (xV (xA 1 F rfl fun a F=>xJ ?_)));obtain⟨A,d,I⟩:=xM d;refine oH (fun a w=>∃ (t:Int),A= .nx t∧Sk a 25 [(3,xC t)]∧Sep [] B e w []∧xS t) ?_ ?_
 ·
  refine oJ ?_;obtain⟨K,M,d⟩:=dP d;refine qK (fun g a w=>∃ (j:Nat) (f:Int),j+g=((p.length:Int) - 1).toNat∧aS K g j f=some A∧Sk a 25 [(4,xC (1+(j:Int))),(0,h),(3,xC f)]∧Sep [] B e w []∧xS f) ((p.length:Int) - 1).toNat ?_ ?_
  ·
   exact⟨0,Q,(Nat.zero_add _),d,F.su,H,T⟩
  intro C a w ⟨j,f,n,d,F,H,D⟩
  cases C with
  | zero=>
   replace d:=cC d;have y:=xLk n;refine xF (xV (xA 2 F rfl fun a F=>oL underlying41 F rfl rfl i fun a i4 F=>xA 1 F rfl fun a F=>xJ (zD F rfl y (qJ ?_))));refine qM (qM (zQ (xG ?_)));exact⟨f,(zH d),F.su,H,D⟩
  | succ C=>
   obtain⟨Z,d,N⟩:=cI d;rw[M] at d;have y:=xIt n;refine xF (xV (xA 2 F rfl fun a F=>oL underlying41 F rfl rfl i fun a E F=>xA 1 F rfl fun a F=>xJ (zC F rfl y (xN ?_))));refine xG (xF ?_);have j1:=k64O n (show xS (1) by decide) E;have U:=xOh n (show xS (1) by decide) E;refine oJ (xY (xA 3 F rfl fun a F=>?_));obtain⟨G,V,d⟩:=xB d;refine oI underlying41 sizeOf2 F rfl rfl rfl i V fun a p2 W F=>olI isAgg2 F rfl rfl H.sm W fun a X F=>xPx F rfl rfl rfl fun a F=>xA 1 F rfl fun a F=>qU (vH (xG (xY (xA 1 F rfl fun a F=>xOm F rfl rfl rfl U fun a F=>xA 1 F rfl fun a F=>?_))));refine xJ ?_;replace d:=vU d N;exact⟨_,Nat.lt_succ_self _,j+1,(if f<G then G else f),(by omega),d,F.su,H,(xPc D X)⟩
 rintro a w ⟨t,rfl,F,H,Y⟩
 have d:=xW I;refine xG (xV (xA 2 F rfl fun a F=>xJ (xR (xT F rfl (oE F rfl) ?_))));obtain rfl:=oj d;exact⟨⟨rfl,H.bl⟩,Y⟩
def vA (c:List Int):Option (List Int):=
 xZ (ap ([]) c) fun d=>
 some d
theorem zO {B:Nat→Prop} {j:List Int} (r:(List Int)) (d:vA j=some r) {f:Value} (e:World) (t:∀ c,B c→c<e.heap.size) (n:Bo B e (Sl 1 xI) f j):Calls Tryz.prog 86 #[f] e (Gv (fun v w'=>∃ (h:Value),v=h∧Sep [] B e w' [rl 1 xI 2 h r])):=by
 unfold vA at d
 refine xX (L:=[(0,f)]) func86 rfl rfl rfl (sc rfl sn) (fun a F=>?_);have H:=Sep.start t;refine xV (xA 1 F rfl fun a F=>xJ (xF (xV (xA 1 F rfl fun a F=>oEn underlying41 F rfl rfl rfl (H.a n) fun a A p F=>qU ?_))));refine xG (qV F rfl (fun i=>?_) (fun i=>?_))
 ·
  replace d:some ([])=some r:=by rw[p i] at d;exact d
  refine xV (xA 1 F rfl fun a F=>xJ (xR (oQ (xT F rfl (oE F rfl) ?_))));obtain rfl:=oj d;exact⟨_,rfl,qD,rfl,(H.nl 1 xI 2)⟩
 refine xN (xG (xV (oR0 (R:=xI) underlying41 sizeOf2 F rfl H fun a w C H F=>xA 1 F rfl fun a F=>?_)));obtain⟨D,x,d⟩:=xB d;refine oPf (sz:=1) (R:=xI) (z:=(xC 0)) (bytes:=8) underlying41 (by kernel_rfl) rfl rfl F rfl rfl rfl H.lw (H.lw.a n) x (fun a w y H F=>?_);have H:=H.tl;refine xA 1 F rfl fun a F=>xJ (xR (xT F rfl (oE F rfl) ?_));obtain rfl:=oj d;exact⟨_,rfl,y,rfl,H⟩
end Go.Proofs.YtncganhbpbehaaaGreat
