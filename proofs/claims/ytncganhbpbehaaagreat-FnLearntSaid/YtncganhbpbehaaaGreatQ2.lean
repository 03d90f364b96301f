import Derived.Test.YtncganhbpbehaaaGreatQ1
import Derived.Test.YtncganhbpbehaaaGreatDS
namespace Go.Proofs.YtncganhbpbehaaaGreat
open Go.Proofs.Tryz
set_option maxHeartbeats 1000000
set_option linter.unusedVariables false
set_option linter.unusedSimpArgs false
set_option maxRecDepth 100000
open Go.RowKit
def jR (d:List Int):Option (List Int):=
 xZ (vA d) fun e=>
 xZ (aF e) fun c=>
 xZ (kW c) fun f=>
 some f
theorem xAn {B:Nat→Prop} {i:List Int} (r:(List Int)) (d:jR i=some r) {f:Value} (e:World) (j:∀ c,B c→c<e.heap.size) (n:Bo B e (Sl 1 xI) f i):Calls Tryz.prog 84 #[f] e (Gv (fun v w'=>∃ (h:Value),v=h∧Sep [] B e w' [rl 1 xI 2 h r])):=by
 unfold jR at d
 refine xX (L:=[(0,f)]) func84 rfl rfl rfl (sc rfl sn) (fun a F=>?_);have H:=Sep.start j;refine xV (xA 1 F rfl fun a F=>vG (xA 1 F rfl fun a F=>?_));obtain⟨p,t,d⟩:=xB d;refine oG F rfl call86 rfl (zO p t _ aA (H.a n)) (fun a x w ⟨G,D,S⟩ F=>?_);subst x;have H:=H.r1 S n0;refine xA 1 F rfl fun a F=>vG (xA 1 F rfl fun a F=>?_);obtain⟨E,y,d⟩:=xB d;refine xPg F rfl call116 rfl H y fun a w H F=>vG (xA 1 F rfl fun a F=>?_);obtain⟨I,A,d⟩:=xB d;refine xKi F rfl call117 rfl H A fun a w C H F=>xA 1 F rfl fun a F=>xJ (xR (xT F rfl (oE F rfl) ?_));obtain rfl:=oj d;exact⟨_,rfl,C,rfl,H⟩
def jJ (d:List Literal):Option Bool:=
 zR (σ:=(List Int)) (
  qT (σ:=(List Int)) (ρ:=Bool) (fun (p:Nat) (e:Literal) (f:(List Int))=>
   xZ (ap f ([e.var])) fun h=>
   some (.go h)) d 0 []) fun c=>
 zR (σ:=Bool) (
  xZ (gF (c.length:Int)) fun i=>
  if i then  xZ (jR c) fun j=>
   some (.nx ((j.length:Int)==(c.length:Int))) else  some (.nx false)) fun n=>
 some n
theorem xAy {B:Nat→Prop} {f:List Literal} (r:Bool) (d:jJ f=some r) {p:Value} (h:World) (W:∀ c,B c→c<h.heap.size) (I:Bo B h (Sl 2 xU) p f):Calls Tryz.prog 37 #[p] h (kL (.bool r) h):=by
 unfold jJ at d
 refine xX (L:=[(0,p)]) func37 rfl rfl rfl (sc rfl sn) (fun a F=>?_);have H:=Sep.start W;refine xV (xA 1 F rfl fun a F=>vG (oR0 (R:=xI) underlying41 sizeOf2 F rfl H fun a w X H F=>xA 1 F rfl fun a F=>xJ ?_));refine xF (xV (xA 1 F rfl fun a F=>oL underlying32 F rfl rfl I fun a J F=>xA 1 F rfl fun a F=>xJ ?_));obtain⟨K,d,O⟩:=xM d;refine oH (fun a w=>∃ (t:List Int) (C:Value),K= .nx t∧Sk a 30 [(3,C)]∧Sep [] B h w [rl 1 xI 2 C t]) ?_ ?_
 ·
  refine oJ ?_;obtain⟨P,Q,d⟩:=qP d;refine qK (fun g a w=>∃ (j:Nat) (i:List Literal) (x:List Int) (A:Value),(j≤f.length∧f.drop j=i)∧i.length=g∧qT P i j x=some K∧Sk a 30 [(9,xC (j:Int)),(3,A),(7,p),(8,xC (f.length:Int))]∧Sep [] B h w [rl 1 xI 2 A x]) f.length ?_ ?_
  ·
   exact⟨0,f,[],X,⟨Nat.zero_le _,rfl⟩,rfl,d,F.su,H⟩
  intro g1 a w ⟨j,i,x,A,e,T,d,F,H⟩
  cases i with
  | nil=>
   replace d:=qO d;have Y:=qQ e.1 e.2;have D:=vS Y;refine xV (xA 1 F rfl fun a F=>xJ (xF (zD F rfl D (qJ (qM (qM (zQ ?_)))))));refine xG ?_;exact⟨x,A,(zH d),F.su,H⟩
  | cons E i=>
   subst T;replace e:=oZ e.2;have Z:=qX e.2.1;obtain⟨ac,d,U⟩:=qG d;rw[Q] at d;have D:=vE e.1;refine xV (xA 1 F rfl fun a F=>xJ (xF (zC F rfl D (xN (xG (xF ?_))))));have j1:=gP (Nat.le_of_lt e.1) J;have m1:=zU e.1 J;refine oJ (xV (oI underlying32 sizeOf35 F rfl rfl rfl I Z fun a p1 h1 F=>olA isAgg35 sizeOf35 F rfl rfl H.sm h1 fun a v4 h2 F=>oA zeroValue35 F rfl rfl H (fun a w b1 H F=>?_)));obtain⟨rfl,i2,i3⟩:=xU.o h2;refine cN (vs:=[xC E.var,xC E.value]) sizeOf35 F rfl rfl rfl H (oc rfl (oc rfl on)) rfl rfl fun w H=>xJ (xY (xA 1 F rfl fun a F=>oD nW F rfl rfl rfl fun a F=>oB isAgg2 F rfl rfl (H.b 0 rfl) rfl fun a F=>cM (R:=xI) (y:=E.var) underlying41 sizeOf2 zeroValue2 rfl rfl F rfl rfl H (Eo.int i2) (fun a w v5 H F=>?_)));obtain⟨z1,c1,d⟩:=xB d;refine oPL (sz:=1) (R:=xI) (z:=(xC 0)) (bytes:=8) underlying41 (by kernel_rfl) rfl rfl F rfl rfl rfl (H.s [2,0,1] rfl rfl) c1 fun a w v6 H F=>xA 1 F rfl fun a F=>qU (vH (xG (xY (vP F rfl rfl rfl m1 fun a F=>xA 1 F rfl fun a F=>xJ ?_))));replace d:=vU d U;exact⟨_,Nat.lt_succ_self _,j+1,i,z1,v6,⟨e.1,e.2.2⟩,rfl,d,F.su,(H.s [0] rfl rfl)⟩
 rintro a w ⟨t,C,rfl,F,H⟩
 have d:=xW O;refine xG (xF ?_);obtain⟨o2,d,V⟩:=xM d;refine oH (fun a w=>∃ (G:Bool),o2= .nx G∧Sk a 30 [(2,.bool G)]∧Sep [] B h w []) ?_ ?_
 ·
  refine xY (xA 1 F rfl fun a F=>oL underlying41 F rfl rfl (H.l 0 rfl) (fun a i4 F=>?_));obtain⟨M,c2,d⟩:=xB d;refine oK F rfl call83 rfl H (pR M c2 _ aA i4) fun a w H F=>xA 1 F rfl fun a F=>?_
  rcases vR M with n | n
  ·
   replace d:=vX n d;have F:=F.eb 22 rfl n;refine xA 1 F rfl fun a F=>?_;obtain⟨N,c3,d⟩:=xB d;refine oG F rfl call84 rfl (xAn N c3 _ aA (H.l 0 rfl)) (fun a vv w ⟨v7,ad,S⟩ F=>?_);subst vv;have H:=H.r1 S n0;refine oL underlying41 F rfl rfl (H.l 0 rfl) fun a i5 F=>xA 1 F rfl fun a F=>oL underlying41 F rfl rfl (H.l 1 rfl) fun a i6 F=>xA 3 F rfl fun a F=>xJ ?_;exact⟨((N.length:Int)==(t.length:Int)),(zH d),F.su,(H.s [] rfl rfl)⟩
  replace d:=vW n d;have F:=F.eb 22 rfl n;refine xA 8 F rfl fun a F=>xJ ?_;exact⟨false,(zH d),F.su,(H.s [] rfl rfl)⟩
 rintro a w ⟨G,rfl,F,H⟩
 have d:=xW V;refine xG (xR (xT F rfl (oE F rfl) ?_));obtain rfl:=oj d;exact⟨rfl,H.bl⟩
def aX (c:List Literal) (d:Template) (e:Instance):Option Bool:=
 zR (σ:=Bool) (
  xZ (aR d e c) fun f=>
  if (!f) then  some (.nx true) else  xZ (jJ c) fun h=>
   some (.nx (!h))) fun i=>
 some i
theorem rI {B:Nat→Prop} {p:List Literal} {t:Template} {x:Instance} (r:Bool) (d:aX p t x=some r) {h:Value} {i:Value} {j:Value} (e:World) (G:∀ c,B c→c<e.heap.size) (y:Bo B e (Sl 2 xU) h p) (I:Bo B e (Pt 2 xH) i t) (J:Bo B e (Pt 2 xK) j x):Calls Tryz.prog 36 #[h,i,j] e (kL (.bool r) e):=by
 unfold aX at d
 refine xX (L:=[(0,h),(1,i),(2,j)]) func36 rfl rfl rfl (sc rfl (sc rfl (sc rfl sn))) (fun a F=>?_);have H:=Sep.start G;refine xV (xA 1 F rfl fun a F=>xJ (xF ?_));obtain⟨K,d,D⟩:=xM d;refine oH (fun a w=>∃ (n:Bool),K= .nx n∧Sk a 15 [(4,.bool n)]∧Sep [] B e w []) ?_ ?_
 ·
  refine xY (olA isAgg26 sizeOf26 F rfl rfl H.sm I fun a P M F=>olA isAgg29 sizeOf29 F rfl rfl H.sm J fun a Q N F=>xA 1 F rfl fun a F=>?_);obtain⟨A,O,d⟩:=xB d;refine oK F rfl call27 rfl H (lS A O _ aA (H.a M) (H.a N) (H.a y)) fun a w H F=>xA 2 F rfl fun a F=>?_
  rcases vR (!A) with f | f
  ·
   replace d:=vX f d;have F:=F.eb 10 rfl f;refine xA 5 F rfl fun a F=>xJ ?_;exact⟨true,(zH d),F.su,H⟩
  replace d:=vW f d;have F:=F.eb 10 rfl f;refine xA 1 F rfl fun a F=>?_;obtain⟨C,E,d⟩:=xB d;refine oK F rfl call37 rfl H (xAy C E _ aA (H.a y)) fun a w H F=>xA 3 F rfl fun a F=>xJ ?_;exact⟨(!C),(zH d),F.su,H⟩
 rintro a w ⟨n,rfl,F,H⟩
 have d:=xW D;refine xG (xR (xT F rfl (oE F rfl) ?_));obtain rfl:=oj d;exact⟨rfl,H.bl⟩
def kC (c:List (List Literal)) (d:(List Literal)→Option Bool):Option Int:=
 zR (σ:=Unit) (
  qT (σ:=Unit) (ρ:=Int) (fun (e:Nat) (f:(List Literal)) (s:Unit)=>
    match s with
    | _=>
    xZ (d f) fun h=>
    if h then
     some (.ret ((e:Int)))
    else
     some (.go ())) c 0 ()) fun _=>
 some ((-1))
theorem fP {B:Nat→Prop} {h:List (List Literal)} {D:(List Literal)→Option Bool} (r:Int) (d:kC h D=some r) {t:Value} {j:FuncId} {p:List Value} (f:World) (S:∀ c,B c→c<f.heap.size) (E:Bo B f (Sl 1 (vQ 2 xU)) t h) (M:∀ args w,(callFunc j args).run Tryz.prog w= .ok (.enter j args) w) (N:∀ (G:List Literal) (r:Bool),D G=some r→∀ W,Below f.heap.size f W→∀ (I:Value),Bo (All W) W (Sl 2 xU) I G→Calls Tryz.prog j ([I]++p:List Value).toArray W (kL (.bool r) W)):Calls Tryz.prog 82 #[t,.func (.func j) #[] p.toArray] f (fS r f):=by
 unfold kC at d
 refine xX (L:=[(0,t),(1,.func (.func j) #[] p.toArray)]) func82 rfl rfl rfl (sc rfl (sc rfl sn)) (fun a F=>?_);have H:=Sep.start S;refine xV (xA 1 F rfl fun a F=>xJ (xF (xV (xA 1 F rfl fun a F=>oL underlying47 F rfl rfl E fun a J F=>xA 1 F rfl fun a F=>?_))));refine xJ ?_;obtain⟨K,d,A⟩:=xM d;refine oH (fun a w=>K= .nx ()∧Sk a 19 []∧Sep [] B f w []) ?_ ?_
 ·
  refine oJ ?_;obtain⟨O,P,d⟩:=qP d;refine qK (fun g a w=>∃ (n:Nat) (i:List (List Literal)),(n≤h.length∧h.drop n=i)∧i.length=g∧qT O i n ()=some K∧Sk a 19 [(8,xC (n:Int)),(0,t),(1,.func (.func j) #[] p.toArray),(7,xC (h.length:Int))]∧Sep [] B f w []) h.length ?_ ?_
  ·
   exact⟨0,h,⟨Nat.zero_le _,rfl⟩,rfl,d,F.su,H⟩
  intro g2 a w ⟨n,i,e,Q,d,F,H⟩
  cases i with
  | nil=>
   replace d:=qO d;have T:=qQ e.1 e.2;have y:=vS T;refine xV (xA 1 F rfl fun a F=>xJ (xF (zD F rfl y (qJ (qM (qM (zQ ?_)))))));refine xG ?_;exact⟨(zH d),F.sub sn,H⟩
  | cons x2 i=>
   subst Q;replace e:=oZ e.2;have U:=qX e.2.1;obtain⟨a1,d,C⟩:=qG d;rw[P] at d;have y:=vE e.1;refine xV (xA 1 F rfl fun a F=>xJ (xF (zC F rfl y (xN (xG (xF ?_))))));have V:=gP (Nat.le_of_lt e.1) J;have X:=zU e.1 J;refine oJ (xV (xA 2 F rfl fun a F=>vG (xA 2 F rfl fun a F=>?_)));refine xA 1 F rfl fun a F=>oI underlying47 sizeOf32 F rfl rfl rfl E U fun a p1 R F=>olS isAgg32 F rfl rfl H.sm R (fun a v1 Y F=>?_);obtain⟨Z,c1,d⟩:=xB d;refine oKV F rfl rfl M rfl H (N _ Z c1 _ H.bl _ (H.a Y)) fun a w H F=>xJ (qV F rfl (fun x=>?_) (fun x=>?_))
   ·
    replace d:=vX x d;refine xV (xA 2 F rfl fun a F=>xJ (xR (vT (oQ (oQ ?_)))));replace d:=kD d C;refine vT (oQ ?_);replace d:=zZ d A;refine oQ (xT F rfl (oE F rfl) ?_);obtain rfl:=oj d;exact⟨⟨rfl,H.bl⟩,V⟩
   replace d:=vW x d;refine xN (vH (xG (xY (vP F rfl rfl rfl X fun a F=>xA 1 F rfl fun a F=>xJ ?_))));replace d:=vU d C;exact⟨_,Nat.lt_succ_self _,n+1,i,⟨e.1,e.2.2⟩,rfl,d,F.su,H⟩
 rintro a w ⟨rfl,F,H⟩
 have d:=xW A;refine xG (xV (xA 1 F rfl fun a F=>xJ (xR (xT F rfl (oE F rfl) ?_))));obtain rfl:=oj d;exact⟨⟨rfl,H.bl⟩,(show xS (-1) by decide)⟩
def zG (c:List (List Literal)) (d:(List Literal)→Option Bool):Option Bool:=
 xZ (kC c d) fun e=>
 some ((decide (0≤e)))
theorem eY {B:Nat→Prop} {p:List (List Literal)} {t:(List Literal)→Option Bool} (r:Bool) (f:zG p t=some r) {n:Value} {e:FuncId} {j:List Value} (d:World) (C:∀ c,B c→c<d.heap.size) (D:Bo B d (Sl 1 (vQ 2 xU)) n p) (y:∀ args w,(callFunc e args).run Tryz.prog w= .ok (.enter e args) w) (A:∀ (i:List Literal) (r:Bool),t i=some r→∀ W,Below d.heap.size d W→∀ (x:Value),Bo (All W) W (Sl 2 xU) x i→Calls Tryz.prog e ([x]++j:List Value).toArray W (kL (.bool r) W)):Calls Tryz.prog 35 #[n,.func (.func e) #[] j.toArray] d (kL (.bool r) d):=by
 unfold zG at f
 refine xX (L:=[(0,n),(1,.func (.func e) #[] j.toArray)]) func35 rfl rfl rfl (sc rfl (sc rfl sn)) (fun a F=>?_);have H:=Sep.start C;refine xV (xA 1 F rfl fun a F=>vG (xA 2 F rfl fun a F=>?_));obtain⟨E,G,f⟩:=xB f;refine oKI F rfl call82 rfl H (fP E G _ aA (H.a D) y (fun i r h W I=>A i r h W (H.bl.trans (I.mono H.fr.size)))) fun a w H J F=>xA 2 F rfl fun a F=>xJ (xR (xT F rfl (oE F rfl) ?_));obtain rfl:=oj f;exact⟨rfl,H.bl⟩
def eP (c:Template):Option Template:=
 zR (σ:=(List Rel)) (
  qT (σ:=(List Rel)) (ρ:=Template) (fun (j:Nat) (d:Rel) (e:(List Rel))=>
   xZ (eC d.tuples) fun f=>
   xZ (ap e ([(Rel.mk d.arity f)])) fun h=>
   some (.go h)) c.rels 0 []) fun i=>
 some ((Template.mk c.size i))
theorem fD {B:Nat→Prop} {e:Template} (r:Template) (d:eP e=some r) {N:Value} (D:World) (hN:∀ c,B c→c<D.heap.size) (A0:Bo B D (kK 2 xH) N e):Calls Tryz.prog 38 #[N] D (Gv (fun v w'=>∃ (Z:Value),v= .agg #[xC r.size,Z]∧Sep [] B D w' [rl 2 oV 66 Z r.rels]∧xS r.size)):=by
 unfold eP at d
 refine xX (L:=[(0,N)]) func38 rfl rfl rfl (sc rfl sn) (fun a F=>?_);have H:=Sep.start hN;refine xV ?_;obtain⟨M,rfl,i1,h1⟩:=xH.o A0;refine oX F rfl rfl rfl H fun a w b1 H F=>oA zeroValue26 F rfl rfl H fun a w n H F=>vG (oD iD F rfl rfl rfl fun a F=>oB isAgg2 F rfl rfl (H.b 1 rfl) rfl fun a F=>vY underlying26 zeroValue26 (fun w=>by simp [sizeOf2,sizeOf24];rfl) F rfl rfl rfl rfl rfl (oc rfl on) rfl rfl fun a F=>oA zeroValue26 F rfl rfl H fun a w i H F=>cN (vs:=[xC e.size,qD]) sizeOf26 F rfl rfl rfl H (oc rfl (oc rfl on)) rfl rfl (fun w H=>?_));refine xJ (xF (xV (oD kG F rfl rfl rfl fun a F=>oB isAgg24 F rfl rfl (H.b 2 rfl) rfl fun a F=>oL underlying24 F rfl rfl h1 fun a i2 F=>xA 1 F rfl fun a F=>xJ ?_)));obtain⟨o1,d,aa⟩:=xM d;refine oH (fun a w=>∃ (O:List Rel) (E:Value),o1= .nx O∧Sk a 29 [(2,oO n),(3,oO i)]∧Sep [] B D w [rl 2 oV 66 E O,bx i [xC e.size,E] 26,bx n [xC 0,qD] 26]) ?_ ?_
 ·
  refine oJ ?_;obtain⟨ab,ac,d⟩:=qP d;refine qK (fun g a w=>∃ (p:Nat) (t A:List Rel) (f:Value),(p≤e.rels.length∧e.rels.drop p=t)∧t.length=g∧qT ab t p A=some o1∧Sk a 29 [(12,xC (p:Int)),(2,oO n),(3,oO i),(10,M),(11,xC (e.rels.length:Int))]∧Sep [] B D w [rl 2 oV 66 f A,bx i [xC e.size,f] 26,bx n [xC 0,qD] 26]) e.rels.length ?_ ?_
  ·
   exact⟨0,e.rels,[],qD,⟨Nat.zero_le _,rfl⟩,rfl,d,F.su,((H.nl 2 oV 66).s [0,1,2] rfl rfl)⟩
  intro g1 a w ⟨p,t,A,f,j,ad,d,F,H⟩
  cases t with
  | nil=>
   replace d:=qO d;have q1:=qQ j.1 j.2;have P:=vS q1;refine xV (xA 1 F rfl fun a F=>xJ (xF (zD F rfl P (qJ (qM (qM (zQ ?_)))))));refine xG ?_;exact⟨A,f,(zH d),F.su,H⟩
  | cons I t=>
   subst ad;replace j:=oZ j.2;have y1:=qX j.2.1;obtain⟨az,d,ae⟩:=qG d;rw[ac] at d;have P:=vE j.1;refine xV (xA 1 F rfl fun a F=>xJ (xF (zC F rfl P (xN (xG (xF ?_))))));have j1:=gP (Nat.le_of_lt j.1) i2;have m1:=zU j.1 i2;refine oJ (xV (oI underlying24 sizeOf66 F rfl rfl rfl h1 y1 fun a p1 h2 F=>olA isAgg66 sizeOf66 F rfl rfl H.sm h2 fun a v4 h3 F=>oA zeroValue66 F rfl rfl H (fun a w b3 H F=>?_)));obtain⟨v5,rfl,i3,Q⟩:=oV.o h3;refine cN (vs:=[xC I.arity,v5]) sizeOf66 F rfl rfl rfl H (oc rfl (oc (H.a Q).one on)) rfl rfl fun w H=>xJ ?_;obtain⟨C,c1,d⟩:=xB d;obtain⟨z2,c2,d⟩:=xB d;obtain⟨T,rfl⟩:∃ x,x=w:=⟨_,rfl⟩;have b0:=H.sm;obtain⟨U,V,g2,e1,H,af,ab1⟩:=H.fza;have K1:=g2.bk;refine xD H (by kernel_rfl) fun w H=>dp (fun G=>∀ (W:Value) (a:Act) (w:World),Sk a 29 [(2,oO n),(3,oO i),(10,M),(11,xC (e.rels.length:Int)),(12,xC (p:Int)),(17,f),(24,W)]→Sep U V T w [rl 2 oV 66 W ([(Rel.mk I.arity C)]),rl 2 oV 66 f A,bx i [xC e.size,f] 26,bx n [xC 0,qD] 26]→∀ h,h = #[true,true,true,true,true,true,true,true,true,false,false,false]→G 3 h a w) ?_ (fun H1=>?_)
   ·
    intro W a w F H h J;subst J;refine xE H 9 rfl (by kernel_rfl) (oPL (sz:=2) (R:=oV) (z:=(.agg #[xC 0,qD])) (bytes:=32) underlying24 (by kernel_rfl) rfl rfl F rfl rfl rfl (H.s [1,0,2,3] rfl rfl) c2 fun a w v7 H F=>xJ ⟨⟨_,H⟩,?_⟩);refine qE 10 rfl (by kernel_rfl) (xO F rfl (fun w l=>oM kG F rfl rfl) fun a F=>xE H 11 rfl (by kernel_rfl) (oW sizeOf24 F rfl rfl rfl (H.s [1,0,2] rfl rfl) ((H.s [1,0,2] rfl rfl).l 1 rfl).one rfl rfl fun w H=>xJ ⟨⟨_,H⟩,?_⟩));refine vZ (by kernel_rfl) (vH (xG (xY (vP F rfl rfl rfl m1 fun a F=>xA 1 F rfl fun a F=>xJ ?_))));replace d:=vU d ae;exact⟨_,Nat.lt_succ_self _,p+1,t,z2,v7,⟨j.1,j.2.2⟩,rfl,d,F.su,((af.1 H (Ns.all ⟨n0,⟨n0,⟨n0,trivial⟩⟩⟩)).s [2,1,3] rfl rfl)⟩
   refine dp (fun G=>∀ (X:Value) (a:Act) (w:World),Sk a 29 [(2,oO n),(3,oO i),(10,M),(11,xC (e.rels.length:Int)),(12,xC (p:Int)),(17,f),(23,(.agg #[xC I.arity,X]))]→Sep U V T w [rl 1 (vQ 1 xI) 41 X C,rl 2 oV 66 f A,bx i [xC e.size,f] 26,bx n [xC 0,qD] 26]→∀ h,h = #[true,true,true,true,true,true,true,true,false,false,false,false]→G 4 h a w) ?_ (fun H2=>?_)
   ·
    intro X a w F H h J;subst J;refine xE H 8 rfl (by kernel_rfl) ?_;have H:=(oV.w i3 H);refine eZ (R:=oV) (y:=(Rel.mk I.arity C)) underlying24 sizeOf66 zeroValue66 rfl rfl F rfl rfl H El.agg fun a w v9 H F=>xJ ⟨⟨_,H⟩,?_⟩;exact H1 v9 _ _ (F.su) H _ (by kernel_rfl)
   refine dp (fun G=>∀ (K:Value) (a:Act) (w:World),Sk a 29 [(2,oO n),(3,oO i),(10,M),(11,xC (e.rels.length:Int)),(12,xC (p:Int)),(17,f),(19,xC I.arity),(22,K)]→Sep U V T w [rl 1 (vQ 1 xI) 41 K C,rl 2 oV 66 f A,bx i [xC e.size,f] 26,bx n [xC 0,qD] 26]→∀ h,h = #[true,true,true,true,true,true,true,false,false,false,false,false]→G 5 h a w) ?_ (fun H3=>?_)
   ·
    intro K a w F H h J;subst J;refine xE H 7 rfl (by kernel_rfl) (vY underlying66 zeroValue66 (fun w=>by simp [sizeOf2,sizeOf38];rfl) F rfl rfl rfl rfl rfl (oc rfl (oc (H.l 0 rfl).one on)) rfl rfl fun a F=>xJ ⟨⟨_,H⟩,?_⟩);exact H2 K _ _ (F.su) H _ (by kernel_rfl)
   refine qE 0 rfl (by kernel_rfl) (xO F rfl (fun w l=>oM kG F rfl rfl) fun a F=>qE 2 rfl (by kernel_rfl) (xO F rfl (fun w l=>oM mU F rfl rfl) fun a F=>qE 3 rfl (by kernel_rfl) (vB isAgg2 F rfl rfl (K1.v H.sm) rfl fun a F=>qE 4 rfl (by kernel_rfl) (xO F rfl (fun w l=>oM bG F rfl rfl) fun a F=>qE 5 rfl (by kernel_rfl) (vB isAgg38 F rfl rfl (K1.v H.sm) rfl fun a F=>kP [1,6] (by kernel_rfl) (by simp) ⟨⟨_,rfl,?_⟩,⟨_,rfl,?_⟩,trivial⟩)))))
   ·
    refine kJ H (oB isAgg24 F rfl rfl (H.b 1 rfl) rfl fun a F=>xJ ⟨⟨_,H⟩,?_⟩);refine xE H 6 rfl (by kernel_rfl) (oG F rfl call85 rfl (jV C c1 _ aA (H.a (e1 Q))) (fun a Y w ⟨ag,b2,S⟩ F=>?_));subst Y;have H:=H.r1 S n0;refine xJ ⟨⟨_,H⟩,?_⟩;exact H3 ag _ _ (F.su) H _ (by kernel_rfl)
   refine kJ H (oG F rfl call85 rfl (jV C c1 _ aA (H.a (e1 Q))) (fun a Y w ⟨a0,hv2,S⟩ F=>?_));subst Y;have H:=H.r1 S n0;refine xJ ⟨⟨_,H⟩,?_⟩;refine kP [1,7] (by kernel_rfl) (by simp) ⟨⟨_,rfl,?_⟩,⟨_,rfl,?_⟩,trivial⟩
   ·
    refine kJ H (oB isAgg24 F rfl rfl (H.b 2 rfl) rfl fun a F=>xJ ⟨⟨_,H⟩,?_⟩);exact H3 a0 _ _ (F.su) H _ (by kernel_rfl)
   refine kJ H (vY underlying66 zeroValue66 (fun w=>by simp [sizeOf2,sizeOf38];rfl) F rfl rfl rfl rfl rfl (oc rfl (oc (H.l 0 rfl).one on)) rfl rfl fun a F=>xJ ⟨⟨_,H⟩,?_⟩);refine kP [1,8] (by kernel_rfl) (by simp) ⟨⟨_,rfl,?_⟩,⟨_,rfl,?_⟩,trivial⟩
   ·
    refine kJ H (oB isAgg24 F rfl rfl (H.b 2 rfl) rfl fun a F=>xJ ⟨⟨_,H⟩,?_⟩);exact H2 a0 _ _ (F.su) H _ (by kernel_rfl)
   refine kJ H ?_;have H:=(oV.w i3 H);refine eZ (R:=oV) (y:=(Rel.mk I.arity C)) underlying24 sizeOf66 zeroValue66 rfl rfl F rfl rfl H El.agg fun a w ah H F=>xJ ⟨⟨_,H⟩,?_⟩;refine xE H 1 rfl (by kernel_rfl) (oB isAgg24 F rfl rfl (H.b 2 rfl) rfl fun a F=>xJ ⟨⟨_,H⟩,?_⟩);exact H1 ah _ _ (F.su) H _ (by kernel_rfl)
 rintro a w ⟨O,E,rfl,F,H⟩
 have d:=xW aa;refine xG (xV (dJ isAgg26 sizeOf26 F rfl rfl (H.b 1 rfl) rfl rfl fun a F=>cN (vs:=[xC e.size,E]) sizeOf26 F rfl rfl rfl (H.s [2,0,1] rfl rfl) (oc rfl (oc ((H.s [2,0,1] rfl rfl).l 1 rfl).one on)) rfl rfl fun w H=>xJ (xR (xT F rfl (kF (arr:=#[xC e.size,E]) F isAgg26 sizeOf26 rfl (H.b 0 rfl)) ?_))));obtain rfl:=oj d;exact⟨_,rfl,E,rfl,(H.s [1] rfl rfl),i1⟩
def aE (c d:List Int):Option Bool:=
 if ((c.length:Int) != (d.length:Int)) then
  some false
 else
  zR (σ:=Unit) (
   qT (σ:=Unit) (ρ:=Bool) (fun (f:Nat) (e:Int) (s:Unit)=>
     match s with
     | _=>
     xZ (ix d (f:Int)) fun h=>
     if (e != h) then
      some (.ret false)
     else
      some (.go ())) c 0 ()) fun _=>
  some true
theorem jY {B:Nat→Prop} {f E:List Int} (r:Bool) (d:aE f E=some r) {n:Value} {p:Value} (h:World) (O:∀ c,B c→c<h.heap.size) (y:Bo B h (Sl 1 xI) n f) (G:Bo B h (Sl 1 xI) p E):Calls Tryz.prog 42 #[n,p] h (kL (.bool r) h):=by
 unfold aE at d
 refine xX (L:=[(0,n),(1,p)]) func42 rfl rfl rfl (sc rfl (sc rfl sn)) (fun a F=>?_);have H:=Sep.start O;refine xV (xA 1 F rfl fun a F=>xJ (xF (xV (xA 1 F rfl fun a F=>oL underlying41 F rfl rfl y fun a X F=>xA 1 F rfl fun a F=>?_))));refine oL underlying41 F rfl rfl G fun a Y F=>xA 1 F rfl fun a F=>xJ (qV F rfl (fun t=>?_) (fun t=>?_))
 ·
  replace d:=vX t d;refine xV (xA 1 F rfl fun a F=>xJ (xR (oQ (xT F rfl (oE F rfl) ?_))));obtain rfl:=oj d;exact⟨rfl,H.bl⟩
 replace d:=vW t d;refine xN (xG (xF (xV (xA 1 F rfl fun a F=>oL underlying41 F rfl rfl y fun a I F=>xA 1 F rfl fun a F=>xJ ?_))));obtain⟨J,d,C⟩:=xM d;refine oH (fun a w=>J= .nx ()∧Sk a 26 []∧Sep [] B h w []) ?_ ?_
 ·
  refine oJ ?_;obtain⟨K,M,d⟩:=qP d;refine qK (fun g a w=>∃ (j:Nat) (i:List Int),(j≤f.length∧f.drop j=i)∧i.length=g∧qT K i j ()=some J∧Sk a 26 [(13,xC (j:Int)),(0,n),(1,p),(12,xC (f.length:Int))]∧Sep [] B h w []) f.length ?_ ?_
  ·
   exact⟨0,f,⟨Nat.zero_le _,rfl⟩,rfl,d,F.su,H⟩
  intro Z a w ⟨j,i,e,N,d,F,H⟩
  cases i with
  | nil=>
   replace d:=qO d;have P:=qQ e.1 e.2;have A:=vS P;refine xV (xA 1 F rfl fun a F=>xJ (xF (zD F rfl A (qJ (qM (qM (zQ ?_)))))));refine xG ?_;exact⟨(zH d),F.sub sn,H⟩
  | cons V i=>
   subst N;replace e:=oZ e.2;have Q:=qX e.2.1;obtain⟨W,d,D⟩:=qG d;rw[M] at d;have A:=vE e.1;refine xV (xA 1 F rfl fun a F=>xJ (xF (zC F rfl A (xN (xG (xF ?_))))));have j1:=gP (Nat.le_of_lt e.1) I;have R:=zU e.1 I;refine oJ (xV (xA 2 F rfl fun a F=>xJ (xF (xQ H (by kernel_rfl) (by kernel_rfl) (xP F rfl (fun w l=>xL F rfl) fun a F=>xP F rfl (fun w l=>xL F rfl) (fun a F=>?_))))));refine qI underlying41 sizeOf2 F rfl rfl rfl y Q fun a p1 S F=>qlI isAgg2 F rfl rfl H.q S fun a i4 F=>xP F rfl (fun w l=>xL F rfl) fun a F=>xP F rfl (fun w l=>xL F rfl) (fun a F=>?_);obtain⟨z1,T,d⟩:=xB d;refine qI underlying41 sizeOf2 F rfl rfl rfl G T fun a p2 U F=>qlI isAgg2 F rfl rfl H.q U fun a i5 F=>xP F rfl (fun w l=>sC F rfl rfl) fun a F=>kZ fun w H=>xG (qV F rfl (fun x=>?_) (fun x=>?_))
   ·
    replace d:=vX x d;refine xV (xA 1 F rfl fun a F=>xJ (xR (vT (oQ (oQ ?_)))));replace d:=kD d D;refine vT (oQ ?_);replace d:=zZ d C;refine oQ (xT F rfl (oE F rfl) ?_);obtain rfl:=oj d;exact⟨rfl,H.bl⟩
   replace d:=vW x d;refine xN (vH (xG (xY (vP F rfl rfl rfl R fun a F=>xA 1 F rfl fun a F=>xJ ?_))));replace d:=vU d D;exact⟨_,Nat.lt_succ_self _,j+1,i,⟨e.1,e.2.2⟩,rfl,d,F.su,H⟩
 rintro a w ⟨rfl,F,H⟩
 have d:=xW C;refine xG (xV (xA 1 F rfl fun a F=>xJ (xR (xT F rfl (oE F rfl) ?_))));obtain rfl:=oj d;exact⟨rfl,H.bl⟩
def dT (c:List Int) (d:(List Int)):Option Bool:=
 xZ (aE c d) fun e=>
 some ((!e))
theorem lH {B:Nat→Prop} {i:List Int} {j:(List Int)} (r:Bool) (e:dT i j=some r) {f:Value} {h:Value} (d:World) (n:∀ c,B c→c<d.heap.size) (p:Bo B d (Sl 1 xI) f i) (t:Bo B d (Pt 1 (vQ 1 xI)) h j):Calls Tryz.prog 41 #[f,h] d (kL (.bool r) d):=by
 unfold dT at e
 refine xX (L:=[(0,f),(1,h)]) func41 rfl rfl rfl (sc rfl (sc rfl sn)) (fun a F=>?_);have H:=Sep.start n;refine xV (xA 1 F rfl fun a F=>vG (xA 1 F rfl fun a F=>olS isAgg41 F rfl rfl H.sm t (fun a C x F=>?_)));obtain⟨y,A,e⟩:=xB e;refine oK F rfl call42 rfl H (jY y A _ aA (H.a p) (H.a x)) fun a w H F=>xA 2 F rfl fun a F=>xJ (xR (xT F rfl (oE F rfl) ?_));obtain rfl:=oj e;exact⟨rfl,H.bl⟩
def lY (c d:Int):Option Int:=
 zR (σ:=Int) (
  aS (σ:=Int) (ρ:=Int) (fun (i:Nat) (e:Int)=>
   xZ (ck (e*c)) fun f=>
   some (.go f)) d.toNat 0 1) fun h=>
 some h
theorem xCx {B:Nat→Prop} {f e:Int} (r:Int) (d:lY f e=some r)  (h:World) (J:∀ c,B c→c<h.heap.size) (P:xS f) (x:xS e):Calls Tryz.prog 87 #[xC f,xC e] h (fS r h):=by
 unfold lY at d
 refine xX (L:=[(0,xC f),(1,xC e)]) func87 rfl rfl rfl (sc rfl (sc rfl sn)) (fun a F=>?_);have H:=Sep.start J;refine xV (xA 1 F rfl fun a F=>vG (xA 1 F rfl fun a F=>xJ (xF ?_)));refine xV (xA 2 F rfl fun a F=>xJ ?_);obtain⟨A,d,D⟩:=xM d;refine oH (fun a w=>∃ (p:Int),A= .nx p∧Sk a 14 [(5,xC p)]∧Sep [] B h w []∧xS p) ?_ ?_
 ·
  refine oJ ?_;obtain⟨E,G,d⟩:=dP d;refine qK (fun g a w=>∃ (i:Nat) (j:Int),i+g=e.toNat∧aS E g i j=some A∧Sk a 14 [(7,xC (i:Int)),(0,xC f),(5,xC j),(6,xC e)]∧Sep [] B h w []∧xS j) e.toNat ?_ ?_
  ·
   exact⟨0,1,(Nat.zero_add _),d,F.su,H,(show xS (1) by decide)⟩
  intro C a w ⟨i,j,n,d,F,H,K⟩
  cases C with
  | zero=>
   replace d:=cC d;have t:=gH n;refine xV (xA 1 F rfl fun a F=>xJ (xF (zD F rfl t (qJ (qM (qM (zQ ?_)))))));refine xG ?_;exact⟨j,(zH d),F.su,H,K⟩
  | succ C=>
   obtain⟨Q,d,I⟩:=cI d;rw[G] at d;have t:=eR n;refine xV (xA 1 F rfl fun a F=>xJ (xF (zC F rfl t (xN (xG (xF ?_))))));have R:=uA n x;have M:=jB n x;refine oJ (xY (xA 2 F rfl fun a F=>?_));obtain⟨N,y,d⟩:=xB d;refine xDx F rfl rfl rfl y fun a F=>xA 1 F rfl fun a F=>qU (vH (xG (xY (vP F rfl rfl rfl M fun a F=>xA 1 F rfl fun a F=>xJ ?_))));replace d:=vU d I;exact⟨_,Nat.lt_succ_self _,i+1,N,(by omega),d,F.su,H,(kV y)⟩
 rintro a w ⟨p,rfl,F,H,O⟩
 have d:=xW D;refine xG (xV (xA 2 F rfl fun a F=>xJ (xR (xT F rfl (oE F rfl) ?_))));obtain rfl:=oj d;exact⟨⟨rfl,H.bl⟩,O⟩
def bY (N:Nat) (f h i:Int):Option (List Int):=
 xZ (mkz (0:Int) h) fun j=>
 xZ (ck (h - 1)) fun n=>
 zR (σ:=Int×Int×(List Int)) (
  fA (σ:=Int×Int×(List Int)) (ρ:=(List Int)) (fun(s:Int×Int×(List Int))=>
    match s with
    | (e,c,d)=>
    if (decide (0≤c)) then
     xZ (rm e f) fun p=>
     xZ (ix d c) fun A=>
     xZ (dv e f) fun t=>
     xZ (ck (c - 1)) fun x=>
     some (.go (t,x,(d.set (c).toNat p)))
    else
     some (.brk (e,c,d))) N (i,n,j)) fun(B,C,y)=>
 some y
theorem xAl {B:Nat→Prop} {N:Nat} {h t i:Int} (r:(List Int)) (d:bY N h t i=some r)  (j:World) (Y:∀ c,B c→c<j.heap.size) (S:xS h) (a8:xS t) (T:xS i):Calls Tryz.prog 88 #[xC h,xC t,xC i] j (Gv (fun v w'=>∃ (E:Value),v=E∧Sep [] B j w' [rl 1 xI 2 E r])):=by
 unfold bY at d
 refine xX (L:=[(0,xC h),(1,xC t),(2,xC i)]) func88 rfl rfl rfl (sc rfl (sc rfl (sc rfl sn))) (fun a F=>?_);have H:=Sep.start Y;refine xV (xA 1 F rfl fun a F=>vG (xA 1 F rfl fun a F=>?_));obtain⟨Z,c1,d⟩:=xB d;refine oRM (sz:=1) (R:=xI) (z:=(xC 0)) (bytes:=8) underlying41 (by kernel_rfl) rfl (by decide) (by decide) (fun w=>⟨rfl,by decide,rfl⟩) F rfl rfl rfl c1 H fun a w v1 H F=>xA 1 F rfl fun a F=>xJ (xF (xV (xA 1 F rfl fun a F=>?_)));obtain⟨z2,G,d⟩:=xB d;refine gM F rfl rfl rfl G fun a F=>xA 1 F rfl fun a F=>xJ ?_;obtain⟨J,d,U⟩:=xM d;refine oH (fun a w=>∃ (A C:Int) (D:List Int) (x:Value),J= .nx (A,C,D)∧Sk a 27 [(7,x)]∧Sep [] B j w [rl 1 xI 2 x D]∧xS A∧xS C) ?_ ?_
 ·
  refine oJ ?_;obtain⟨V,W,d⟩:=bJ d;refine qK (fun g a w=>∃ (n e:Int) (f:List Int) (p:Value),fA V g (n,e,f)=some J∧Sk a 27 [(0,xC h),(2,xC n),(7,p),(8,xC e)]∧Sep [] B j w [rl 1 xI 2 p f]∧xS n∧xS e) N ?_ ?_
  ·
   exact⟨i,z2,Z,v1,d,F.su,H,T,(kV G)⟩
  intro g1 a w ⟨n,e,f,p,d,F,H,K,i2⟩;obtain⟨a9,t1,aa,d,I⟩:=kR d;rw[W] at d;refine xF (xV (xA 2 F rfl fun a F=>xJ (qV F rfl (fun y=>?_) (fun y=>?_))))
  ·
   replace d:=vX y d;refine xN (xG (xF (oJ (xV (xA 4 F rfl fun a F=>?_)))));obtain⟨z3,M,d⟩:=xB d;refine xGz F rfl rfl rfl M (fun a F=>?_);obtain⟨z4,O,d⟩:=xB d;refine oRl underlying41 sizeOf2 F rfl rfl rfl H 0 rfl O (fun a p1 h1 X F=>?_);have H:=H.lw;refine oS sizeOf2 F rfl rfl rfl H X (fZ O) (Eo.int (xAk M K S)) rfl rfl (fun w H=>?_);have H:=H.tl;refine xJ (xY (xA 2 F rfl fun a F=>?_));obtain⟨z5,P,d⟩:=xB d;refine xNr F rfl rfl rfl P fun a F=>xA 1 F rfl fun a F=>qU (vH (xG (xY (xA 1 F rfl fun a F=>?_))));obtain⟨z6,Q,d⟩:=xB d;refine gM F rfl rfl rfl Q fun a F=>xA 1 F rfl fun a F=>xJ ?_;replace d:=vU d I;exact⟨t1,(by omega),z5,z6,(f.set (e).toNat z3),p,d,F.su,H,(xLo P),(kV Q)⟩
  replace d:=vW y d;refine qJ (qM (qM ?_));replace d:=gV d I;refine zQ (xG ?_);exact⟨n,e,f,p,(zH d),F.su,H,K,i2⟩
 rintro a w ⟨A,C,D,x,rfl,F,H,i3,i4⟩
 have d:=xW U;refine xG (xV (xA 2 F rfl fun a F=>xJ (xR (xT F rfl (oE F rfl) ?_))));obtain rfl:=oj d;exact⟨_,rfl,x,rfl,H⟩
def jE (N:Nat) (d c:Int) (h:(List Int)→Option Bool):Option Rel:=
 xZ (lY d c) fun i=>
 zR (σ:=(List (List Int))) (
  aS (σ:=(List (List Int))) (ρ:=Rel) (fun(j:Nat) (e:(List (List Int)))=>
   xZ (bY N d c (j:Int)) fun f=>
   xZ (h f) fun n=>
   if n then
    xZ (ap e ([f])) fun p=>
    some (.go p)
   else
    some (.go e)) i.toNat 0 []) fun t=>
 some ((Rel.mk c t))
theorem tF {B:Nat→Prop} {N:Nat} {n e:Int} {T:(List Int)→Option Bool} (r:Rel) (d:jE N n e T=some r) {h:FuncId} {x:List Value} (f:World) (hN:∀ c,B c→c<f.heap.size) (M:xS n) (G:xS e) (a1:∀ args w,(callFunc h args).run Tryz.prog w= .ok (.enter h args) w) (a2:∀ (U:List Int) (r:Bool),T U=some r→∀ W,Below f.heap.size f W→∀ (V:Value),Bo (All W) W (Sl 1 xI) V U→Calls Tryz.prog h ([V]++x:List Value).toArray W (kL (.bool r) W)):Calls Tryz.prog 40 #[xC n,xC e,.func (.func h) #[] x.toArray] f (Gv (fun v w'=>∃ (O:Value),v= .agg #[xC r.arity,O]∧Sep [] B f w' [rl 1 (vQ 1 xI) 41 O r.tuples]∧xS r.arity)):=by
 unfold jE at d
 refine xX (L:=[(0,xC n),(1,xC e),(2,.func (.func h) #[] x.toArray)]) func40 rfl rfl rfl (sc rfl (sc rfl (sc rfl sn))) (fun a F=>?_);have H:=Sep.start hN;refine xV (oA zeroValue66 F rfl rfl H fun a w C H F=>vG (xA 1 F rfl fun a F=>vY underlying66 zeroValue66 (fun w=>by simp [sizeOf2,sizeOf38];rfl) F rfl rfl rfl rfl rfl (oc rfl on) rfl rfl fun a F=>oA zeroValue66 F rfl rfl H fun a w D H F=>cN (vs:=[xC e,qD]) sizeOf66 F rfl rfl rfl H (oc rfl (oc rfl on)) rfl rfl (fun w H=>?_)));refine xJ (xF (xV (xA 2 F rfl fun a F=>?_)));obtain⟨E,c1,d⟩:=xB d;refine oKI F rfl call87 rfl H (xCx E c1 _ aA M G) fun a w H P F=>xA 1 F rfl fun a F=>xJ ?_;obtain⟨X,d,a3⟩:=xM d;refine oH (fun a w=>∃ (J:List (List Int)) (i:Value),X= .nx J∧Sk a 33 [(6,oO C),(7,oO D)]∧Sep [] B f w [rl 1 (vQ 1 xI) 41 i J,bx D [xC e,i] 66,bx C [xC 0,qD] 66]) ?_ ?_
 ·
  refine oJ ?_;obtain⟨a4,a5,d⟩:=dP d;refine qK (fun g a w=>∃ (j:Nat) (p:List (List Int)) (t:Value),j+g=E.toNat∧aS a4 g j p=some X∧Sk a 33 [(15,xC (j:Int)),(0,xC n),(1,xC e),(2,.func (.func h) #[] x.toArray),(6,oO C),(7,oO D),(14,xC E)]∧Sep [] B f w [rl 1 (vQ 1 xI) 41 t p,bx D [xC e,t] 66,bx C [xC 0,qD] 66]) E.toNat ?_ ?_
  ·
   exact⟨0,[],qD,(Nat.zero_add _),d,F.su,(H.nl 1 (vQ 1 xI) 41)⟩
  intro Y a w ⟨j,p,t,A,d,F,H⟩
  cases Y with
  | zero=>
   replace d:=cC d;have K:=gH A;refine xV (xA 1 F rfl fun a F=>xJ (xF (zD F rfl K (qJ (qM (qM (zQ ?_)))))));refine xG ?_;exact⟨p,t,(zH d),F.su,H⟩
  | succ Y=>
   obtain⟨ag,d,Q⟩:=cI d;rw[a5] at d;have K:=eR A;refine xV (xA 1 F rfl fun a F=>xJ (xF (zC F rfl K (xN (xG (xF ?_))))));have j1:=uA A P;have Z:=jB A P;refine oJ (xV (xA 2 F rfl fun a F=>vG (xA 2 F rfl fun a F=>?_)));refine xA 1 F rfl fun a F=>?_;obtain⟨z2,c2,d⟩:=xB d;refine oG F rfl call88 rfl (xAl z2 c2 _ aA M G j1) (fun a vv w ⟨v3,ah,S⟩ F=>?_);subst vv;have H:=H.r1 S n0;refine xA 1 F rfl fun a F=>vG (xA 2 F rfl fun a F=>?_);obtain⟨z3,c3,d⟩:=xB d;refine oKV F rfl rfl a1 rfl H (a2 _ z3 c3 _ H.bl _ (H.l 0 rfl)) fun a w H F=>xJ (qV F rfl (fun I=>?_) (fun I=>?_))
   ·
    replace d:=vX I d;refine xY (oD bG F rfl rfl rfl fun a F=>oB isAgg38 F rfl rfl (H.b 2 rfl) rfl fun a F=>xA 1 F rfl fun a F=>?_);have H:=H.os;refine eZ (R:=(vQ 1 xI)) (y:=z2) underlying38 sizeOf41 zeroValue41 rfl rfl F rfl rfl H El.sl (fun a w v4 H F=>?_);obtain⟨z4,c4,d⟩:=xB d;refine oPL (sz:=1) (R:=(vQ 1 xI)) (z:=(qD)) (bytes:=24) underlying38 (by kernel_rfl) rfl rfl F rfl rfl rfl (H.s [1,0,2,3] rfl rfl) c4 fun a w v5 H F=>oD bG F rfl rfl rfl fun a F=>oW sizeOf38 F rfl rfl rfl (H.s [1,0,2] rfl rfl) ((H.s [1,0,2] rfl rfl).l 1 rfl).one rfl rfl fun w H=>qU (vH (xG (xY (vP F rfl rfl rfl Z fun a F=>xA 1 F rfl fun a F=>xJ ?_))));replace d:=vU d Q;exact⟨_,Nat.lt_succ_self _,j+1,z4,v5,(by omega),d,F.su,(H.s [1,0,2] rfl rfl)⟩
   replace d:=vW I d;refine xN (vH (xG (xY (vP F rfl rfl rfl Z fun a F=>xA 1 F rfl fun a F=>xJ ?_))));replace d:=vU d Q;exact⟨_,Nat.lt_succ_self _,j+1,p,t,(by omega),d,F.su,(H.s [1,2,3] rfl rfl)⟩
 rintro a w ⟨J,i,rfl,F,H⟩
 have d:=xW a3;refine xG (xV (dJ isAgg66 sizeOf66 F rfl rfl (H.b 1 rfl) rfl rfl fun a F=>cN (vs:=[xC e,i]) sizeOf66 F rfl rfl rfl (H.s [2,0,1] rfl rfl) (oc rfl (oc ((H.s [2,0,1] rfl rfl).l 1 rfl).one on)) rfl rfl fun w H=>xJ (xR (xT F rfl (kF (arr:=#[xC e,i]) F isAgg66 sizeOf66 rfl (H.b 0 rfl)) ?_))));obtain rfl:=oj d;exact⟨_,rfl,i,rfl,(H.s [1] rfl rfl),G⟩
def fJ (N:Nat) (c:Template) (d:Instance) (e:List (List Literal)):Option (Template×Instance×Int):=
 xZ (kT (Template.mk c.size c.rels) (Instance.mk d.vars d.cons)) fun y=>
 if (!y) then
  some ((Template.mk 0 ([])),(Instance.mk 0 ([])),1)
 else
  xZ (zG e (fun f=>aX f (Template.mk c.size c.rels) (Instance.mk d.vars d.cons))) fun A=>
  if A then
   some ((Template.mk 0 ([])),(Instance.mk 0 ([])),2)
  else
   zR (σ:=Bool) (
    xZ (ck ((c.rels.length:Int)+(e.length:Int))) fun B=>
    if (decide (6<B)) then  some (.nx true) else  xZ (ck ((d.cons.length:Int)+(e.length:Int))) fun C=>
     some (.nx (decide (24<C)))) fun D=>
   if D then
    some ((Template.mk 0 ([])),(Instance.mk 0 ([])),3)
   else
    xZ (eP (Template.mk c.size c.rels)) fun i=>
    xZ (bQ (Instance.mk d.vars d.cons)) fun j=>
    zR (σ:=(List Rel)×(List Con)) (
     qT (σ:=(List Rel)×(List Con)) (ρ:=Template×Instance×Int) (fun (P:Nat) (n:(List Literal)) (s:(List Rel)×(List Con))=>
       match s with
       | (p,E)=>
       zR (σ:=(List Int)×(List Int)) (
        qT (σ:=(List Int)×(List Int)) (ρ:=(Ctl ((List Rel)×(List Con)) (Template×Instance×Int))) (fun (Q:Nat) (t:Literal) (s:(List Int)×(List Int))=>
          match s with
          | (F,G)=>
          xZ (ap F ([t.var])) fun H=>
          xZ (ap G ([t.value])) fun I=>
          some (.go (H,I))) n 0 ([],[])) fun(J,K)=>
       xZ (ap E ([(Con.mk (p.length:Int) J)])) fun L=>
       xZ (jE N c.size (n.length:Int) (fun f=>dT f K)) fun h=>
       xZ (ap p ([(Rel.mk h.arity h.tuples)])) fun x=>
       some (.go (x,L))) e 0 (i.rels,j.cons)) fun(M,O)=>
    some ((Template.mk i.size M),(Instance.mk j.vars O),0)
theorem tB {B:Nat→Prop} {N:Nat} {x0:Template} {x1:Instance} {U:List (List Literal)} (r:Template×Instance×Int) (e:fJ N x0 x1 U=some r) {v0:Value} {v1:Value} {Q:Value} (w0:World) (hN:∀ c,B c→c<w0.heap.size) (A0:Bo B w0 (kK 2 xH) v0 x0) (A1:Bo B w0 (kK 2 xK) v1 x1) (A2:Bo B w0 (Sl 1 (vQ 2 xU)) Q U):Calls Tryz.prog 12 #[v0,v1,Q] w0 (Gv (fun v w'=>∃ (d7 d8:Value),v= .tuple #[.agg #[xC r.1.size,d7],.agg #[xC r.2.1.vars,d8],xC r.2.2]∧Sep [] B w0 w' [rl 2 oV 66 d7 r.1.rels,rl 2 oR 69 d8 r.2.1.cons]∧xS r.1.size∧xS r.2.1.vars∧xS r.2.2)):=by
 unfold fJ at e
 refine xX (L:=[(0,v0),(1,v1),(2,Q)]) func12 rfl rfl rfl (sc rfl (sc rfl (sc rfl sn))) (fun a F=>?_);have H:=Sep.start hN;refine xV ?_;obtain⟨v3,rfl,i1,h1⟩:=xH.o A0;refine oX F rfl rfl rfl H (fun a w T H F=>?_);obtain⟨ar,rfl,i2,h2⟩:=xK.o A1;refine oX F rfl rfl rfl H fun a w b2 H F=>oA zeroValue26 F rfl rfl H fun a w f H F=>oA zeroValue29 F rfl rfl H fun a w i H F=>xA 1 F rfl fun a F=>xJ (xF (oJ (xV (dJ isAgg26 sizeOf26 F rfl rfl (H.b 3 rfl) rfl rfl (fun a F=>?_)))));refine dJ isAgg29 sizeOf29 F rfl rfl (H.b 2 rfl) rfl rfl (fun a F=>?_);obtain⟨z1,c1,e⟩:=xB e;refine oK F rfl call34 rfl H (dL z1 c1 _ aA (xH.m i1 (H.a h1)) (xK.m i2 (H.a h2))) fun a w H F=>xA 2 F rfl fun a F=>xJ (qV F rfl (fun cb=>?_) (fun cb=>?_))
 ·
  replace e:=vX cb e;refine xV (vY underlying26 zeroValue26 (fun w=>by simp [sizeOf2,sizeOf24];rfl) F rfl rfl rfl rfl rfl on rfl rfl fun a F=>vY underlying29 zeroValue29 (fun w=>by simp [sizeOf2,sizeOf27];rfl) F rfl rfl rfl rfl rfl on rfl rfl fun a F=>cN (vs:=[xC 0,qD]) sizeOf26 F rfl rfl rfl (H.s [1,0,2,3] rfl rfl) (oc rfl (oc rfl on)) rfl rfl fun w H=>cN (vs:=[xC 0,qD]) sizeOf29 F rfl rfl rfl (H.s [1,0,2,3] rfl rfl) (oc rfl (oc rfl on)) rfl rfl fun w H=>xA 1 F rfl fun a F=>xJ (xR (vT ?_)));refine oQ (sW F rfl (kF (arr:=#[xC 0,qD]) F isAgg26 sizeOf26 rfl (H.b 1 rfl)) (kF (arr:=#[xC 0,qD]) F isAgg29 sizeOf29 rfl (H.b 0 rfl)) (oE F rfl) ?_);obtain rfl:=oj e;exact⟨_,rfl,qD,qD,rfl,(((H.nl 2 oV 66).nl 2 oR 69).s [1,0] rfl rfl),(show xS 0 by decide),(show xS 0 by decide),(show xS (1) by decide)⟩
 replace e:=vW cb e;refine xV (xA 1 F rfl fun a F=>mW F rfl rfl rfl (fun a F=>?_));obtain⟨z2,c2,e⟩:=xB e;refine oK F rfl call35 rfl H (eY z2 c2 _ aA (H.a A2) call36 (fun a0 r h W l1 u0 f0=>rI r h W aA f0 ((xH.b (H.g 3 rfl).bk i1 (H.a h1)).w l1) ((xK.b (H.g 2 rfl).bk i2 (H.a h2)).w l1))) fun a w H F=>xA 1 F rfl fun a F=>xJ (qV F rfl (fun cc=>?_) (fun cc=>?_))
 ·
  replace e:=vX cc e;refine xV (vY underlying26 zeroValue26 (fun w=>by simp [sizeOf2,sizeOf24];rfl) F rfl rfl rfl rfl rfl on rfl rfl fun a F=>vY underlying29 zeroValue29 (fun w=>by simp [sizeOf2,sizeOf27];rfl) F rfl rfl rfl rfl rfl on rfl rfl fun a F=>cN (vs:=[xC 0,qD]) sizeOf26 F rfl rfl rfl (H.s [1,0,2,3] rfl rfl) (oc rfl (oc rfl on)) rfl rfl fun w H=>cN (vs:=[xC 0,qD]) sizeOf29 F rfl rfl rfl (H.s [1,0,2,3] rfl rfl) (oc rfl (oc rfl on)) rfl rfl fun w H=>xA 1 F rfl fun a F=>xJ (xR (vT ?_)));refine oQ (sW F rfl (kF (arr:=#[xC 0,qD]) F isAgg26 sizeOf26 rfl (H.b 1 rfl)) (kF (arr:=#[xC 0,qD]) F isAgg29 sizeOf29 rfl (H.b 0 rfl)) (oE F rfl) ?_);obtain rfl:=oj e;exact⟨_,rfl,qD,qD,rfl,(((H.nl 2 oV 66).nl 2 oR 69).s [1,0] rfl rfl),(show xS 0 by decide),(show xS 0 by decide),(show xS (2) by decide)⟩
 replace e:=vW cc e;refine xF ?_;obtain⟨o1,e,eh⟩:=xM e;refine oH (fun a w=>∃ (s1:Bool),o1= .nx s1∧Sk a 103 [(2,Q),(3,oO T),(4,oO b2),(6,oO f),(7,oO i),(30,.bool s1)]∧Sep [] B w0 w [bx i [xC 0,qD] 29,bx f [xC 0,qD] 26,bx b2 [xC x1.vars,ar] 29,bx T [xC x0.size,v3] 26]) ?_ ?_
 ·
  refine xY (oD kG F rfl rfl rfl fun a F=>oB isAgg24 F rfl rfl (H.b 3 rfl) rfl fun a F=>oL underlying24 F rfl rfl h1 fun a i3 F=>xA 1 F rfl fun a F=>oL underlying47 F rfl rfl A2 (fun a i4 F=>?_));obtain⟨z3,c3,e⟩:=xB e;refine cX F rfl rfl rfl c3 fun a F=>xA 2 F rfl fun a F=>?_
  rcases vR (decide (6<z3)) with au | au
  ·
   replace e:=vX au e;have F:=F.eb 38 rfl au;refine xA 9 F rfl fun a F=>xJ ?_;exact⟨true,(zH e),F.su,H⟩
  replace e:=vW au e;have F:=F.eb 38 rfl au;refine oD zT F rfl rfl rfl fun a F=>oB isAgg27 F rfl rfl (H.b 2 rfl) rfl fun a F=>oL underlying27 F rfl rfl h2 fun a i5 F=>xA 1 F rfl fun a F=>oL underlying47 F rfl rfl A2 (fun a i6 F=>?_);obtain⟨z4,c4,e⟩:=xB e;refine cX F rfl rfl rfl c4 fun a F=>xA 3 F rfl fun a F=>xJ ?_;exact⟨(decide (24<z4)),(zH e),F.su,H⟩
 rintro a w ⟨s1,rfl,F,H⟩
 have e:=xW eh;refine xG (qV F rfl (fun cd=>?_) (fun cd=>?_))
 ·
  replace e:=vX cd e;refine xV (vY underlying26 zeroValue26 (fun w=>by simp [sizeOf2,sizeOf24];rfl) F rfl rfl rfl rfl rfl on rfl rfl fun a F=>vY underlying29 zeroValue29 (fun w=>by simp [sizeOf2,sizeOf27];rfl) F rfl rfl rfl rfl rfl on rfl rfl fun a F=>cN (vs:=[xC 0,qD]) sizeOf26 F rfl rfl rfl (H.s [1,0,2,3] rfl rfl) (oc rfl (oc rfl on)) rfl rfl fun w H=>cN (vs:=[xC 0,qD]) sizeOf29 F rfl rfl rfl (H.s [1,0,2,3] rfl rfl) (oc rfl (oc rfl on)) rfl rfl fun w H=>xA 1 F rfl fun a F=>xJ (xR (vT ?_)));refine oQ (sW F rfl (kF (arr:=#[xC 0,qD]) F isAgg26 sizeOf26 rfl (H.b 1 rfl)) (kF (arr:=#[xC 0,qD]) F isAgg29 sizeOf29 rfl (H.b 0 rfl)) (oE F rfl) ?_);obtain rfl:=oj e;exact⟨_,rfl,qD,qD,rfl,(((H.nl 2 oV 66).nl 2 oR 69).s [1,0] rfl rfl),(show xS 0 by decide),(show xS 0 by decide),(show xS (3) by decide)⟩
 replace e:=vW cd e;refine xN (vH (xG (xF ?_)));obtain⟨j,c5,e⟩:=xB e;obtain⟨J,c6,e⟩:=xB e;obtain⟨w1,rfl⟩:∃ x,x=w:=⟨_,rfl⟩;have d9:=H.sm;obtain⟨X1,N1,g1,e1,H,ce,hk⟩:=(H.s [2,3,0,1] rfl rfl).mg.fza;have K1:=g1.l.bk;have K2:=g1.r.bk;refine xD H (by kernel_rfl) fun w H=>dp (fun G=>∀ (t A:Nat) (v4 v5:Value) (a:Act) (w:World),Sk a 103 [(2,Q),(3,oO T),(6,oO f),(7,oO i),(9,oO t),(10,oO A),(50,(.agg #[xC j.size,v4])),(52,(.agg #[xC J.vars,v5]))]→Sep X1 N1 w1 w [bx t [xC 0,qD] 26,bx A [xC 0,qD] 29,rl 2 oV 66 v4 j.rels,rl 2 oR 69 v5 J.cons,bx i [xC 0,qD] 29,bx f [xC 0,qD] 26]→xS j.size→xS J.vars→∀ d,d = #[true,true,true,true,true,true,false,false]→G 2 d a w) ?_ (fun H1=>?_)
 ·
  intro t A v4 v5 a w F H i7 i8 d n;subst n;refine xE H 6 rfl (by kernel_rfl) (cN (vs:=[xC j.size,v4]) sizeOf26 F rfl rfl rfl H (oc rfl (oc (H.l 2 rfl).one on)) rfl rfl fun w H=>xJ ⟨⟨_,H⟩,?_⟩);refine xE H 7 rfl (by kernel_rfl) (cN (vs:=[xC J.vars,v5]) sizeOf29 F rfl rfl rfl (H.s [1,0,2,3,4,5] rfl rfl) (oc rfl (oc ((H.s [1,0,2,3,4,5] rfl rfl).l 3 rfl).one on)) rfl rfl fun w H=>xJ ⟨⟨_,H⟩,?_⟩);refine vZ (by kernel_rfl) (xG (xF (xV (xA 1 F rfl fun a F=>oL underlying47 F rfl rfl A2 fun a i9 F=>xA 1 F rfl fun a F=>xJ ?_))));obtain⟨o2,e,ei⟩:=xM e;refine oH (fun a w=>∃ (s2:List Rel) (v6:Value) (s3:List Con) (v7:Value),o2= .nx (s2,s3)∧Sk a 103 [(6,oO f),(7,oO i),(9,oO t),(10,oO A)]∧Sep X1 N1 w1 w [bx A [xC J.vars,v7] 29,bx t [xC j.size,v6] 26,rl 2 oV 66 v6 s2,rl 2 oR 69 v7 s3,bx i [xC 0,qD] 29,bx f [xC 0,qD] 26]) ?_ ?_
  ·
   refine oJ ?_;obtain⟨ej,ek,e⟩:=qP e;refine qK (fun g a w=>∃ (V:Nat) (t1:List (List Literal)) (E:List Rel) (C:Value) (X:List Con) (M:Value),(V≤U.length∧U.drop V=t1)∧t1.length=g∧qT ej t1 V (E,X)=some o2∧Sk a 103 [(55,xC (V:Int)),(3,oO T),(6,oO f),(7,oO i),(9,oO t),(10,oO A),(53,Q),(54,xC (U.length:Int))]∧Sep X1 N1 w1 w [bx A [xC J.vars,M] 29,bx t [xC j.size,C] 26,rl 2 oV 66 C E,rl 2 oR 69 M X,bx i [xC 0,qD] 29,bx f [xC 0,qD] 26]) U.length ?_ ?_
   ·
    exact⟨0,U,j.rels,v4,J.cons,v5,⟨Nat.zero_le _,rfl⟩,rfl,e,F.su,H⟩
   intro g2 a w ⟨V,t1,E,C,X,M,aa,el,e,F,H⟩
   cases t1 with
   | nil=>
    replace e:=qO e;have q1:=qQ aa.1 aa.2;have l2:=vS q1;refine xV (xA 1 F rfl fun a F=>xJ (xF (zD F rfl l2 (qJ (qM (qM (zQ ?_)))))));refine xG ?_;exact⟨E,C,X,M,(zH e),F.su,H⟩
   | cons Z t1=>
    subst el;replace aa:=oZ aa.2;have y1:=qX aa.2.1;obtain⟨hl,e,em⟩:=qG e;rw[ek] at e;have l2:=vE aa.1;refine xV (xA 1 F rfl fun a F=>xJ (xF (zC F rfl l2 (xN (xG (xF ?_))))));have j1:=gP (Nat.le_of_lt aa.1) i9;have m1:=zU aa.1 i9;refine oJ (xV (oI underlying47 sizeOf32 F rfl rfl rfl A2 y1 fun a p1 h3 F=>olS isAgg32 F rfl rfl (d9.trans (Sm.mono H.sm ce.2.2)) h3 fun a P h4 F=>xA 1 F rfl fun a F=>vG (oD kG F rfl rfl rfl (fun a F=>?_))));refine oB isAgg24 F rfl rfl (H.b 1 rfl) rfl fun a F=>oL underlying24 F rfl rfl (H.l 2 rfl) fun a en F=>vY underlying69 zeroValue69 (fun w=>by simp [sizeOf2,sizeOf41];rfl) F rfl rfl rfl rfl rfl (oc rfl on) rfl rfl fun a F=>oA zeroValue69 F rfl rfl H fun a w I H F=>cN (vs:=[xC (E.length:Int),qD]) sizeOf69 F rfl rfl rfl H (oc rfl (oc rfl on)) rfl rfl fun w H=>vG (oR0 (R:=xI) underlying41 sizeOf2 F rfl H fun a w eo H F=>oA zeroValue41 F rfl rfl H (fun a w O H F=>?_));refine oW sizeOf41 F rfl rfl rfl H (H.l 1 rfl).one rfl rfl fun w H=>xJ (xF (xV (xA 1 F rfl fun a F=>oL underlying32 F rfl rfl h4 fun a da F=>xA 1 F rfl fun a F=>xJ ?_)));obtain⟨o3,e,ep⟩:=xM e;refine oH (fun a w=>∃ (s6:List Int) (cf:Value) (s7:List Int) (cg:Value),o3= .nx (s6,s7)∧Sk a 103 [(3,oO T),(6,oO f),(7,oO i),(9,oO t),(10,oO A),(12,P),(13,oO I),(14,oO O),(53,Q),(54,xC (U.length:Int)),(55,xC (V:Int))]∧Sep X1 N1 w1 w [rl 1 xI 2 cf s6,bx O [cg] 41,rl 1 xI 2 cg s7,bx I [xC (E.length:Int),cf] 69,bx A [xC J.vars,M] 29,bx t [xC j.size,C] 26,rl 2 oV 66 C E,rl 2 oR 69 M X,bx i [xC 0,qD] 29,bx f [xC 0,qD] 26]) ?_ ?_
    ·
     refine oJ ?_;obtain⟨er,es,e⟩:=qP e;refine qK (fun g a w=>∃ (Y:Nat) (t2:List Literal) (s8:List Int) (K:Value) (s9:List Int) (D:Value),(Y≤Z.length∧Z.drop Y=t2)∧t2.length=g∧qT er t2 Y (s8,s9)=some o3∧Sk a 103 [(66,xC (Y:Int)),(3,oO T),(6,oO f),(7,oO i),(9,oO t),(10,oO A),(12,P),(13,oO I),(14,oO O),(53,Q),(54,xC (U.length:Int)),(55,xC (V:Int)),(64,P),(65,xC (Z.length:Int))]∧Sep X1 N1 w1 w [rl 1 xI 2 K s8,bx O [D] 41,rl 1 xI 2 D s9,bx I [xC (E.length:Int),K] 69,bx A [xC J.vars,M] 29,bx t [xC j.size,C] 26,rl 2 oV 66 C E,rl 2 oR 69 M X,bx i [xC 0,qD] 29,bx f [xC 0,qD] 26]) Z.length ?_ ?_
     ·
      exact⟨0,Z,[],qD,[],eo,⟨Nat.zero_le _,rfl⟩,rfl,e,F.su,(H.nl 1 xI 2)⟩
     intro g3 a w ⟨Y,t2,s8,K,s9,D,ab,et,e,F,H⟩
     cases t2 with
     | nil=>
      replace e:=qO e;have q2:=qQ ab.1 ab.2;have l3:=vS q2;refine xV (xA 1 F rfl fun a F=>xJ (xF (zD F rfl l3 (qJ (qM (qM (zQ ?_)))))));refine xG ?_;exact⟨s8,K,s9,D,(zH e),F.su,H⟩
     | cons p t2=>
      subst et;replace ab:=oZ ab.2;have y2:=qX ab.2.1;obtain⟨hm,e,eu⟩:=qG e;rw[es] at e;have l3:=vE ab.1;refine xV (xA 1 F rfl fun a F=>xJ (xF (zC F rfl l3 (xN (xG (xF ?_))))));have j2:=gP (Nat.le_of_lt ab.1) da;have m2:=zU ab.1 da;refine oJ (xV (oI underlying32 sizeOf35 F rfl rfl rfl h4 y2 fun a p2 h5 F=>olA isAgg35 sizeOf35 F rfl rfl (d9.trans (Sm.mono H.sm ce.2.2)) h5 fun a hn h6 F=>oA zeroValue35 F rfl rfl H (fun a w b9 H F=>?_)));obtain⟨rfl,ae,ac⟩:=xU.o (e1 h6);refine cN (vs:=[xC p.var,xC p.value]) sizeOf35 F rfl rfl rfl H (oc rfl (oc rfl on)) rfl rfl fun w H=>xJ ?_;obtain⟨z7,c7,e⟩:=xB e;obtain⟨z8,c8,e⟩:=xB e;obtain⟨w2,rfl⟩:∃ x,x=w:=⟨_,rfl⟩;have ho:=H.sm;obtain⟨X2,N2,g4,e2,H,ew,hp⟩:=H.fza;have K3:=g4.bk;refine xD H (by kernel_rfl) fun w H=>dp (fun G=>∀ (ba ch:Value) (a:Act) (w:World),Sk a 103 [(3,oO T),(6,oO f),(7,oO i),(9,oO t),(10,oO A),(12,P),(13,oO I),(14,oO O),(53,Q),(54,xC (U.length:Int)),(55,xC (V:Int)),(64,P),(65,xC (Z.length:Int)),(66,xC (Y:Int)),(75,ba),(76,D),(79,ch),(81,.pointer (some ⟨I,1,none⟩))]→Sep X2 N2 w2 w [rl 1 xI 2 ba z7,rl 1 xI 2 ch ([p.value]),bx O [D] 41,rl 1 xI 2 D s9,bx I [xC (E.length:Int),K] 69,bx A [xC J.vars,M] 29,bx t [xC j.size,C] 26,rl 2 oV 66 C E,rl 2 oR 69 M X,bx i [xC 0,qD] 29,bx f [xC 0,qD] 26]→∀ d,d = #[true,true,true,true,true,true,true,true,true,true,false,true,false,false]→G 3 d a w) ?_ (fun H2=>?_)
      ·
       intro ba ch a w F H d n;subst n;refine xE H 10 rfl (by kernel_rfl) (oPL (sz:=1) (R:=xI) (z:=(xC 0)) (bytes:=8) underlying41 (by kernel_rfl) rfl rfl F rfl rfl rfl (H.s [3,1,0,2,4,5,6,7,8,9,10] rfl rfl) c8 fun a w ex H F=>xJ ⟨⟨_,H⟩,?_⟩);refine xE H 12 rfl (by kernel_rfl) (oW sizeOf41 F rfl rfl rfl (H.s [3,0,1,2,4,5,6,7,8,9] rfl rfl) ((H.s [3,0,1,2,4,5,6,7,8,9] rfl rfl).l 2 rfl).one rfl rfl fun w H=>xJ ⟨⟨_,H⟩,?_⟩);refine xE H 13 rfl (by kernel_rfl) (oW sizeOf41 F rfl rfl rfl (H.s [3,0,1,2,4,5,6,7,8,9] rfl rfl) ((H.s [3,0,1,2,4,5,6,7,8,9] rfl rfl).l 2 rfl).one rfl rfl fun w H=>xJ ⟨⟨_,H⟩,?_⟩);refine vZ (by kernel_rfl) (vH (xG (xY (vP F rfl rfl rfl m2 fun a F=>xA 1 F rfl fun a F=>xJ ?_))));replace e:=vU e eu;exact⟨_,Nat.lt_succ_self _,Y+1,t2,z7,ba,z8,ex,⟨ab.1,ab.2.2⟩,rfl,e,F.su,((ew.1 H (Ns.all ⟨n0,⟨n0,⟨n0,⟨n0,⟨n0,⟨n0,⟨n0,⟨n0,⟨n0,⟨n0,trivial⟩⟩⟩⟩⟩⟩⟩⟩⟩⟩)).s [4,1,3,2,5,6,7,8,9,10] rfl rfl)⟩
      refine dp (fun G=>∀ (bb:Value) (a:Act) (w:World),Sk a 103 [(3,oO T),(6,oO f),(7,oO i),(9,oO t),(10,oO A),(12,P),(13,oO I),(14,oO O),(53,Q),(54,xC (U.length:Int)),(55,xC (V:Int)),(64,P),(65,xC (Z.length:Int)),(66,xC (Y:Int)),(75,bb),(76,D),(78,xC p.value),(81,.pointer (some ⟨I,1,none⟩))]→Sep X2 N2 w2 w [rl 1 xI 2 bb z7,bx O [D] 41,rl 1 xI 2 D s9,bx I [xC (E.length:Int),K] 69,bx A [xC J.vars,M] 29,bx t [xC j.size,C] 26,rl 2 oV 66 C E,rl 2 oR 69 M X,bx i [xC 0,qD] 29,bx f [xC 0,qD] 26]→∀ d,d = #[true,true,true,true,true,true,true,true,true,false,false,true,false,false]→G 4 d a w) ?_ (fun H3=>?_)
      ·
       intro bb a w F H d n;subst n;refine xE H 9 rfl (by kernel_rfl) (cM (R:=xI) (y:=p.value) underlying41 sizeOf2 zeroValue2 rfl rfl F rfl rfl H (Eo.int ac) fun a w ey H F=>xJ ⟨⟨_,H⟩,?_⟩);exact H2 bb ey _ _ (F.su) (H.s [1,0,2,3,4,5,6,7,8,9,10] rfl rfl) _ (by kernel_rfl)
      refine dp (fun G=>∀ (bc bd:Value) (a:Act) (w:World),Sk a 103 [(3,oO T),(6,oO f),(7,oO i),(9,oO t),(10,oO A),(12,P),(13,oO I),(14,oO O),(53,Q),(54,xC (U.length:Int)),(55,xC (V:Int)),(64,P),(65,xC (Z.length:Int)),(66,xC (Y:Int)),(75,bc),(79,bd),(81,.pointer (some ⟨I,1,none⟩))]→Sep X2 N2 w2 w [rl 1 xI 2 bc z7,rl 1 xI 2 bd ([p.value]),bx O [D] 41,rl 1 xI 2 D s9,bx I [xC (E.length:Int),K] 69,bx A [xC J.vars,M] 29,bx t [xC j.size,C] 26,rl 2 oV 66 C E,rl 2 oR 69 M X,bx i [xC 0,qD] 29,bx f [xC 0,qD] 26]→∀ d,d = #[true,true,true,true,true,true,false,true,true,true,false,true,false,false]→G 4 d a w) ?_ (fun H4=>?_)
      ·
       intro bc bd a w F H d n;subst n;refine xE H 6 rfl (by kernel_rfl) (oB isAgg41 F rfl rfl (H.b 2 rfl) rfl fun a F=>xJ ⟨⟨_,H⟩,?_⟩);exact H2 bc bd _ _ (F.su) H _ (by kernel_rfl)
      refine dp (fun G=>∀ (ci be:Value) (a:Act) (w:World),Sk a 103 [(3,oO T),(6,oO f),(7,oO i),(9,oO t),(10,oO A),(12,P),(13,oO I),(14,oO O),(53,Q),(54,xC (U.length:Int)),(55,xC (V:Int)),(64,P),(65,xC (Z.length:Int)),(66,xC (Y:Int)),(71,K),(74,ci),(76,D),(79,be)]→Sep X2 N2 w2 w [rl 1 xI 2 ci ([p.var]),rl 1 xI 2 be ([p.value]),rl 1 xI 2 K s8,bx O [D] 41,rl 1 xI 2 D s9,bx I [xC (E.length:Int),K] 69,bx A [xC J.vars,M] 29,bx t [xC j.size,C] 26,rl 2 oV 66 C E,rl 2 oR 69 M X,bx i [xC 0,qD] 29,bx f [xC 0,qD] 26]→∀ d,d = #[true,true,true,true,true,false,true,true,true,true,false,false,false,false]→G 5 d a w) ?_ (fun H5=>?_)
      ·
       intro ci be a w F H d n;subst n;refine xE H 5 rfl (by kernel_rfl) (oPL (sz:=1) (R:=xI) (z:=(xC 0)) (bytes:=8) underlying41 (by kernel_rfl) rfl rfl F rfl rfl rfl (H.s [2,0,1,3,4,5,6,7,8,9,10,11] rfl rfl) c7 fun a w ez H F=>xJ ⟨⟨_,H⟩,?_⟩);refine qE 11 rfl (by kernel_rfl) (xO F rfl (fun w l=>oM bM F rfl rfl) (fun a F=>?_));exact H2 ez be _ _ (F.su) H _ (by kernel_rfl)
      refine dp (fun G=>∀ (bf:Value) (a:Act) (w:World),Sk a 103 [(3,oO T),(6,oO f),(7,oO i),(9,oO t),(10,oO A),(12,P),(13,oO I),(14,oO O),(53,Q),(54,xC (U.length:Int)),(55,xC (V:Int)),(64,P),(65,xC (Z.length:Int)),(66,xC (Y:Int)),(71,K),(74,bf),(76,D),(78,xC p.value)]→Sep X2 N2 w2 w [rl 1 xI 2 bf ([p.var]),rl 1 xI 2 K s8,bx O [D] 41,rl 1 xI 2 D s9,bx I [xC (E.length:Int),K] 69,bx A [xC J.vars,M] 29,bx t [xC j.size,C] 26,rl 2 oV 66 C E,rl 2 oR 69 M X,bx i [xC 0,qD] 29,bx f [xC 0,qD] 26]→∀ d,d = #[true,true,true,true,true,false,true,true,true,false,false,false,false,false]→G 6 d a w) ?_ (fun H6=>?_)
      ·
       intro bf a w F H d n;subst n;refine kP [5,9] (by kernel_rfl) (by simp) ⟨⟨_,rfl,?_⟩,⟨_,rfl,?_⟩,trivial⟩
       ·
        refine kJ H (oPL (sz:=1) (R:=xI) (z:=(xC 0)) (bytes:=8) underlying41 (by kernel_rfl) rfl rfl F rfl rfl rfl (H.s [1,0,2,3,4,5,6,7,8,9,10] rfl rfl) c7 fun a w f3 H F=>xJ ⟨⟨_,H⟩,?_⟩);refine qE 11 rfl (by kernel_rfl) (xO F rfl (fun w l=>oM bM F rfl rfl) (fun a F=>?_));exact H3 f3 _ _ (F.su) H _ (by kernel_rfl)
       refine kJ H (cM (R:=xI) (y:=p.value) underlying41 sizeOf2 zeroValue2 rfl rfl F rfl rfl H (Eo.int ac) fun a w f4 H F=>xJ ⟨⟨_,H⟩,?_⟩);exact H5 bf f4 _ _ (F.su) (H.s [1,0,2,3,4,5,6,7,8,9,10,11] rfl rfl) _ (by kernel_rfl)
      refine dp (fun G=>∀ (bg av:Value) (a:Act) (w:World),Sk a 103 [(3,oO T),(6,oO f),(7,oO i),(9,oO t),(10,oO A),(12,P),(13,oO I),(14,oO O),(53,Q),(54,xC (U.length:Int)),(55,xC (V:Int)),(64,P),(65,xC (Z.length:Int)),(66,xC (Y:Int)),(71,K),(74,bg),(79,av)]→Sep X2 N2 w2 w [rl 1 xI 2 bg ([p.var]),rl 1 xI 2 av ([p.value]),rl 1 xI 2 K s8,bx O [D] 41,rl 1 xI 2 D s9,bx I [xC (E.length:Int),K] 69,bx A [xC J.vars,M] 29,bx t [xC j.size,C] 26,rl 2 oV 66 C E,rl 2 oR 69 M X,bx i [xC 0,qD] 29,bx f [xC 0,qD] 26]→∀ d,d = #[true,true,true,true,true,false,false,true,true,true,false,false,false,false]→G 6 d a w) ?_ (fun H7=>?_)
      ·
       intro bg av a w F H d n;subst n;refine kP [5,6] (by kernel_rfl) (by simp) ⟨⟨_,rfl,?_⟩,⟨_,rfl,?_⟩,trivial⟩
       ·
        refine kJ H (oPL (sz:=1) (R:=xI) (z:=(xC 0)) (bytes:=8) underlying41 (by kernel_rfl) rfl rfl F rfl rfl rfl (H.s [2,0,1,3,4,5,6,7,8,9,10,11] rfl rfl) c7 fun a w f5 H F=>xJ ⟨⟨_,H⟩,?_⟩);refine qE 11 rfl (by kernel_rfl) (xO F rfl (fun w l=>oM bM F rfl rfl) (fun a F=>?_));exact H4 f5 av _ _ (F.su) H _ (by kernel_rfl)
       refine kJ H (oB isAgg41 F rfl rfl (H.b 3 rfl) rfl fun a F=>xJ ⟨⟨_,H⟩,?_⟩);exact H5 bg av _ _ (F.su) H _ (by kernel_rfl)
      refine dp (fun G=>∀ (bh:Value) (a:Act) (w:World),Sk a 103 [(3,oO T),(6,oO f),(7,oO i),(9,oO t),(10,oO A),(12,P),(13,oO I),(14,oO O),(53,Q),(54,xC (U.length:Int)),(55,xC (V:Int)),(64,P),(65,xC (Z.length:Int)),(66,xC (Y:Int)),(71,K),(73,xC p.var),(76,D),(79,bh)]→Sep X2 N2 w2 w [rl 1 xI 2 bh ([p.value]),rl 1 xI 2 K s8,bx O [D] 41,rl 1 xI 2 D s9,bx I [xC (E.length:Int),K] 69,bx A [xC J.vars,M] 29,bx t [xC j.size,C] 26,rl 2 oV 66 C E,rl 2 oR 69 M X,bx i [xC 0,qD] 29,bx f [xC 0,qD] 26]→∀ d,d = #[true,true,true,true,false,false,true,true,true,true,false,false,false,false]→G 6 d a w) ?_ (fun H8=>?_)
      ·
       intro bh a w F H d n;subst n;refine xE H 4 rfl (by kernel_rfl) (cM (R:=xI) (y:=p.var) underlying41 sizeOf2 zeroValue2 rfl rfl F rfl rfl H (Eo.int ae) fun a w f6 H F=>xJ ⟨⟨_,H⟩,?_⟩);exact H5 f6 bh _ _ (F.su) H _ (by kernel_rfl)
      refine dp (fun G=>∀ (bi bj:Value) (a:Act) (w:World),Sk a 103 [(3,oO T),(6,oO f),(7,oO i),(9,oO t),(10,oO A),(12,P),(13,oO I),(14,oO O),(53,Q),(54,xC (U.length:Int)),(55,xC (V:Int)),(64,P),(65,xC (Z.length:Int)),(66,xC (Y:Int)),(70,.pointer (some ⟨I,1,none⟩)),(74,bi),(76,D),(79,bj)]→Sep X2 N2 w2 w [rl 1 xI 2 bi ([p.var]),rl 1 xI 2 bj ([p.value]),rl 1 xI 2 K s8,bx O [D] 41,rl 1 xI 2 D s9,bx I [xC (E.length:Int),K] 69,bx A [xC J.vars,M] 29,bx t [xC j.size,C] 26,rl 2 oV 66 C E,rl 2 oR 69 M X,bx i [xC 0,qD] 29,bx f [xC 0,qD] 26]→∀ d,d = #[true,false,true,true,true,false,true,true,true,true,false,false,false,false]→G 6 d a w) ?_ (fun H9=>?_)
      ·
       intro bi bj a w F H d n;subst n;refine xE H 1 rfl (by kernel_rfl) (oB isAgg41 F rfl rfl (H.b 5 rfl) rfl fun a F=>xJ ⟨⟨_,H⟩,?_⟩);exact H5 bi bj _ _ (F.su) H _ (by kernel_rfl)
      refine dp (fun G=>∀ (aw ax:Value) (a:Act) (w:World),Sk a 103 [(3,oO T),(6,oO f),(7,oO i),(9,oO t),(10,oO A),(12,P),(13,oO I),(14,oO O),(53,Q),(54,xC (U.length:Int)),(55,xC (V:Int)),(64,P),(65,xC (Z.length:Int)),(66,xC (Y:Int)),(70,.pointer (some ⟨I,1,none⟩)),(74,aw),(79,ax)]→Sep X2 N2 w2 w [rl 1 xI 2 aw ([p.var]),rl 1 xI 2 ax ([p.value]),rl 1 xI 2 K s8,bx O [D] 41,rl 1 xI 2 D s9,bx I [xC (E.length:Int),K] 69,bx A [xC J.vars,M] 29,bx t [xC j.size,C] 26,rl 2 oV 66 C E,rl 2 oR 69 M X,bx i [xC 0,qD] 29,bx f [xC 0,qD] 26]→∀ d,d = #[true,false,true,true,true,false,false,true,true,true,false,false,false,false]→G 7 d a w) ?_ (fun db=>?_)
      ·
       intro aw ax a w F H d n;subst n;refine kP [1,6] (by kernel_rfl) (by simp) ⟨⟨_,rfl,?_⟩,⟨_,rfl,?_⟩,trivial⟩
       ·
        refine kJ H (oB isAgg41 F rfl rfl (H.b 5 rfl) rfl fun a F=>xJ ⟨⟨_,H⟩,?_⟩);exact H7 aw ax _ _ (F.su) H _ (by kernel_rfl)
       refine kJ H (oB isAgg41 F rfl rfl (H.b 3 rfl) rfl fun a F=>xJ ⟨⟨_,H⟩,?_⟩);exact H9 aw ax _ _ (F.su) H _ (by kernel_rfl)
      refine dp (fun G=>∀ (ay:Value) (a:Act) (w:World),Sk a 103 [(3,oO T),(6,oO f),(7,oO i),(9,oO t),(10,oO A),(12,P),(13,oO I),(14,oO O),(53,Q),(54,xC (U.length:Int)),(55,xC (V:Int)),(64,P),(65,xC (Z.length:Int)),(66,xC (Y:Int)),(70,.pointer (some ⟨I,1,none⟩)),(73,xC p.var),(76,D),(79,ay)]→Sep X2 N2 w2 w [rl 1 xI 2 ay ([p.value]),rl 1 xI 2 K s8,bx O [D] 41,rl 1 xI 2 D s9,bx I [xC (E.length:Int),K] 69,bx A [xC J.vars,M] 29,bx t [xC j.size,C] 26,rl 2 oV 66 C E,rl 2 oR 69 M X,bx i [xC 0,qD] 29,bx f [xC 0,qD] 26]→∀ d,d = #[true,false,true,true,false,false,true,true,true,true,false,false,false,false]→G 7 d a w) ?_ (fun dc=>?_)
      ·
       intro ay a w F H d n;subst n;refine kP [1,4] (by kernel_rfl) (by simp) ⟨⟨_,rfl,?_⟩,⟨_,rfl,?_⟩,trivial⟩
       ·
        refine kJ H (oB isAgg41 F rfl rfl (H.b 4 rfl) rfl fun a F=>xJ ⟨⟨_,H⟩,?_⟩);exact H8 ay _ _ (F.su) H _ (by kernel_rfl)
       refine kJ H (cM (R:=xI) (y:=p.var) underlying41 sizeOf2 zeroValue2 rfl rfl F rfl rfl H (Eo.int ae) fun a w f7 H F=>xJ ⟨⟨_,H⟩,?_⟩);exact H9 f7 ay _ _ (F.su) H _ (by kernel_rfl)
      refine dp (fun G=>∀ (a:Act) (w:World),Sk a 103 [(3,oO T),(6,oO f),(7,oO i),(9,oO t),(10,oO A),(12,P),(13,oO I),(14,oO O),(53,Q),(54,xC (U.length:Int)),(55,xC (V:Int)),(64,P),(65,xC (Z.length:Int)),(66,xC (Y:Int)),(71,K),(73,xC p.var),(76,D),(78,xC p.value)]→Sep X2 N2 w2 w [rl 1 xI 2 K s8,bx O [D] 41,rl 1 xI 2 D s9,bx I [xC (E.length:Int),K] 69,bx A [xC J.vars,M] 29,bx t [xC j.size,C] 26,rl 2 oV 66 C E,rl 2 oR 69 M X,bx i [xC 0,qD] 29,bx f [xC 0,qD] 26]→∀ d,d = #[true,true,true,true,false,false,true,true,true,false,false,false,false,false]→G 7 d a w) ?_ (fun dd=>?_)
      ·
       intro a w F H d n;subst n;refine kP [4,9] (by kernel_rfl) (by simp) ⟨⟨_,rfl,?_⟩,⟨_,rfl,?_⟩,trivial⟩
       ·
        refine kJ H (cM (R:=xI) (y:=p.var) underlying41 sizeOf2 zeroValue2 rfl rfl F rfl rfl H (Eo.int ae) fun a w f8 H F=>xJ ⟨⟨_,H⟩,?_⟩);exact H6 f8 _ _ (F.su) H _ (by kernel_rfl)
       refine kJ H (cM (R:=xI) (y:=p.value) underlying41 sizeOf2 zeroValue2 rfl rfl F rfl rfl H (Eo.int ac) fun a w f9 H F=>xJ ⟨⟨_,H⟩,?_⟩);exact H8 f9 _ _ (F.su) H _ (by kernel_rfl)
      refine dp (fun G=>∀ (az:Value) (a:Act) (w:World),Sk a 103 [(3,oO T),(6,oO f),(7,oO i),(9,oO t),(10,oO A),(12,P),(13,oO I),(14,oO O),(53,Q),(54,xC (U.length:Int)),(55,xC (V:Int)),(64,P),(65,xC (Z.length:Int)),(66,xC (Y:Int)),(70,.pointer (some ⟨I,1,none⟩)),(74,az),(76,D),(78,xC p.value)]→Sep X2 N2 w2 w [rl 1 xI 2 az ([p.var]),rl 1 xI 2 K s8,bx O [D] 41,rl 1 xI 2 D s9,bx I [xC (E.length:Int),K] 69,bx A [xC J.vars,M] 29,bx t [xC j.size,C] 26,rl 2 oV 66 C E,rl 2 oR 69 M X,bx i [xC 0,qD] 29,bx f [xC 0,qD] 26]→∀ d,d = #[true,false,true,true,true,false,true,true,true,false,false,false,false,false]→G 7 d a w) ?_ (fun de=>?_)
      ·
       intro az a w F H d n;subst n;refine kP [1,9] (by kernel_rfl) (by simp) ⟨⟨_,rfl,?_⟩,⟨_,rfl,?_⟩,trivial⟩
       ·
        refine kJ H (oB isAgg41 F rfl rfl (H.b 4 rfl) rfl fun a F=>xJ ⟨⟨_,H⟩,?_⟩);exact H6 az _ _ (F.su) H _ (by kernel_rfl)
       refine kJ H (cM (R:=xI) (y:=p.value) underlying41 sizeOf2 zeroValue2 rfl rfl F rfl rfl H (Eo.int ac) fun a w fa H F=>xJ ⟨⟨_,H⟩,?_⟩);exact H9 az fa _ _ (F.su) (H.s [1,0,2,3,4,5,6,7,8,9,10,11] rfl rfl) _ (by kernel_rfl)
      refine dp (fun G=>∀ (b0:Value) (a:Act) (w:World),Sk a 103 [(3,oO T),(6,oO f),(7,oO i),(9,oO t),(10,oO A),(12,P),(13,oO I),(14,oO O),(53,Q),(54,xC (U.length:Int)),(55,xC (V:Int)),(64,P),(65,xC (Z.length:Int)),(66,xC (Y:Int)),(71,K),(74,b0),(78,xC p.value)]→Sep X2 N2 w2 w [rl 1 xI 2 b0 ([p.var]),rl 1 xI 2 K s8,bx O [D] 41,rl 1 xI 2 D s9,bx I [xC (E.length:Int),K] 69,bx A [xC J.vars,M] 29,bx t [xC j.size,C] 26,rl 2 oV 66 C E,rl 2 oR 69 M X,bx i [xC 0,qD] 29,bx f [xC 0,qD] 26]→∀ d,d = #[true,true,true,true,true,false,false,true,true,false,false,false,false,false]→G 7 d a w) ?_ (fun df=>?_)
      ·
       intro b0 a w F H d n;subst n;refine kP [5,6,9] (by kernel_rfl) (by simp) ⟨⟨_,rfl,?_⟩,⟨_,rfl,?_⟩,⟨_,rfl,?_⟩,trivial⟩
       ·
        refine kJ H (oPL (sz:=1) (R:=xI) (z:=(xC 0)) (bytes:=8) underlying41 (by kernel_rfl) rfl rfl F rfl rfl rfl (H.s [1,0,2,3,4,5,6,7,8,9,10] rfl rfl) c7 fun a w dg H F=>xJ ⟨⟨_,H⟩,?_⟩);refine qE 11 rfl (by kernel_rfl) (xO F rfl (fun w l=>oM bM F rfl rfl) fun a F=>kP [6,9] (by kernel_rfl) (by simp) ⟨⟨_,rfl,?_⟩,⟨_,rfl,?_⟩,trivial⟩)
        ·
         refine kJ H (oB isAgg41 F rfl rfl (H.b 1 rfl) rfl fun a F=>xJ ⟨⟨_,H⟩,?_⟩);exact H3 dg _ _ (F.su) H _ (by kernel_rfl)
        refine kJ H (cM (R:=xI) (y:=p.value) underlying41 sizeOf2 zeroValue2 rfl rfl F rfl rfl H (Eo.int ac) fun a w fb H F=>xJ ⟨⟨_,H⟩,?_⟩);exact H4 dg fb _ _ (F.su) (H.s [1,0,2,3,4,5,6,7,8,9,10] rfl rfl) _ (by kernel_rfl)
       ·
        refine kJ H (oB isAgg41 F rfl rfl (H.b 2 rfl) rfl fun a F=>xJ ⟨⟨_,H⟩,?_⟩);exact H6 b0 _ _ (F.su) H _ (by kernel_rfl)
       refine kJ H (cM (R:=xI) (y:=p.value) underlying41 sizeOf2 zeroValue2 rfl rfl F rfl rfl H (Eo.int ac) fun a w fc H F=>xJ ⟨⟨_,H⟩,?_⟩);exact H7 b0 fc _ _ (F.su) (H.s [1,0,2,3,4,5,6,7,8,9,10,11] rfl rfl) _ (by kernel_rfl)
      refine dp (fun G=>∀ (b1:Value) (a:Act) (w:World),Sk a 103 [(3,oO T),(6,oO f),(7,oO i),(9,oO t),(10,oO A),(12,P),(13,oO I),(14,oO O),(53,Q),(54,xC (U.length:Int)),(55,xC (V:Int)),(64,P),(65,xC (Z.length:Int)),(66,xC (Y:Int)),(71,K),(73,xC p.var),(79,b1)]→Sep X2 N2 w2 w [rl 1 xI 2 b1 ([p.value]),rl 1 xI 2 K s8,bx O [D] 41,rl 1 xI 2 D s9,bx I [xC (E.length:Int),K] 69,bx A [xC J.vars,M] 29,bx t [xC j.size,C] 26,rl 2 oV 66 C E,rl 2 oR 69 M X,bx i [xC 0,qD] 29,bx f [xC 0,qD] 26]→∀ d,d = #[true,true,true,true,false,false,false,true,true,true,false,false,false,false]→G 7 d a w) ?_ (fun dh=>?_)
      ·
       intro b1 a w F H d n;subst n;refine kP [4,6] (by kernel_rfl) (by simp) ⟨⟨_,rfl,?_⟩,⟨_,rfl,?_⟩,trivial⟩
       ·
        refine kJ H (cM (R:=xI) (y:=p.var) underlying41 sizeOf2 zeroValue2 rfl rfl F rfl rfl H (Eo.int ae) fun a w fd H F=>xJ ⟨⟨_,H⟩,?_⟩);exact H7 fd b1 _ _ (F.su) H _ (by kernel_rfl)
       refine kJ H (oB isAgg41 F rfl rfl (H.b 2 rfl) rfl fun a F=>xJ ⟨⟨_,H⟩,?_⟩);exact H8 b1 _ _ (F.su) H _ (by kernel_rfl)
      refine qE 0 rfl (by kernel_rfl) (xO F rfl (fun w l=>oM bM F rfl rfl) fun a F=>qE 2 rfl (by kernel_rfl) (xO F rfl (fun w l=>oM nW F rfl rfl) fun a F=>qE 3 rfl (by kernel_rfl) (vB isAgg2 F rfl rfl (K3.v H.sm) rfl fun a F=>qE 7 rfl (by kernel_rfl) (xO F rfl (fun w l=>oM pV F rfl rfl) fun a F=>qE 8 rfl (by kernel_rfl) (vB isAgg2 F rfl rfl (K3.v H.sm) rfl fun a F=>kP [1,4,6,9] (by kernel_rfl) (by simp) ⟨⟨_,rfl,?_⟩,⟨_,rfl,?_⟩,⟨_,rfl,?_⟩,⟨_,rfl,?_⟩,trivial⟩)))))
      ·
       refine kJ H (oB isAgg41 F rfl rfl (H.b 3 rfl) rfl fun a F=>xJ ⟨⟨_,H⟩,?_⟩);refine kP [4,6,9] (by kernel_rfl) (by simp) ⟨⟨_,rfl,?_⟩,⟨_,rfl,?_⟩,⟨_,rfl,?_⟩,trivial⟩
       ·
        refine kJ H (cM (R:=xI) (y:=p.var) underlying41 sizeOf2 zeroValue2 rfl rfl F rfl rfl H (Eo.int ae) fun a w fe H F=>xJ ⟨⟨_,H⟩,?_⟩);exact df fe _ _ (F.su) H _ (by kernel_rfl)
       ·
        refine kJ H (oB isAgg41 F rfl rfl (H.b 1 rfl) rfl fun a F=>xJ ⟨⟨_,H⟩,?_⟩);exact dd _ _ (F.su) H _ (by kernel_rfl)
       refine kJ H (cM (R:=xI) (y:=p.value) underlying41 sizeOf2 zeroValue2 rfl rfl F rfl rfl H (Eo.int ac) fun a w ff H F=>xJ ⟨⟨_,H⟩,?_⟩);exact dh ff _ _ (F.su) H _ (by kernel_rfl)
      ·
       refine kJ H (cM (R:=xI) (y:=p.var) underlying41 sizeOf2 zeroValue2 rfl rfl F rfl rfl H (Eo.int ae) fun a w cj H F=>xJ ⟨⟨_,H⟩,?_⟩);refine kP [1,6,9] (by kernel_rfl) (by simp) ⟨⟨_,rfl,?_⟩,⟨_,rfl,?_⟩,⟨_,rfl,?_⟩,trivial⟩
       ·
        refine kJ H (oB isAgg41 F rfl rfl (H.b 4 rfl) rfl fun a F=>xJ ⟨⟨_,H⟩,?_⟩);exact df cj _ _ (F.su) H _ (by kernel_rfl)
       ·
        refine kJ H (oB isAgg41 F rfl rfl (H.b 2 rfl) rfl fun a F=>xJ ⟨⟨_,H⟩,?_⟩);exact de cj _ _ (F.su) H _ (by kernel_rfl)
       refine kJ H (cM (R:=xI) (y:=p.value) underlying41 sizeOf2 zeroValue2 rfl rfl F rfl rfl H (Eo.int ac) fun a w fg H F=>xJ ⟨⟨_,H⟩,?_⟩);exact db cj fg _ _ (F.su) (H.s [1,0,2,3,4,5,6,7,8,9,10,11] rfl rfl) _ (by kernel_rfl)
      ·
       refine kJ H (oB isAgg41 F rfl rfl (H.b 1 rfl) rfl fun a F=>xJ ⟨⟨_,H⟩,?_⟩);refine kP [1,4,9] (by kernel_rfl) (by simp) ⟨⟨_,rfl,?_⟩,⟨_,rfl,?_⟩,⟨_,rfl,?_⟩,trivial⟩
       ·
        refine kJ H (oB isAgg41 F rfl rfl (H.b 3 rfl) rfl fun a F=>xJ ⟨⟨_,H⟩,?_⟩);exact dd _ _ (F.su) H _ (by kernel_rfl)
       ·
        refine kJ H (cM (R:=xI) (y:=p.var) underlying41 sizeOf2 zeroValue2 rfl rfl F rfl rfl H (Eo.int ae) fun a w fh H F=>xJ ⟨⟨_,H⟩,?_⟩);exact de fh _ _ (F.su) H _ (by kernel_rfl)
       refine kJ H (cM (R:=xI) (y:=p.value) underlying41 sizeOf2 zeroValue2 rfl rfl F rfl rfl H (Eo.int ac) fun a w fi H F=>xJ ⟨⟨_,H⟩,?_⟩);exact dc fi _ _ (F.su) H _ (by kernel_rfl)
      refine kJ H (cM (R:=xI) (y:=p.value) underlying41 sizeOf2 zeroValue2 rfl rfl F rfl rfl H (Eo.int ac) fun a w cl H F=>xJ ⟨⟨_,H⟩,?_⟩);refine kP [1,4,6] (by kernel_rfl) (by simp) ⟨⟨_,rfl,?_⟩,⟨_,rfl,?_⟩,⟨_,rfl,?_⟩,trivial⟩
      ·
       refine kJ H (oB isAgg41 F rfl rfl (H.b 4 rfl) rfl fun a F=>xJ ⟨⟨_,H⟩,?_⟩);exact dh cl _ _ (F.su) H _ (by kernel_rfl)
      ·
       refine kJ H (cM (R:=xI) (y:=p.var) underlying41 sizeOf2 zeroValue2 rfl rfl F rfl rfl H (Eo.int ae) fun a w fj H F=>xJ ⟨⟨_,H⟩,?_⟩);exact db fj cl _ _ (F.su) H _ (by kernel_rfl)
      refine kJ H (oB isAgg41 F rfl rfl (H.b 2 rfl) rfl fun a F=>xJ ⟨⟨_,H⟩,?_⟩);exact dc cl _ _ (F.su) H _ (by kernel_rfl)
    rintro a w ⟨s6,cf,s7,cg,rfl,F,H⟩
    have e:=xW ep;refine xG (xV (oD zT F rfl rfl rfl fun a F=>oB isAgg27 F rfl rfl (H.b 4 rfl) rfl fun a F=>dJ isAgg69 sizeOf69 F rfl rfl (H.b 3 rfl) rfl rfl (fun a F=>?_)));have H:=(oR.w en H);refine eZ (R:=oR) (y:=(Con.mk (E.length:Int) s6)) underlying27 sizeOf69 zeroValue69 rfl rfl F rfl rfl H El.agg (fun a w hq H F=>?_);obtain⟨z9,c9,e⟩:=xB e;refine oPL (sz:=2) (R:=oR) (z:=(.agg #[xC 0,qD])) (bytes:=32) underlying27 (by kernel_rfl) rfl rfl F rfl rfl rfl (H.s [7,0,1,2,3,4,5,6,8,9] rfl rfl) c9 fun a w v62 H F=>oD zT F rfl rfl rfl fun a F=>oW sizeOf27 F rfl rfl rfl (H.s [4,0,1,2,3,5,6,7,8] rfl rfl) ((H.s [4,0,1,2,3,5,6,7,8] rfl rfl).l 1 rfl).one rfl rfl fun w H=>xJ ?_;obtain⟨a9,di,e⟩:=xB e;obtain⟨fk,fl,e⟩:=xB e;refine xD H (by kernel_rfl) fun w H=>dp (fun G=>∀ (cm:Value) (a:Act) (w:World),Sk a 103 [(3,oO T),(6,oO f),(7,oO i),(9,oO t),(10,oO A),(53,Q),(54,xC (U.length:Int)),(55,xC (V:Int)),(90,C),(97,cm)]→Sep X1 N1 w1 w [rl 2 oV 66 cm ([(Rel.mk a9.arity a9.tuples)]),bx A [xC J.vars,v62] 29,rl 2 oR 69 v62 z9,bx t [xC j.size,C] 26,rl 2 oV 66 C E,bx i [xC 0,qD] 29,bx f [xC 0,qD] 26]→∀ d,d = #[true,true,true,true,true,true,true,true,true,false,false,false]→G 3 d a w) ?_ (fun dj=>?_)
    ·
     intro cm a w F H d n;subst n;refine xE H 9 rfl (by kernel_rfl) (oPL (sz:=2) (R:=oV) (z:=(.agg #[xC 0,qD])) (bytes:=32) underlying24 (by kernel_rfl) rfl rfl F rfl rfl rfl (H.s [4,0,1,2,3,5,6] rfl rfl) fl fun a w fm H F=>xJ ⟨⟨_,H⟩,?_⟩);refine qE 10 rfl (by kernel_rfl) (xO F rfl (fun w l=>oM kG F rfl rfl) fun a F=>xE H 11 rfl (by kernel_rfl) (oW sizeOf24 F rfl rfl rfl (H.s [3,0,1,2,4,5] rfl rfl) ((H.s [3,0,1,2,4,5] rfl rfl).l 1 rfl).one rfl rfl fun w H=>xJ ⟨⟨_,H⟩,?_⟩));refine vZ (by kernel_rfl) (vH (xG (xY (vP F rfl rfl rfl m1 fun a F=>xA 1 F rfl fun a F=>xJ ?_))));replace e:=vU e em;exact⟨_,Nat.lt_succ_self _,V+1,t1,fk,fm,z9,v62,⟨aa.1,aa.2.2⟩,rfl,e,F.su,(H.s [2,0,1,3,4,5] rfl rfl)⟩
    refine dp (fun G=>∀ (cn:Value) (a:Act) (w:World),Sk a 103 [(3,oO T),(6,oO f),(7,oO i),(9,oO t),(10,oO A),(53,Q),(54,xC (U.length:Int)),(55,xC (V:Int)),(90,C),(96,(.agg #[xC a9.arity,cn]))]→Sep X1 N1 w1 w [rl 1 (vQ 1 xI) 41 cn a9.tuples,bx A [xC J.vars,v62] 29,rl 2 oR 69 v62 z9,bx t [xC j.size,C] 26,rl 2 oV 66 C E,bx i [xC 0,qD] 29,bx f [xC 0,qD] 26]→xS a9.arity→∀ d,d = #[true,true,true,true,true,true,true,true,false,false,false,false]→G 4 d a w) ?_ (fun dk=>?_)
    ·
     intro cn a w F H fn d n;subst n;refine xE H 8 rfl (by kernel_rfl) ?_;have H:=(oV.w fn H);refine eZ (R:=oV) (y:=(Rel.mk a9.arity a9.tuples)) underlying24 sizeOf66 zeroValue66 rfl rfl F rfl rfl H El.agg fun a w fo H F=>xJ ⟨⟨_,H⟩,?_⟩;exact dj fo _ _ (F.su) H _ (by kernel_rfl)
    refine qE 0 rfl (by kernel_rfl) (xO F rfl (fun w l=>oM kG F rfl rfl) fun a F=>qE 2 rfl (by kernel_rfl) (xO F rfl (fun w l=>oM iD F rfl rfl) fun a F=>qE 3 rfl (by kernel_rfl) (vB isAgg2 F rfl rfl (K2.v H.sm) rfl fun a F=>qW 4 rfl (by kernel_rfl) (xO F rfl (fun w l=>xL F rfl) fun a F=>qE 5 rfl (by kernel_rfl) (vL underlying32 F rfl rfl h4 fun a dl F=>qE 6 rfl (by kernel_rfl) ?_)))));refine xO F rfl (fun w l=>xFr F rfl rfl) fun a F=>kP [1,7] (by kernel_rfl) (by simp) ⟨⟨_,rfl,?_⟩,⟨_,rfl,?_⟩,trivial⟩
    ·
     refine kJ H (oB isAgg24 F rfl rfl (H.b 5 rfl) rfl fun a F=>xJ ⟨⟨_,H⟩,?_⟩);refine xE H 7 rfl (by kernel_rfl) (oG F rfl call40 rfl (tF a9 di _ aA i1 dl call41 (fun a0 r h W l1 u0 f0=>lH r h W aA f0 ((c1S (H.g 2 rfl).bk (H.l 3 rfl)).w l1))) (fun a vv w ⟨fp,hr,S,fq⟩ F=>?_));subst vv;have H:=H.r1 S n0;refine xJ ⟨⟨_,H⟩,?_⟩;exact dk fp _ _ (F.su) (H.s [0,1,2,6,7,8,9] rfl rfl) fq _ (by kernel_rfl)
    refine kJ H (oG F rfl call40 rfl (tF a9 di _ aA i1 dl call41 (fun a0 r h W l1 u0 f0=>lH r h W aA f0 ((c1S (H.g 2 rfl).bk (H.l 3 rfl)).w l1))) (fun a vv w ⟨fs,hs,S,dm⟩ F=>?_));subst vv;have H:=H.r1 S n0;refine xJ ⟨⟨_,H⟩,?_⟩;refine kP [1,8] (by kernel_rfl) (by simp) ⟨⟨_,rfl,?_⟩,⟨_,rfl,?_⟩,trivial⟩
    ·
     refine kJ H (oB isAgg24 F rfl rfl (H.b 6 rfl) rfl fun a F=>xJ ⟨⟨_,H⟩,?_⟩);exact dk fs _ _ (F.su) (H.s [0,1,2,6,7,8,9] rfl rfl) dm _ (by kernel_rfl)
    refine kJ H ?_;have H:=(oV.w dm H);refine eZ (R:=oV) (y:=(Rel.mk a9.arity a9.tuples)) underlying24 sizeOf66 zeroValue66 rfl rfl F rfl rfl H El.agg fun a w ft H F=>xJ ⟨⟨_,H⟩,?_⟩;refine xE H 1 rfl (by kernel_rfl) (oB isAgg24 F rfl rfl (H.b 6 rfl) rfl fun a F=>xJ ⟨⟨_,H⟩,?_⟩);exact dj ft _ _ (F.su) (H.s [0,1,2,6,7,8,9] rfl rfl) _ (by kernel_rfl)
  rintro a w ⟨s2,v6,s3,v7,rfl,F,H⟩
  have e:=xW ei;refine xG (xF ?_);obtain⟨w3,rfl⟩:∃ x,x=w:=⟨_,rfl⟩;have ht:=H.sm;obtain⟨X3,N3,g5,e3,H,fu,hu⟩:=H.mg.fza;have K4:=g5.l.bk;have K5:=g5.r.bk;refine xD H (by kernel_rfl) fun w H=>qE 0 rfl (by kernel_rfl) (vBA isAgg26 sizeOf26 F rfl rfl (K5.v H.sm) rfl rfl fun a F=>qE 1 rfl (by kernel_rfl) (vBA isAgg29 sizeOf29 F rfl rfl (K4.v H.sm) rfl rfl fun a F=>xE H 2 rfl (by kernel_rfl) (cN (vs:=[xC j.size,v6]) sizeOf26 F rfl rfl rfl (H.s [3,0,1,2] rfl rfl) (oc rfl (oc ((H.s [3,0,1,2] rfl rfl).l 1 rfl).one on)) rfl rfl fun w H=>xJ ⟨⟨_,H⟩,?_⟩)));refine xE H 3 rfl (by kernel_rfl) (cN (vs:=[xC J.vars,v7]) sizeOf29 F rfl rfl rfl (H.s [3,0,1,2] rfl rfl) (oc rfl (oc ((H.s [3,0,1,2] rfl rfl).l 3 rfl).one on)) rfl rfl fun w H=>xJ ⟨⟨_,H⟩,?_⟩);refine qW 4 rfl (by kernel_rfl) (xO F rfl (fun w l=>vK F rfl) fun a F=>vZ (by kernel_rfl) (xG (xR ?_)));have H:=(ce.1 (fu.1 H (Ns.all ⟨n0,⟨n0,⟨n0,⟨n0,trivial⟩⟩⟩⟩)).um (Ns.all ⟨n0,⟨n0,⟨n0,⟨n0,⟨n0,⟨n0,trivial⟩⟩⟩⟩⟩⟩)).um;refine sW F rfl (kF (arr:=#[xC j.size,v6]) F isAgg26 sizeOf26 rfl (H.b 5 rfl)) (kF (arr:=#[xC J.vars,v7]) F isAgg29 sizeOf29 rfl (H.b 4 rfl)) (oE F rfl) ?_;obtain rfl:=oj e;exact⟨_,rfl,v6,v7,rfl,(H.s [6,7] rfl rfl),i7,i8,(show xS (0) by decide)⟩
 refine dp (fun G=>∀ (bm bn:Nat) (bp:Value) (a:Act) (w:World),Sk a 103 [(2,Q),(3,oO T),(6,oO f),(7,oO i),(9,oO bm),(10,oO bn),(50,(.agg #[xC j.size,bp])),(51,(.agg #[xC x1.vars,ar]))]→Sep X1 N1 w1 w [bx bm [xC 0,qD] 26,bx bn [xC 0,qD] 29,rl 2 oV 66 bp j.rels,bx i [xC 0,qD] 29,bx f [xC 0,qD] 26]→xS j.size→∀ d,d = #[true,true,true,false,true,true,false,false]→G 3 d a w) ?_ (fun co=>?_)
 ·
  intro bm bn bp a w F H fv d n;subst n;refine xE H 3 rfl (by kernel_rfl) (oG F rfl call39 rfl (dH J c6 _ aA (xK.m i2 (H.a (e1 h2)))) (fun a vv w ⟨fw,hv,S,fy⟩ F=>?_));subst vv;have H:=H.r1 S n0;refine xJ ⟨⟨_,H⟩,?_⟩;exact H1 bm bn bp fw _ _ (F.su) (H.s [1,2,3,0,4,5] rfl rfl) fv fy _ (by kernel_rfl)
 refine dp (fun G=>∀ (bq:Nat) (br bt:Value) (a:Act) (w:World),Sk a 103 [(2,Q),(3,oO T),(6,oO f),(7,oO i),(9,oO bq),(50,(.agg #[xC j.size,br])),(52,(.agg #[xC J.vars,bt]))]→Sep X1 N1 w1 w [bx bq [xC 0,qD] 26,rl 2 oV 66 br j.rels,rl 2 oR 69 bt J.cons,bx i [xC 0,qD] 29,bx f [xC 0,qD] 26]→xS j.size→xS J.vars→∀ d,d = #[true,true,true,true,true,false,false,false]→G 3 d a w) ?_ (fun dq=>?_)
 ·
  intro bq br bt a w F H g0 i23 d n;subst n;refine xE H 5 rfl (by kernel_rfl) (oA zeroValue29 F rfl rfl H fun a w b13 H F=>xJ ⟨⟨_,H⟩,?_⟩);exact H1 bq b13 br bt _ _ (F.su) (H.s [1,0,2,3,4,5] rfl rfl) g0 i23 _ (by kernel_rfl)
 refine dp (fun G=>∀ (bu:Nat) (bv bw:Value) (a:Act) (w:World),Sk a 103 [(2,Q),(3,oO T),(6,oO f),(7,oO i),(10,oO bu),(50,(.agg #[xC j.size,bv])),(52,(.agg #[xC J.vars,bw]))]→Sep X1 N1 w1 w [bx bu [xC 0,qD] 29,rl 2 oV 66 bv j.rels,rl 2 oR 69 bw J.cons,bx i [xC 0,qD] 29,bx f [xC 0,qD] 26]→xS j.size→xS J.vars→∀ d,d = #[true,true,true,true,false,true,false,false]→G 3 d a w) ?_ (fun dr=>?_)
 ·
  intro bu bv bw a w F H i24 i25 d n;subst n;refine xE H 4 rfl (by kernel_rfl) (oA zeroValue26 F rfl rfl H fun a w b16 H F=>xJ ⟨⟨_,H⟩,?_⟩);exact H1 b16 bu bv bw _ _ (F.su) H i24 i25 _ (by kernel_rfl)
 refine dp (fun G=>∀ (b3:Nat) (b4:Value) (a:Act) (w:World),Sk a 103 [(2,Q),(3,oO T),(6,oO f),(7,oO i),(9,oO b3),(50,(.agg #[xC j.size,b4])),(51,(.agg #[xC x1.vars,ar]))]→Sep X1 N1 w1 w [bx b3 [xC 0,qD] 26,rl 2 oV 66 b4 j.rels,bx i [xC 0,qD] 29,bx f [xC 0,qD] 26]→xS j.size→∀ d,d = #[true,true,true,false,true,false,false,false]→G 4 d a w) ?_ (fun ds=>?_)
 ·
  intro b3 b4 a w F H du d n;subst n;refine kP [3,5] (by kernel_rfl) (by simp) ⟨⟨_,rfl,?_⟩,⟨_,rfl,?_⟩,trivial⟩
  ·
   refine kJ H (oG F rfl call39 rfl (dH J c6 _ aA (xK.m i2 (H.a (e1 h2)))) (fun a vv w ⟨g6,hw,S,g7⟩ F=>?_));subst vv;have H:=H.r1 S n0;refine xJ ⟨⟨_,H⟩,?_⟩;exact dq b3 b4 g6 _ _ (F.su) (H.s [1,2,0,3,4] rfl rfl) du g7 _ (by kernel_rfl)
  refine kJ H (oA zeroValue29 F rfl rfl H fun a w g8 H F=>xJ ⟨⟨_,H⟩,?_⟩);exact co b3 g8 b4 _ _ (F.su) (H.s [1,0,2,3,4] rfl rfl) du _ (by kernel_rfl)
 refine dp (fun G=>∀ (b5:Nat) (b6:Value) (a:Act) (w:World),Sk a 103 [(2,Q),(3,oO T),(6,oO f),(7,oO i),(10,oO b5),(50,(.agg #[xC j.size,b6])),(51,(.agg #[xC x1.vars,ar]))]→Sep X1 N1 w1 w [bx b5 [xC 0,qD] 29,rl 2 oV 66 b6 j.rels,bx i [xC 0,qD] 29,bx f [xC 0,qD] 26]→xS j.size→∀ d,d = #[true,true,true,false,false,true,false,false]→G 4 d a w) ?_ (fun dw=>?_)
 ·
  intro b5 b6 a w F H dx d n;subst n;refine kP [3,4] (by kernel_rfl) (by simp) ⟨⟨_,rfl,?_⟩,⟨_,rfl,?_⟩,trivial⟩
  ·
   refine kJ H (oG F rfl call39 rfl (dH J c6 _ aA (xK.m i2 (H.a (e1 h2)))) (fun a vv w ⟨g9,hx,S,ga⟩ F=>?_));subst vv;have H:=H.r1 S n0;refine xJ ⟨⟨_,H⟩,?_⟩;exact dr b5 b6 g9 _ _ (F.su) (H.s [1,2,0,3,4] rfl rfl) dx ga _ (by kernel_rfl)
  refine kJ H (oA zeroValue26 F rfl rfl H fun a w gb H F=>xJ ⟨⟨_,H⟩,?_⟩);exact co gb b5 b6 _ _ (F.su) H dx _ (by kernel_rfl)
 refine dp (fun G=>∀ (c0 b25:Nat) (a:Act) (w:World),Sk a 103 [(2,Q),(3,oO T),(6,oO f),(7,oO i),(9,oO c0),(10,oO b25),(49,(.agg #[xC x0.size,v3])),(51,(.agg #[xC x1.vars,ar]))]→Sep X1 N1 w1 w [bx c0 [xC 0,qD] 26,bx b25 [xC 0,qD] 29,bx i [xC 0,qD] 29,bx f [xC 0,qD] 26]→∀ d,d = #[true,false,true,false,true,true,false,false]→G 4 d a w) ?_ (fun dy=>?_)
 ·
  intro c0 b25 a w F H d n;subst n;refine xE H 1 rfl (by kernel_rfl) (oG F rfl call38 rfl (fD j c5 _ aA (xH.m i1 (H.a (e1 h1)))) (fun a vv w ⟨gc,hy,S,gd⟩ F=>?_));subst vv;have H:=H.r1 S n0;refine xJ ⟨⟨_,H⟩,?_⟩;exact co c0 b25 gc _ _ (F.su) (H.s [1,2,0,3,4] rfl rfl) gd _ (by kernel_rfl)
 refine qE 0 rfl (by kernel_rfl) (vBA isAgg26 sizeOf26 F rfl rfl (K2.v H.sm) rfl rfl fun a F=>qE 2 rfl (by kernel_rfl) (vBA isAgg29 sizeOf29 F rfl rfl (K1.v H.sm) rfl rfl fun a F=>kP [1,4,5] (by kernel_rfl) (by simp) ⟨⟨_,rfl,?_⟩,⟨_,rfl,?_⟩,⟨_,rfl,?_⟩,trivial⟩))
 ·
  refine kJ H (oG F rfl call38 rfl (fD j c5 _ aA (xH.m i1 (H.a (e1 h1)))) (fun a vv w ⟨v82,hz,S,i31⟩ F=>?_));subst vv;have H:=H.r1 S n0;refine xJ ⟨⟨_,H⟩,?_⟩;refine kP [3,4,5] (by kernel_rfl) (by simp) ⟨⟨_,rfl,?_⟩,⟨_,rfl,?_⟩,⟨_,rfl,?_⟩,trivial⟩
  ·
   refine kJ H (oG F rfl call39 rfl (dH J c6 _ aA (xK.m i2 (H.a (e1 h2)))) (fun a vv w ⟨dz,hA,S,e0⟩ F=>?_));subst vv;have H:=H.r1 S n0;refine xJ ⟨⟨_,H⟩,?_⟩;refine kP [4,5] (by kernel_rfl) (by simp) ⟨⟨_,rfl,?_⟩,⟨_,rfl,?_⟩,trivial⟩
   ·
    refine kJ H (oA zeroValue26 F rfl rfl H fun a w ge H F=>xJ ⟨⟨_,H⟩,?_⟩);exact dq ge v82 dz _ _ (F.su) (H.s [0,2,1,3,4] rfl rfl) i31 e0 _ (by kernel_rfl)
   refine kJ H (oA zeroValue29 F rfl rfl H fun a w gf H F=>xJ ⟨⟨_,H⟩,?_⟩);exact dr gf v82 dz _ _ (F.su) (H.s [0,2,1,3,4] rfl rfl) i31 e0 _ (by kernel_rfl)
  ·
   refine kJ H (oA zeroValue26 F rfl rfl H fun a w gg H F=>xJ ⟨⟨_,H⟩,?_⟩);exact ds gg v82 _ _ (F.su) H i31 _ (by kernel_rfl)
  refine kJ H (oA zeroValue29 F rfl rfl H fun a w gh H F=>xJ ⟨⟨_,H⟩,?_⟩);exact dw gh v82 _ _ (F.su) H i31 _ (by kernel_rfl)
 ·
  refine kJ H (oA zeroValue26 F rfl rfl H fun a w b30 H F=>xJ ⟨⟨_,H⟩,?_⟩);refine kP [1,5] (by kernel_rfl) (by simp) ⟨⟨_,rfl,?_⟩,⟨_,rfl,?_⟩,trivial⟩
  ·
   refine kJ H (oG F rfl call38 rfl (fD j c5 _ aA (xH.m i1 (H.a (e1 h1)))) (fun a vv w ⟨gi,hB,S,gj⟩ F=>?_));subst vv;have H:=H.r1 S n0;refine xJ ⟨⟨_,H⟩,?_⟩;exact ds b30 gi _ _ (F.su) (H.s [1,0,2,3] rfl rfl) gj _ (by kernel_rfl)
  refine kJ H (oA zeroValue29 F rfl rfl H fun a w gk H F=>xJ ⟨⟨_,H⟩,?_⟩);exact dy b30 gk _ _ (F.su) (H.s [1,0,2,3] rfl rfl) _ (by kernel_rfl)
 refine kJ H (oA zeroValue29 F rfl rfl H fun a w b32 H F=>xJ ⟨⟨_,H⟩,?_⟩);refine kP [1,4] (by kernel_rfl) (by simp) ⟨⟨_,rfl,?_⟩,⟨_,rfl,?_⟩,trivial⟩
 ·
  refine kJ H (oG F rfl call38 rfl (fD j c5 _ aA (xH.m i1 (H.a (e1 h1)))) (fun a vv w ⟨gl,hj,S,gm⟩ F=>?_));subst vv;have H:=H.r1 S n0;refine xJ ⟨⟨_,H⟩,?_⟩;exact dw b32 gl _ _ (F.su) (H.s [1,0,2,3] rfl rfl) gm _ (by kernel_rfl)
 refine kJ H (oA zeroValue26 F rfl rfl H fun a w gn H F=>xJ ⟨⟨_,H⟩,?_⟩);exact dy gn b32 _ _ (F.su) H _ (by kernel_rfl)
end Go.Proofs.YtncganhbpbehaaaGreat
