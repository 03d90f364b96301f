import Derived.Test.YtgnfibiaaipibaaGreatP1
import Derived.Test.YtgnfibiaaipibaaGreatNJ
namespace Go.Proofs.YtgnfibiaaipibaaGreat
open Go.Proofs.Tryz
set_option maxHeartbeats 1000000
set_option linter.unusedVariables false
set_option linter.unusedSimpArgs false
set_option maxRecDepth 100000
open Go.RowKit
def eC (c:Con) (d:List Int):Option Bool:=
 vT (σ:=Unit) (
  qJ (σ:=Unit) (ρ:=Bool) (fun (e:Nat) (h:Int) (s:Unit)=>
    match s with
    | _=>
    vT (σ:=Unit) (
     zH (σ:=Unit) (ρ:=(Ctl (Unit) Bool)) (fun (f:Nat) (s:Unit)=>
       match s with
       | _=>
       vT (σ:=Bool) (
        xY (ix c.scope (e:Int)) fun i=>
        xY (ix c.scope (f:Int)) fun j=>
        if (i==j) then  xY (ix d (f:Int)) fun n=>
         some (.nx (h != n)) else  some (.nx false)) fun p=>
       if p then
        some (.ret (.ret false))
       else
        some (.go ())) (e:Int).toNat 0 ()) fun _=>
    some (.go ())) d 0 ()) fun _=>
 some true
theorem spec_l05Whole_c {B:Nat→Prop} {N:Con} {p:List Int} (r:Bool) (d:eC N p=some r) {i:Value} {j:Value} (h:World) (Z:∀ c,B c→c<h.heap.size) (z:Bo B h (Pt 2 vU) i N) (A:Bo B h (Sl 1 xH) j p):Calls Tryz.prog 182 #[i,j] h (zO (.bool r) h):=by
 unfold eC at d
 refine xV (L:=[(0,i),(1,j)]) func182 rfl rfl rfl (sc rfl (sc rfl sn)) (fun a F=>?_);have H:=Sep.start Z;refine xP (xA 1 F rfl fun a F=>xJ (xC (xP (xA 1 F rfl fun a F=>xJ ?_))));obtain⟨O,d,I⟩:=xK d;refine xX (fun a w=>O= .nx ()∧Sk a 44 []∧Sep [] B h w []) ?_ ?_
 ·
  refine xW ?_;obtain⟨T,U,d⟩:=qE d;refine oU (fun g a w=>∃ (e:Nat) (n:List Int),(e≤p.length∧p.drop e=n)∧n.length=g∧qJ T n e ()=some O∧Sk a 44 [(5,xG (e:Int)),(0,i),(1,j)]∧Sep [] B h w []) p.length ?_ ?_
  ·
   exact⟨0,p,⟨Nat.zero_le _,rfl⟩,rfl,d,F.su,H⟩
  intro g1 a w ⟨e,n,f,V,d,F,H⟩
  cases n with
  | nil=>
   replace d:=qH d;have q1:=qG f.1 f.2;have D:=vA q1;refine xC (xP (xA 2 F rfl fun a F=>oL underlying25 F rfl rfl A fun a i1 F=>xA 1 F rfl fun a F=>xJ (qT F rfl D (oM ?_))));refine oR (oR (vH (xF ?_)));exact⟨(vE d),F.sub sn,H⟩
  | cons x2 n=>
   subst V;replace f:=oO f.2;have y1:=oZ f.2.1;obtain⟨ak,d,J⟩:=oV d;rw[U] at d;have D:=qM f.1;refine xC (xP (xA 2 F rfl fun a F=>oL underlying25 F rfl rfl A fun a P F=>xA 1 F rfl fun a F=>xJ (qV F rfl D (xL ?_))));refine xF (xC ?_);have Q:=fE (Nat.le_of_lt f.1) P;have m1:=zC f.1 P;refine xW (xP (xA 1 F rfl fun a F=>xJ ?_));obtain⟨R,d,K⟩:=xK d;refine xX (fun a w=>R= .nx ()∧Sk a 44 [(0,i),(1,j),(5,xG (e:Int))]∧Sep [] B h w []) ?_ ?_
   ·
    refine xW ?_;obtain⟨W,X,d⟩:=zG d;refine oU (fun g a w=>∃ (t:Nat),t+g=(e:Int).toNat∧zH W g t ()=some R∧Sk a 44 [(6,xG (t:Int)),(0,i),(1,j),(5,xG (e:Int))]∧Sep [] B h w []) (e:Int).toNat ?_ ?_
    ·
     exact⟨0,(Nat.zero_add _),d,F.su,H⟩
    intro S a w ⟨t,y,d,F,H⟩
    cases S with
    | zero=>
     replace d:=vY d;have E:=kT y;refine xC (xP (xA 3 F rfl fun a F=>xJ (qT F rfl E (oM (oR ?_)))));refine oR (vH (xF ?_));exact⟨(vE d),F.su,H⟩
    | succ S=>
     obtain⟨al,d,M⟩:=vX d;rw[X] at d;have E:=zW y;refine xC (xP (xA 3 F rfl fun a F=>xJ (qV F rfl E (xL (xF ?_)))));refine xC ?_;have j2:=k64I y Q;have m2:=bC y Q;refine xW (xC ?_);obtain⟨o3,d,Y⟩:=xK d;refine xX (fun a w=>∃ (G:Bool),o3= .nx G∧Sk a 44 [(0,i),(1,j),(5,xG (e:Int)),(6,xG (t:Int)),(43,.bool G)]∧Sep [] B h w []) ?_ ?_
     ·
      refine xQ H (by kernel_rfl) (by kernel_rfl) (xR F rfl (fun w l=>xM F rfl) fun a F=>qN F rfl rfl z fun a F=>qF (s':=1) zV F rfl rfl z vU.f1 fun a p1 h1 F=>qlS isAgg25 F rfl rfl H.q h1 fun a v2 h2 F=>xR F rfl (fun w l=>xM F rfl) (fun a F=>?_));obtain⟨z1,c1,d⟩:=xB d;refine qI underlying25 sizeOf2 F rfl rfl rfl h2 c1 fun a p2 h3 F=>iB isAgg2 F rfl rfl H.q h3 fun a i3 F=>xR F rfl (fun w l=>xM F rfl) fun a F=>qN F rfl rfl z fun a F=>qF (s':=1) zV F rfl rfl z vU.f1 fun a p3 h4 F=>qlS isAgg25 F rfl rfl H.q h4 fun a v3 h5 F=>xR F rfl (fun w l=>xM F rfl) (fun a F=>?_);obtain⟨z2,c2,d⟩:=xB d;refine qI underlying25 sizeOf2 F rfl rfl rfl h5 c2 fun a p4 h6 F=>iB isAgg2 F rfl rfl H.q h6 fun a i4 F=>xR F rfl (fun w l=>r_eql F rfl rfl) fun a F=>xR F rfl (fun w l=>xM F rfl) (fun a F=>?_)
      rcases qU (z1==z2) with x | x
      ·
       replace d:=vR x d;have F:=F.eb 33 rfl x;refine xR F rfl (fun w l=>xM F rfl) fun a F=>xR F rfl (fun w l=>xM F rfl) fun a F=>qI underlying25 sizeOf2 F rfl rfl rfl A y1 fun a p5 h7 F=>iB isAgg2 F rfl rfl H.q h7 fun a i5 F=>xR F rfl (fun w l=>xM F rfl) fun a F=>xR F rfl (fun w l=>xM F rfl) (fun a F=>?_);obtain⟨z3,c3,d⟩:=xB d;refine qI underlying25 sizeOf2 F rfl rfl rfl A c3 fun a p6 h8 F=>iB isAgg2 F rfl rfl H.q h8 fun a i6 F=>xR F rfl (fun w l=>r_neq F rfl rfl) fun a F=>xR F rfl (fun w l=>aU F rfl rfl) fun a F=>kA fun w H=>xF ?_;exact⟨(x2 != z3),(vE d),F.su,H⟩
      replace d:=vQ x d;have F:=F.eb 33 rfl x;refine qK F rfl rfl fun a F=>qK F rfl rfl fun a F=>qK F rfl rfl fun a F=>qK F rfl rfl fun a F=>qK F rfl rfl fun a F=>qK F rfl rfl fun a F=>qK F rfl rfl fun a F=>qK F rfl rfl fun a F=>qK F rfl rfl fun a F=>xR F rfl (fun w l=>aF F rfl rfl) fun a F=>kA (fun w H=>?_);refine xF ?_;exact⟨false,(vE d),F.su,H⟩
     rintro a w ⟨G,rfl,F,H⟩
     have d:=xN Y;refine xF (qP F rfl (fun C=>?_) (fun C=>?_))
     ·
      replace d:=vR C d;refine xP (xA 1 F rfl fun a F=>xJ (xT (vJ (oE (oE ?_)))));replace d:=zR d M;refine vJ (oE ?_);replace d:=zQ d K;refine vJ (oE (oE ?_));replace d:=zR d J;refine vJ (oE ?_);replace d:=zQ d I;refine oE (xS F rfl (oD F rfl) ?_);obtain rfl:=oj d;exact⟨rfl,H.bl⟩
     replace d:=vQ C d;refine xL (qS (xF (xU (xA 1 F rfl fun a F=>qQ F rfl rfl rfl m2 fun a F=>xA 1 F rfl fun a F=>xJ ?_))));replace d:=qX d M;exact⟨_,Nat.lt_succ_self _,t+1,(by omega),d,F.su,H⟩
   rintro a w ⟨rfl,F,H⟩
   have d:=xN K;refine qS (xF (xU (xA 1 F rfl fun a F=>qQ F rfl rfl rfl m1 fun a F=>xA 1 F rfl fun a F=>xJ ?_)));replace d:=qX d J;exact⟨_,Nat.lt_succ_self _,e+1,n,⟨f.1,f.2.2⟩,rfl,d,F.su,H⟩
 rintro a w ⟨rfl,F,H⟩
 have d:=xN I;refine xF (xP (xA 1 F rfl fun a F=>xJ (xT (xS F rfl (oD F rfl) ?_))));obtain rfl:=oj d;exact⟨rfl,H.bl⟩
def bR (c:List Int) (d:Int):Option Bool:=
 vT (σ:=Unit) (
  qJ (σ:=Unit) (ρ:=Bool) (fun (f:Nat) (e:Int) (s:Unit)=>
    match s with
    | _=>
    if (e==d) then
     some (.ret true)
    else
     some (.go ())) c 0 ()) fun _=>
 some false
theorem spec_l00Has_c {B:Nat→Prop} {h:List Int} {n:Int} (r:Bool) (d:bR h n=some r) {p:Value} (i:World) (J:∀ c,B c→c<i.heap.size) (x:Bo B i (Sl 1 xH) p h) (P:xZ n):Calls Tryz.prog 37 #[p,xG n] i (zO (.bool r) i):=by
 unfold bR at d
 refine xV (L:=[(0,p),(1,xG n)]) func37 rfl rfl rfl (sc rfl (sc rfl sn)) (fun a F=>?_);have H:=Sep.start J;refine xP (xA 1 F rfl fun a F=>xJ (xC (xP (xA 1 F rfl fun a F=>xJ ?_))));obtain⟨C,d,z⟩:=xK d;refine xX (fun a w=>C= .nx ()∧Sk a 18 []∧Sep [] B i w []) ?_ ?_
 ·
  refine xW ?_;obtain⟨E,G,d⟩:=qE d;refine oU (fun g a w=>∃ (j:Nat) (f:List Int),(j≤h.length∧h.drop j=f)∧f.length=g∧qJ E f j ()=some C∧Sk a 18 [(5,xG (j:Int)),(0,p),(1,xG n)]∧Sep [] B i w []) h.length ?_ ?_
  ·
   exact⟨0,h,⟨Nat.zero_le _,rfl⟩,rfl,d,F.su,H⟩
  intro S a w ⟨j,f,e,I,d,F,H⟩
  cases f with
  | nil=>
   replace d:=qH d;have K:=qG e.1 e.2;have y:=vA K;refine xC (xP (xA 2 F rfl fun a F=>oL underlying25 F rfl rfl x fun a T F=>xA 1 F rfl fun a F=>xJ (qT F rfl y (oM ?_))));refine oR (oR (vH (xF ?_)));exact⟨(vE d),F.sub sn,H⟩
  | cons U f=>
   subst I;replace e:=oO e.2;have M:=oZ e.2.1;obtain⟨Q,d,A⟩:=oV d;rw[G] at d;have y:=qM e.1;refine xC (xP (xA 2 F rfl fun a F=>oL underlying25 F rfl rfl x fun a D F=>xA 1 F rfl fun a F=>xJ (qV F rfl y (xL ?_))));refine xF (xC ?_);have V:=fE (Nat.le_of_lt e.1) D;have N:=zC e.1 D;refine xW (xP (xA 2 F rfl fun a F=>oI underlying25 sizeOf2 F rfl rfl rfl x M fun a W O F=>aN isAgg2 F rfl rfl H.sm O fun a R F=>xA 2 F rfl fun a F=>xJ ?_));refine qP F rfl (fun t=>?_) (fun t=>?_)
   ·
    replace d:=vR t d;refine xP (xA 1 F rfl fun a F=>xJ (xT (vJ (oE (oE ?_)))));replace d:=zR d A;refine vJ (oE ?_);replace d:=zQ d z;refine oE (xS F rfl (oD F rfl) ?_);obtain rfl:=oj d;exact⟨rfl,H.bl⟩
   replace d:=vQ t d;refine xL (qS (xF (xU (xA 1 F rfl fun a F=>qQ F rfl rfl rfl N fun a F=>xA 1 F rfl fun a F=>xJ ?_))));replace d:=qX d A;exact⟨_,Nat.lt_succ_self _,j+1,f,⟨e.1,e.2.2⟩,rfl,d,F.su,H⟩
 rintro a w ⟨rfl,F,H⟩
 have d:=xN z;refine xF (xP (xA 1 F rfl fun a F=>xJ (xT (xS F rfl (oD F rfl) ?_))));obtain rfl:=oj d;exact⟨rfl,H.bl⟩
def aW (N:Nat) (h:Template) (e:Con) (i:List (List Int)) (j n:Int):Option Bool:=
 xY (ix h.rels e.rel) fun p=>
 vT (σ:=Unit) (
  qJ (σ:=Unit) (ρ:=Bool) (fun (G:Nat) (d:(List Int)) (s:Unit)=>
    match s with
    | _=>
    vT (σ:=Bool) (
     xY (ix d j) fun t=>
     if (t==n) then  xY (eC e d) fun x=>
      some (.nx x) else  some (.nx false)) fun y=>
    vT (σ:=Bool×Int) (
     cF (σ:=Bool×Int) (ρ:=(Ctl (Unit) Bool)) (fun(s:Bool×Int)=>
       match s with
       | (f,c)=>
       vT (σ:=Bool) (
        if (decide (c<(d.length:Int))) then  some (.nx f) else  some (.nx false)) fun z=>
       if z then
        xY (ix e.scope c) fun A=>
        xY (ix i A) fun B=>
        xY (ix d c) fun C=>
        xY (bR B C) fun D=>
        xY (ck (c+1)) fun E=>
        some (.go (D,E))
       else
        some (.brk (f,c))) N (y,0)) fun(F,H)=>
    if F then
     some (.ret true)
    else
     some (.go ())) p.tuples 0 ()) fun _=>
 some false
theorem spec_l05Support_c {B:Nat→Prop} {N:Nat} {Y:Template} {Z:Con} {x2:List (List Int)} {n i:Int} (r:Bool) (d:aW N Y Z x2 n i=some r) {P:Value} {p:Value} {t:Value} (e:World) (hN:∀ c,B c→c<e.heap.size) (A0:Bo B e (Pt 2 xI) P Y) (E:Bo B e (Pt 2 vU) p Z) (A2:Bo B e (Sl 1 (vO 1 xH)) t x2) (bm:xZ n) (bn:xZ i):Calls Tryz.prog 180 #[P,p,t,xG n,xG i] e (zO (.bool r) e):=by
 unfold aW at d
 refine xV (L:=[(0,P),(1,p),(2,t),(3,xG n),(4,xG i)]) func180 rfl rfl rfl (sc rfl (sc rfl (sc rfl (sc rfl (sc rfl sn))))) (fun a F=>?_);have H:=Sep.start hN;refine xP (xA 1 F rfl fun a F=>xJ (xC (xQ H (by kernel_rfl) (by kernel_rfl) (xR F rfl (fun w l=>xM F rfl) fun a F=>qN F rfl rfl A0 fun a F=>qF (s':=1) kR F rfl rfl A0 xI.f1 fun a p1 h1 F=>qlS isAgg29 F rfl rfl H.q h1 (fun a v3 h2 F=>?_)))));refine xR F rfl (fun w l=>xM F rfl) fun a F=>qN F rfl rfl E fun a F=>qF (s':=1) fR F rfl rfl E vU.f0 fun a p2 a8 F=>iB isAgg2 F rfl rfl H.q a8 (fun a i1 F=>?_);obtain⟨J,c1,d⟩:=xB d;refine qI underlying29 sizeOf51 F rfl rfl rfl h2 c1 fun a G z F=>xR F rfl (fun w l=>zM F rfl) fun a F=>kA fun w H=>xF (xC (xP (xA 1 F rfl fun a F=>xJ ?_)));obtain⟨o1,d,V⟩:=xK d;refine xX (fun a w=>o1= .nx ()∧Sk a 77 []∧Sep [] B e w []) ?_ ?_
 ·
  refine xW ?_;obtain⟨a9,aa,d⟩:=qE d;refine oU (fun g a w=>∃ (j:Nat) (x:List (List Int)),(j≤J.tuples.length∧J.tuples.drop j=x)∧x.length=g∧qJ a9 x j ()=some o1∧Sk a 77 [(12,xG (j:Int)),(1,p),(2,t),(3,xG n),(4,xG i),(11,G)]∧Sep [] B e w []) J.tuples.length ?_ ?_
  ·
   exact⟨0,J.tuples,⟨Nat.zero_le _,rfl⟩,rfl,d,F.su,H⟩
  intro g1 a w ⟨j,x,f,ab,d,F,H⟩
  cases x with
  | nil=>
   replace d:=qH d;have q1:=qG f.1 f.2;have Q:=vA q1;refine xC (xP (xA 2 F rfl fun a F=>oN F rfl rfl z fun a F=>oF (s':=1) vW F rfl rfl z qD.f1 fun a p4 h4 F=>aY isAgg45 F rfl rfl H.sm h4 fun a v4 h5 F=>oL underlying45 F rfl rfl h5 fun a i2 F=>xA 1 F rfl fun a F=>oY ?_));refine xF (qT F rfl Q (oM (oR (oR (vH (xF ?_))))));exact⟨(vE d),F.sub sn,H⟩
  | cons x5 x=>
   subst ab;replace f:=oO f.2;have y1:=oZ f.2.1;obtain⟨bp,d,W⟩:=oV d;rw[aa] at d;have Q:=qM f.1;refine xC (xP (xA 2 F rfl fun a F=>oN F rfl rfl z fun a F=>oF (s':=1) vW F rfl rfl z qD.f1 fun a p5 h6 F=>aY isAgg45 F rfl rfl H.sm h6 fun a v5 h7 F=>oL underlying45 F rfl rfl h7 fun a i3 F=>xA 1 F rfl fun a F=>oY ?_));refine xF (qV F rfl Q (xL (xF (xC ?_))));have j1:=fE (Nat.le_of_lt f.1) i3;have m1:=zC f.1 i3;refine xW (xP (xA 1 F rfl fun a F=>oN F rfl rfl z fun a F=>oF (s':=1) vW F rfl rfl z qD.f1 fun a p6 h8 F=>aY isAgg45 F rfl rfl H.sm h8 fun a v6 h9 F=>xA 1 F rfl fun a F=>oI underlying45 sizeOf25 F rfl rfl rfl h9 y1 fun a p7 ac F=>aY isAgg25 F rfl rfl H.sm ac fun a R I F=>xA 1 F rfl fun a F=>?_));refine xJ (xC ?_);obtain⟨o2,d,ad⟩:=xK d;refine xX (fun a w=>∃ (K:Bool),o2= .nx K∧Sk a 77 [(1,p),(2,t),(3,xG n),(4,xG i),(11,G),(12,xG (j:Int)),(13,R),(14,.bool K)]∧Sep [] B e w []) ?_ ?_
   ·
    refine xU (xA 2 F rfl fun a F=>?_);obtain⟨z2,c2,d⟩:=xB d;refine oI underlying25 sizeOf2 F rfl rfl rfl I c2 fun a p8 ae F=>aN isAgg2 F rfl rfl H.sm ae fun a i4 F=>xA 3 F rfl fun a F=>?_
    rcases qU (z2==i) with C | C
    ·
     replace d:=vR C d;have F:=F.eb 47 rfl C;refine xA 2 F rfl fun a F=>?_;obtain⟨z3,c3,d⟩:=xB d;refine oK F rfl call182 rfl H (spec_l05Whole_c z3 c3 _ aA (H.a E) (H.a I)) fun a w H F=>xA 2 F rfl fun a F=>xJ ?_;exact⟨z3,(vE d),F.su,H⟩
    replace d:=vQ C d;have F:=F.eb 47 rfl C;refine xA 5 F rfl fun a F=>xJ ?_;exact⟨false,(vE d),F.su,H⟩
   rintro a w ⟨K,rfl,F,H⟩
   have d:=xN ad;refine xF (xC (xP (xA 1 F rfl fun a F=>xJ ?_)));obtain⟨o3,d,af⟩:=xK d;refine xX (fun a w=>∃ (S:Bool) (T:Int),o3= .nx (S,T)∧Sk a 77 [(1,p),(2,t),(3,xG n),(4,xG i),(11,G),(12,xG (j:Int)),(14,.bool S)]∧Sep [] B e w []∧xZ T) ?_ ?_
   ·
    refine xW ?_;obtain⟨ag,ah,d⟩:=kU d;refine oU (fun g a w=>∃ (A:Bool) (y:Int),cF ag g (A,y)=some o3∧Sk a 77 [(1,p),(2,t),(3,xG n),(4,xG i),(11,G),(12,xG (j:Int)),(13,R),(14,.bool A),(15,xG y)]∧Sep [] B e w []∧xZ y) N ?_ ?_
    ·
     exact⟨K,0,d,F.su,H,(show xZ (0) by decide)⟩
    intro g2 a w ⟨A,y,d,F,H,i5⟩;obtain⟨bq,t2,br,d,X⟩:=zK d;rw[ah] at d;refine xC (xC ?_);obtain⟨o4,d,ai⟩:=xK d;refine xX (fun a w=>∃ (U:Bool),o4= .nx U∧Sk a 77 [(1,p),(2,t),(3,xG n),(4,xG i),(11,G),(12,xG (j:Int)),(13,R),(14,.bool A),(15,xG y),(58,.bool U)]∧Sep [] B e w []) ?_ ?_
    ·
     refine xU (xA 2 F rfl fun a F=>oL underlying25 F rfl rfl I fun a i6 F=>xA 2 F rfl fun a F=>?_)
     rcases qU (decide (y<(x5.length:Int))) with D | D
     ·
      replace d:=vR D d;have F:=F.eb 56 rfl D;refine xA 2 F rfl fun a F=>xJ ?_;exact⟨A,(vE d),F.su,H⟩
     replace d:=vQ D d;have F:=F.eb 56 rfl D;refine xA 2 F rfl fun a F=>xJ ?_;exact⟨false,(vE d),F.su,H⟩
    rintro a w ⟨U,rfl,F,H⟩
    have d:=xN ai;refine xF (qP F rfl (fun M=>?_) (fun M=>?_))
    ·
     replace d:=vR M d;refine xL (xF (xC (xW (xQ H (by kernel_rfl) (by kernel_rfl) (xR F rfl (fun w l=>xM F rfl) fun a F=>xR F rfl (fun w l=>xM F rfl) fun a F=>qN F rfl rfl E fun a F=>qF (s':=1) zV F rfl rfl E vU.f1 fun a p9 aj F=>qlS isAgg25 F rfl rfl H.q aj fun a v8 ak F=>xR F rfl (fun w l=>xM F rfl) (fun a F=>?_))))));obtain⟨z4,c4,d⟩:=xB d;refine qI underlying25 sizeOf2 F rfl rfl rfl ak c4 fun a bt al F=>iB isAgg2 F rfl rfl H.q al (fun a i7 F=>?_);obtain⟨z5,c5,d⟩:=xB d;refine qI underlying45 sizeOf25 F rfl rfl rfl A2 c5 fun a bu am F=>qlS isAgg25 F rfl rfl H.q am fun a v9 an F=>xR F rfl (fun w l=>xM F rfl) fun a F=>xR F rfl (fun w l=>xM F rfl) (fun a F=>?_);obtain⟨z6,c6,d⟩:=xB d;refine qI underlying25 sizeOf2 F rfl rfl rfl I c6 fun a bv ao F=>iB isAgg2 F rfl rfl H.q ao (fun a i8 F=>?_);obtain⟨z7,c7,d⟩:=xB d;refine dD F rfl call37 rfl (fun w w' h l=>l.through h) (fun w l=>spec_l00Has_c z7 c7 w aA ((H.go l).a an) i8) fun a F=>xR F rfl (fun w l=>zM F rfl) fun a F=>kA fun w H=>qS (xF (xU (xA 1 F rfl fun a F=>?_)));obtain⟨z8,c8,d⟩:=xB d;refine kI F rfl rfl rfl c8 fun a F=>xA 1 F rfl fun a F=>xJ ?_;replace d:=qX d X;exact⟨t2,(by omega),z7,z8,d,F.su,H,(kG c8)⟩
    replace d:=vQ M d;refine oM (oR (oR ?_));replace d:=eL d X;refine vH (xF ?_);exact⟨A,y,(vE d),F.su,H,i5⟩
   rintro a w ⟨S,T,rfl,F,H,i9⟩
   have d:=xN af;refine xF (xP (xA 1 F rfl fun a F=>xJ (qP F rfl (fun O=>?_) (fun O=>?_))))
   ·
    replace d:=vR O d;refine xP (xA 1 F rfl fun a F=>xJ (xT (vJ (oE (oE ?_)))));replace d:=zR d W;refine vJ (oE ?_);replace d:=zQ d V;refine oE (xS F rfl (oD F rfl) ?_);obtain rfl:=oj d;exact⟨rfl,H.bl⟩
   replace d:=vQ O d;refine xL (qS (xF (xU (xA 1 F rfl fun a F=>qQ F rfl rfl rfl m1 fun a F=>xA 1 F rfl fun a F=>xJ ?_))));replace d:=qX d W;exact⟨_,Nat.lt_succ_self _,j+1,x,⟨f.1,f.2.2⟩,rfl,d,F.su,H⟩
 rintro a w ⟨rfl,F,H⟩
 have d:=xN V;refine xF (xP (xA 1 F rfl fun a F=>xJ (xT (xS F rfl (oD F rfl) ?_))));obtain rfl:=oj d;exact⟨rfl,H.bl⟩
def bB (e:List Int) (f:Int):Option (List Int):=
 vT (σ:=(List Int)) (
  qJ (σ:=(List Int)) (ρ:=(List Int)) (fun (j:Nat) (c:Int) (d:(List Int))=>
   if (c != f) then
    xY (ap d ([c])) fun h=>
    some (.go h)
   else
    some (.go d)) e 0 []) fun i=>
 some i
theorem spec_l05Without_c {B:Nat→Prop} {i:List Int} {n:Int} (r:(List Int)) (d:bB i n=some r) {x:Value} (j:World) (U:∀ c,B c→c<j.heap.size) (A:Bo B j (Sl 1 xH) x i) (a4:xZ n):Calls Tryz.prog 181 #[x,xG n] j (Gv (fun v w'=>∃ (I:Value),v=I∧Sep [] B j w' [rl 1 xH 2 I r])):=by
 unfold bB at d
 refine xV (L:=[(0,x),(1,xG n)]) func181 rfl rfl rfl (sc rfl (sc rfl sn)) (fun a F=>?_);have H:=Sep.start U;refine xP (xA 1 F rfl fun a F=>qO (oR0 (R:=xH) underlying25 sizeOf2 F rfl H fun a w V H F=>xA 1 F rfl fun a F=>xJ ?_));refine xC (xP (xA 1 F rfl fun a F=>xJ ?_));obtain⟨K,d,P⟩:=xK d;refine xX (fun a w=>∃ (E:List Int) (C:Value),K= .nx E∧Sk a 28 [(5,C)]∧Sep [] B j w [rl 1 xH 2 C E]) ?_ ?_
 ·
  refine xW ?_;obtain⟨Q,S,d⟩:=qE d;refine oU (fun g a w=>∃ (h:Nat) (f p:List Int) (t:Value),(h≤i.length∧i.drop h=f)∧f.length=g∧qJ Q f h p=some K∧Sk a 28 [(6,xG (h:Int)),(0,x),(1,xG n),(5,t)]∧Sep [] B j w [rl 1 xH 2 t p]) i.length ?_ ?_
  ·
   exact⟨0,i,[],V,⟨Nat.zero_le _,rfl⟩,rfl,d,F.su,H⟩
  intro g1 a w ⟨h,f,p,t,e,T,d,F,H⟩
  cases f with
  | nil=>
   replace d:=qH d;have W:=qG e.1 e.2;have G:=vA W;refine xC (xP (xA 2 F rfl fun a F=>oL underlying25 F rfl rfl A fun a i1 F=>xA 1 F rfl fun a F=>xJ (qT F rfl G (oM ?_))));refine oR (oR (vH (xF ?_)));exact⟨p,t,(vE d),F.su,H⟩
  | cons X f=>
   subst T;replace e:=oO e.2;have M:=oZ e.2.1;obtain⟨a5,d,J⟩:=oV d;rw[S] at d;have G:=qM e.1;refine xC (xP (xA 2 F rfl fun a F=>oL underlying25 F rfl rfl A fun a N F=>xA 1 F rfl fun a F=>xJ (qV F rfl G (xL ?_))));refine xF (xC ?_);have j1:=fE (Nat.le_of_lt e.1) N;have O:=zC e.1 N;refine xW (xP (xA 2 F rfl fun a F=>oI underlying25 sizeOf2 F rfl rfl rfl A M fun a p1 Y F=>aN isAgg2 F rfl rfl H.sm Y fun a i3 F=>xA 2 F rfl fun a F=>xJ ?_));refine qP F rfl (fun D=>?_) (fun D=>?_)
   ·
    replace d:=vR D d;refine xU (xA 3 F rfl fun a F=>oI underlying25 sizeOf2 F rfl rfl rfl A M fun a p2 Z F=>aN isAgg2 F rfl rfl H.sm Z fun a i4 F=>oR1z (R:=xH) (y:=X) underlying25 sizeOf2 zeroValue2 rfl rfl F rfl rfl H (Eo.int i4) (fun a w v4 H F=>?_));obtain⟨z1,c1,d⟩:=xB d;refine oPL (sz:=1) (R:=xH) (z:=(xG 0)) (bytes:=8) underlying25 (by kernel_rfl) rfl rfl F rfl rfl rfl (H.s [1,0] rfl rfl) c1 fun a w v5 H F=>xA 1 F rfl fun a F=>oY (qS (xF (xU (xA 1 F rfl fun a F=>qQ F rfl rfl rfl O fun a F=>xA 1 F rfl fun a F=>xJ ?_))));replace d:=qX d J;exact⟨_,Nat.lt_succ_self _,h+1,f,z1,v5,⟨e.1,e.2.2⟩,rfl,d,F.su,H⟩
   replace d:=vQ D d;refine xL (qS (xF (xU (xA 1 F rfl fun a F=>qQ F rfl rfl rfl O fun a F=>xA 1 F rfl fun a F=>xJ ?_))));replace d:=qX d J;exact⟨_,Nat.lt_succ_self _,h+1,f,p,t,⟨e.1,e.2.2⟩,rfl,d,F.su,H⟩
 rintro a w ⟨E,C,rfl,F,H⟩
 have d:=xN P;refine xF (xP (xA 2 F rfl fun a F=>xJ (xT (xS F rfl (oD F rfl) ?_))));obtain rfl:=oj d;exact⟨_,rfl,C,rfl,H⟩
def dO (N:Nat) (K:Template) (L:Instance) (e:List (List Int)) (t:Bool):Option ((List ArcStep)×(List (List Int))):=
 vT (σ:=Int) (
  cF (σ:=Int) (ρ:=(List ArcStep)×(List (List Int))) (fun(f:Int)=>
   vT (σ:=Bool) (
    if (decide (f<(e.length:Int))) then  some (.nx t) else  some (.nx false)) fun M=>
   if M then
    xY (ix e f) fun O=>
    if ((O.length:Int)==0) then
     some (.ret ([],e))
    else
     xY (ck (f+1)) fun P=>
     some (.go P)
   else
    some (.brk f)) N 0) fun s3=>
 vT (σ:=(List ArcStep)×Int×(List (List Int))) (
  cF (σ:=(List ArcStep)×Int×(List (List Int))) (ρ:=(List ArcStep)×(List (List Int))) (fun(s:(List ArcStep)×Int×(List (List Int)))=>
    match s with
    | (h,x,y)=>
    if (x != (h.length:Int)) then
     vT (σ:=(List ArcStep)×(List (List Int))) (
      qJ (σ:=(List ArcStep)×(List (List Int))) (ρ:=(Ctl ((List ArcStep)×Int×(List (List Int))) ((List ArcStep)×(List (List Int))))) (fun (Q:Nat) (z:Con) (s:(List ArcStep)×(List (List Int)))=>
        match s with
        | (R,S)=>
        vT (σ:=(List ArcStep)×(List (List Int))) (
         qJ (σ:=(List ArcStep)×(List (List Int))) (ρ:=(Ctl ((List ArcStep)×(List (List Int))) (Ctl ((List ArcStep)×Int×(List (List Int))) ((List ArcStep)×(List (List Int)))))) (fun (T:Nat) (c:Int) (s:(List ArcStep)×(List (List Int)))=>
           match s with
           | (U,n)=>
           xY (ix n c) fun V=>
           xY (eR V) fun W=>
           vT (σ:=(List ArcStep)×(List (List Int))) (
            qJ (σ:=(List ArcStep)×(List (List Int))) (ρ:=(Ctl ((List ArcStep)×(List (List Int))) (Ctl ((List ArcStep)×(List (List Int))) (Ctl ((List ArcStep)×Int×(List (List Int))) ((List ArcStep)×(List (List Int))))))) (fun (k3:Nat) (i:Int) (s:(List ArcStep)×(List (List Int)))=>
              match s with
              | (p,d)=>
              xY (aW N K z d (T:Int) i) fun X=>
              if (!X) then
               xY (ix d c) fun Y=>
               xY (bB Y i) fun j=>
               xY (ap p ([(ArcStep.mk c i (Q:Int))])) fun A=>
               vT (σ:=Bool) (
                if t then  xY (ix (d.set (c).toNat j) c) fun Z=>
                 some (.nx ((Z.length:Int)==0)) else  some (.nx false)) fun B=>
               if B then
                some (.ret (.ret (.ret (.ret (A,(d.set (c).toNat j))))))
               else
                some (.go (A,(d.set (c).toNat j)))
              else
               some (.go (p,d))) W 0 (U,n)) fun(C,D)=>
           some (.go (C,D))) z.scope 0 (R,S)) fun(E,F)=>
        some (.go (E,F))) L.cons 0 (h,y)) fun(G,H)=>
     some (.go (G,(h.length:Int),H))
    else
     some (.brk (h,x,y))) N ([],(-1),e)) fun(I,a0,J)=>
 some (I,J)
theorem spec_l05ArcsUntil_c {B:Nat→Prop} {N:Nat} {x0:Template} {V:Instance} {O:List (List Int)} {i:Bool} (r:(List ArcStep)×(List (List Int))) (d:dO N x0 V O i=some r) {j:Value} {n:Value} {f:Value} {p:List Nat} (h:World) (hN:∀ c,B c→c<h.heap.size) (S0:Sep p B h h [rw N0 1 (vO 1 xH) 25 f O]) (A0:Bo B h (Pt 2 xI) j x0) (W:Bo B h (Pt 2 xO) n V):Calls Tryz.prog 171 #[j,n,f,.bool i] h (Gv (fun v w'=>∃ (be:Value),v=be∧Sep p B h w' [rl 3 qR 178 be r.1,rw N0 1 (vO 1 xH) 25 f r.2])):=by
 unfold dO at d
 refine xV (L:=[(0,j),(1,n),(2,f),(3,.bool i)]) func171 rfl rfl rfl (sc rfl (sc rfl (sc rfl (sc rfl sn)))) (fun a F=>?_);have H:=S0;refine xP (xA 1 F rfl fun a F=>qO (oR0 (R:=qR) underlying136 sizeOf178 F rfl H fun a w I H F=>xA 1 F rfl fun a F=>xJ ?_));refine xC (xP (xA 1 F rfl fun a F=>xJ ?_));obtain⟨o1,d,bf⟩:=xK d;refine xX (fun a w=>∃ (s1:Int),o1= .nx s1∧Sk a 126 [(0,j),(1,n),(2,f),(3,.bool i),(9,I)]∧Sep p B h w [rl 3 qR 178 I ([]),rw N0 1 (vO 1 xH) 25 f O]∧xZ s1) ?_ ?_
 ·
  refine xW ?_;obtain⟨fl1,hf1,d⟩:=kU d;refine oU (fun g a w=>∃ (P:Int),cF fl1 g P=some o1∧Sk a 126 [(0,j),(1,n),(2,f),(3,.bool i),(9,I),(10,xG P)]∧Sep p B h w [rl 3 qR 178 I ([]),rw N0 1 (vO 1 xH) 25 f O]∧xZ P) N ?_ ?_
  ·
   exact⟨0,d,F.su,H,(show xZ (0) by decide)⟩
  intro g1 a w ⟨P,d,F,H,i1⟩;obtain⟨ej,t1,ek,d,aq⟩:=zK d;rw[hf1] at d;refine xC (xC ?_);obtain⟨o2,d,hk2⟩:=xK d;refine xX (fun a w=>∃ (s3:Bool),o2= .nx s3∧Sk a 126 [(0,j),(1,n),(2,f),(3,.bool i),(9,I),(10,xG P),(25,.bool s3)]∧Sep p B h w [rl 3 qR 178 I ([]),rw N0 1 (vO 1 xH) 25 f O]) ?_ ?_
  ·
   refine xU (xA 2 F rfl fun a F=>oL underlying45 F rfl rfl (H.r 1 rfl) fun a i2 F=>xA 2 F rfl fun a F=>?_)
   rcases qU (decide (P<(O.length:Int))) with Y | Y
   ·
    replace d:=vR Y d;have F:=F.eb 23 rfl Y;refine xA 2 F rfl fun a F=>xJ ?_;exact⟨i,(vE d),F.su,H⟩
   replace d:=vQ Y d;have F:=F.eb 23 rfl Y;refine xA 2 F rfl fun a F=>xJ ?_;exact⟨false,(vE d),F.su,H⟩
  rintro a w ⟨s3,rfl,F,H⟩
  have d:=xN hk2;refine xF (qP F rfl (fun ar=>?_) (fun ar=>?_))
  ·
   replace d:=vR ar d;refine xL (xF (xC (xW (xP (xA 2 F rfl fun a F=>?_)))));obtain⟨z1,c1,d⟩:=xB d;refine oI underlying45 sizeOf25 F rfl rfl rfl (H.r 1 rfl) c1 fun a p1 h1 F=>aY isAgg25 F rfl rfl (Sm.refl _ _) h1 fun a v4 ca F=>oL underlying25 F rfl rfl ca fun a i3 F=>xA 1 F rfl fun a F=>xJ (qP F rfl (fun au=>?_) (fun au=>?_))
   ·
    replace d:=vR au d;refine xP (xA 2 F rfl fun a F=>xJ (xT (vJ (oE (oE ?_)))));replace d:=zR d aq;refine vJ (oE ?_);replace d:=zQ d bf;refine oE (xS F rfl (oD F rfl) ?_);obtain rfl:=oj d;exact⟨_,rfl,I,rfl,H⟩
   replace d:=vQ au d;refine xL (qS (xF (xU (xA 1 F rfl fun a F=>?_))));obtain⟨z2,c2,d⟩:=xB d;refine kI F rfl rfl rfl c2 fun a F=>xA 1 F rfl fun a F=>xJ ?_;replace d:=qX d aq;exact⟨t1,(by omega),z2,d,F.su,H,(kG c2)⟩
  replace d:=vQ ar d;refine oM (oR (oR ?_));replace d:=eL d aq;refine vH (xF ?_);exact⟨P,(vE d),F.su,H,i1⟩
 rintro a w ⟨s1,rfl,F,H,i4⟩
 have d:=xN bf;refine xF (xC (xP (xA 1 F rfl fun a F=>xJ ?_)));obtain⟨o3,d,bg⟩:=xK d;refine xX (fun a w=>∃ (s4:List ArcStep) (v5:Value) (s5:Int) (s6:List (List Int)),o3= .nx (s4,s5,s6)∧Sk a 126 [(2,f),(9,v5)]∧Sep p B h w [rl 3 qR 178 v5 s4,rw N0 1 (vO 1 xH) 25 f s6]∧xZ s5) ?_ ?_
 ·
  refine xW ?_;obtain⟨cb,cc,d⟩:=kU d;refine oU (fun g a w=>∃ (t:List ArcStep) (v6:Value) (s8:Int) (s9:List (List Int)),cF cb g (t,s8,s9)=some o3∧Sk a 126 [(0,j),(1,n),(2,f),(3,.bool i),(9,v6),(11,xG s8)]∧Sep p B h w [rl 3 qR 178 v6 t,rw N0 1 (vO 1 xH) 25 f s9]∧xZ s8) N ?_ ?_
  ·
   exact⟨[],I,(-1),O,d,F.su,H,(show xZ (-1) by decide)⟩
  intro g2 a w ⟨t,v6,s8,s9,d,F,H,i5⟩;obtain⟨el,t2,em,d,av⟩:=zK d;rw[cc] at d;refine xC (xP (xA 2 F rfl fun a F=>oL underlying136 F rfl rfl (H.l 0 rfl) fun a i6 F=>xA 1 F rfl fun a F=>xJ (qP F rfl (fun aw=>?_) (fun aw=>?_))))
  ·
   replace d:=vR aw d;refine xL (xF (xW (xP (xA 1 F rfl fun a F=>oL underlying136 F rfl rfl (H.l 0 rfl) fun a i7 F=>xA 1 F rfl fun a F=>xJ (xC ?_)))));refine xU (xA 1 F rfl fun a F=>xJ ?_);obtain⟨o4,d,bh⟩:=xK d;refine xX (fun a w=>∃ (ac:List ArcStep) (v7:Value) (ad:List (List Int)),o4= .nx (ac,ad)∧Sk a 126 [(0,j),(1,n),(2,f),(3,.bool i),(9,v7),(11,xG (t.length:Int))]∧Sep p B h w [rl 3 qR 178 v7 ac,rw N0 1 (vO 1 xH) 25 f ad]) ?_ ?_
   ·
    refine xW ?_;obtain⟨cd,ce,d⟩:=qE d;refine oU (fun g a w=>∃ (C:Nat) (Q:List Con) (Z:List ArcStep) (v8:Value) (a0:List (List Int)),(C≤V.cons.length∧V.cons.drop C=Q)∧Q.length=g∧qJ cd Q C (Z,a0)=some o4∧Sk a 126 [(12,xG (C:Int)),(0,j),(1,n),(2,f),(3,.bool i),(9,v8),(11,xG (t.length:Int))]∧Sep p B h w [rl 3 qR 178 v8 Z,rw N0 1 (vO 1 xH) 25 f a0]) V.cons.length ?_ ?_
    ·
     exact⟨0,V.cons,t,v6,s9,⟨Nat.zero_le _,rfl⟩,rfl,d,F.su,H⟩
    intro g3 a w ⟨C,Q,Z,v8,a0,D,cf,d,F,H⟩
    cases Q with
    | nil=>
     replace d:=qH d;have q1:=qG D.1 D.2;have l1:=vA q1;refine xC (xP (xA 2 F rfl fun a F=>oN F rfl rfl W fun a F=>oF (s':=1) bU F rfl rfl W xO.f1 fun a p2 h2 F=>aY isAgg33 F rfl rfl H.sm h2 fun a v9 h3 F=>oL underlying33 F rfl rfl h3 fun a i8 F=>xA 1 F rfl fun a F=>oY ?_));refine xF (qT F rfl l1 (oM (oR (oR (vH (xF ?_))))));exact⟨Z,v8,a0,(vE d),F.su,H⟩
    | cons x4 Q=>
     subst cf;replace D:=oO D.2;have y1:=oZ D.2.1;obtain⟨en,d,bi⟩:=oV d;rw[ce] at d;have l1:=qM D.1;refine xC (xP (xA 2 F rfl fun a F=>oN F rfl rfl W fun a F=>oF (s':=1) bU F rfl rfl W xO.f1 fun a p3 h4 F=>aY isAgg33 F rfl rfl H.sm h4 fun a eo h5 F=>oL underlying33 F rfl rfl h5 fun a i9 F=>xA 1 F rfl fun a F=>oY ?_));refine xF (qV F rfl l1 (xL (xF (xC ?_))));have j1:=fE (Nat.le_of_lt D.1) i9;have m1:=zC D.1 i9;refine xW (xP (xA 1 F rfl fun a F=>oN F rfl rfl W fun a F=>oF (s':=1) bU F rfl rfl W xO.f1 fun a p4 h6 F=>aY isAgg33 F rfl rfl H.sm h6 fun a ep h7 F=>xA 1 F rfl fun a F=>oI underlying33 sizeOf119 F rfl rfl rfl h7 y1 fun a p5 T F=>xA 1 F rfl fun a F=>oY ?_));refine xF (xP (xA 1 F rfl fun a F=>xJ ?_));obtain⟨o5,d,bj⟩:=xK d;refine xX (fun a w=>∃ (ae:List ArcStep) (af:Value) (ag:List (List Int)),o5= .nx (ae,ag)∧Sk a 126 [(0,j),(1,n),(2,f),(3,.bool i),(9,af),(11,xG (t.length:Int)),(12,xG (C:Int))]∧Sep p B h w [rl 3 qR 178 af ae,rw N0 1 (vO 1 xH) 25 f ag]) ?_ ?_
     ·
      refine xW ?_;obtain⟨cg,ch,d⟩:=qE d;refine oU (fun g a w=>∃ (G:Nat) (U:List Int) (a1:List ArcStep) (a2:Value) (a3:List (List Int)),(G≤x4.scope.length∧x4.scope.drop G=U)∧U.length=g∧qJ cg U G (a1,a3)=some o5∧Sk a 126 [(14,xG (G:Int)),(0,j),(1,n),(2,f),(3,.bool i),(9,a2),(11,xG (t.length:Int)),(12,xG (C:Int)),(13,p5)]∧Sep p B h w [rl 3 qR 178 a2 a1,rw N0 1 (vO 1 xH) 25 f a3]) x4.scope.length ?_ ?_
      ·
       exact⟨0,x4.scope,Z,v8,a0,⟨Nat.zero_le _,rfl⟩,rfl,d,F.su,H⟩
      intro g4 a w ⟨G,U,a1,a2,a3,E,ci,d,F,H⟩
      cases U with
      | nil=>
       replace d:=qH d;have q2:=qG E.1 E.2;have l2:=vA q2;refine xC (xP (xA 2 F rfl fun a F=>oN F rfl rfl T fun a F=>oF (s':=1) zV F rfl rfl T vU.f1 fun a p6 h9 F=>aY isAgg25 F rfl rfl H.sm h9 fun a er cj F=>oL underlying25 F rfl rfl cj fun a es F=>xA 1 F rfl fun a F=>oY ?_));refine xF (qT F rfl l2 (oM (oR (oR (vH (xF ?_))))));exact⟨a1,a2,a3,(vE d),F.su,H⟩
      | cons x5 U=>
       subst ci;replace E:=oO E.2;have y2:=oZ E.2.1;obtain⟨et,d,bm⟩:=oV d;rw[ch] at d;have l2:=qM E.1;refine xC (xP (xA 2 F rfl fun a F=>oN F rfl rfl T fun a F=>oF (s':=1) zV F rfl rfl T vU.f1 fun a p7 cl F=>aY isAgg25 F rfl rfl H.sm cl fun a eu cm F=>oL underlying25 F rfl rfl cm fun a bn F=>xA 1 F rfl fun a F=>oY ?_));refine xF (qV F rfl l2 (xL (xF (xC ?_))));have j2:=fE (Nat.le_of_lt E.1) bn;have m2:=zC E.1 bn;refine xW (xP (xA 1 F rfl fun a F=>oN F rfl rfl T fun a F=>oF (s':=1) zV F rfl rfl T vU.f1 fun a p8 cn F=>aY isAgg25 F rfl rfl H.sm cn fun a ew co F=>xA 1 F rfl fun a F=>oI underlying25 sizeOf2 F rfl rfl rfl co y2 fun a p9 cp F=>aN isAgg2 F rfl rfl H.sm cp fun a cq F=>xA 1 F rfl fun a F=>?_));refine qO (xA 2 F rfl fun a F=>?_);obtain⟨z3,c3,d⟩:=xB d;refine oI underlying45 sizeOf25 F rfl rfl rfl (H.r 1 rfl) c3 fun a ex cr F=>aY isAgg25 F rfl rfl (Sm.refl _ _) cr (fun a ey cs F=>?_);obtain⟨X,c4,d⟩:=xB d;refine oG F rfl call146 rfl (gS X c4 _ aA cs) (fun a vv w ⟨ax,ez,S⟩ F=>?_);subst vv;have H:=H.r1 S n0;refine xA 1 F rfl fun a F=>qO (xA 1 F rfl fun a F=>xJ ?_);obtain⟨o6,d,bp⟩:=xK d;refine xX (fun a w=>∃ (ah:List ArcStep) (ai:Value) (aj:List (List Int)),o6= .nx (ah,aj)∧Sk a 126 [(0,j),(1,n),(2,f),(3,.bool i),(9,ai),(11,xG (t.length:Int)),(12,xG (C:Int)),(13,p5),(14,xG (G:Int))]∧Sep p B h w [rl 3 qR 178 ai ah,rw N0 1 (vO 1 xH) 25 f aj]) ?_ ?_
       ·
        refine xW ?_;obtain⟨ct,cu,d⟩:=qE d;refine oU (fun g a w=>∃ (J:Nat) (K:List Int) (a4:List ArcStep) (a5:Value) (M:List (List Int)),(J≤X.length∧X.drop J=K)∧K.length=g∧qJ ct K J (a4,M)=some o6∧Sk a 126 [(17,xG (J:Int)),(0,j),(1,n),(2,f),(3,.bool i),(9,a5),(11,xG (t.length:Int)),(12,xG (C:Int)),(13,p5),(14,xG (G:Int)),(15,xG x5),(16,ax)]∧Sep p B h w [rl 1 xH 2 ax X,rl 3 qR 178 a5 a4,rw N0 1 (vO 1 xH) 25 f M]) X.length ?_ ?_
        ·
         exact⟨0,X,a1,a2,a3,⟨Nat.zero_le _,rfl⟩,rfl,d,F.su,H⟩
        intro g5 a w ⟨J,K,a4,a5,M,A,cv,d,F,H⟩
        cases K with
        | nil=>
         replace d:=qH d;have q3:=qG A.1 A.2;have l3:=vA q3;refine xC (xP (xA 2 F rfl fun a F=>oL underlying25 F rfl rfl (H.l 0 rfl) fun a eI F=>xA 1 F rfl fun a F=>xJ (qT F rfl l3 (oM ?_))));refine oR (oR (vH (xF ?_)));exact⟨a4,a5,M,(vE d),F.su,(H.s [1,2] rfl rfl)⟩
        | cons x6 K=>
         subst cv;replace A:=oO A.2;have y3:=oZ A.2.1;obtain⟨eS,d,ay⟩:=oV d;rw[cu] at d;have l3:=qM A.1;refine xC (xP (xA 2 F rfl fun a F=>oL underlying25 F rfl rfl (H.l 0 rfl) fun a bq F=>xA 1 F rfl fun a F=>xJ (qV F rfl l3 (xL ?_))));refine xF (xC ?_);have j3:=fE (Nat.le_of_lt A.1) bq;have m3:=zC A.1 bq;refine xW (xP (xA 6 F rfl fun a F=>oI underlying25 sizeOf2 F rfl rfl rfl (H.l 0 rfl) y3 fun a f3 cw F=>aN isAgg2 F rfl rfl (Sm.refl _ _) cw (fun a cx F=>?_)));obtain⟨z5,c5,d⟩:=xB d;refine oK F rfl call180 rfl H (spec_l05Support_c z5 c5 _ aA (H.a A0) (H.a T) (H.r 2 rfl) j2 cx) fun a w H F=>xA 1 F rfl fun a F=>xJ (qP F rfl (fun az=>?_) (fun az=>?_))
         ·
          replace d:=vR az d;refine xC ?_;obtain⟨z6,c6,d⟩:=xB d;obtain⟨z7,c7,d⟩:=xB d;obtain⟨w1,rfl⟩:∃ x,x=w:=⟨_,rfl⟩;have f4:=H.sm;obtain⟨X1,N1,g6,e1,H,br,f5⟩:=H.fza;have bt:=g6.ld;refine xD H (by kernel_rfl) fun w H=>vM 0 rfl (by kernel_rfl) (oJ F rfl (fun w l=>xM F rfl) fun a F=>vM 1 rfl (by kernel_rfl) (oJ F rfl (fun w l=>xM F rfl) fun a F=>vM 2 rfl (by kernel_rfl) (oJ F rfl (fun w l=>xM F rfl) fun a F=>vM 3 rfl (by kernel_rfl) (oJ F rfl (fun w l=>xM F rfl) fun a F=>vM 6 rfl (by kernel_rfl) (oJ F rfl (fun w l=>xM F rfl) (fun a F=>?_))))));refine vM 7 rfl (by kernel_rfl) (oJ F rfl (fun w l=>xM F rfl) fun a F=>qY 8 rfl (by kernel_rfl) (vI underlying25 sizeOf2 F rfl rfl rfl bt y3 fun a f6 cy F=>qY 9 rfl (by kernel_rfl) (vlI isAgg2 F rfl rfl H.v cy fun a cz F=>xE H 4 rfl (by kernel_rfl) (oI underlying45 sizeOf25 F rfl rfl rfl (H.r 1 rfl) c6 fun a f7 d0 F=>xJ ⟨⟨_,H⟩,?_⟩))));refine xE H 5 rfl (by kernel_rfl) (aY isAgg25 F rfl rfl (Sm.refl _ _) d0 fun a f8 d1 F=>xJ ⟨⟨_,H⟩,?_⟩);refine xE H 10 rfl (by kernel_rfl) (oG F rfl call181 rfl (spec_l05Without_c z7 c7 _ aA d1 cz) (fun a vv w ⟨f9,fa,S⟩ F=>?_));subst vv;have H:=H.r1 S n0;refine xJ ⟨⟨_,H⟩,?_⟩;refine xE H 11 rfl (by kernel_rfl) (oRi underlying45 sizeOf25 F rfl rfl rfl H 2 rfl c6 fun a fb fc d2 F=>xJ ⟨⟨_,H⟩,?_⟩);refine xE H 12 rfl (by kernel_rfl) (oSc sizeOf25 F rfl rfl rfl (H.s [2,0,1] rfl rfl) d2 (ix_lt c6) n0 (fun e q=>(Eo.sl q.ld)) ((H.s [2,0,1] rfl rfl).l 1 rfl).one rfl fun w H=>xJ ⟨⟨_,H⟩,?_⟩);refine bF (by kernel_rfl) (xF (xP (xA 4 F rfl fun a F=>oI underlying25 sizeOf2 F rfl rfl rfl bt y3 fun a fd d3 F=>aN isAgg2 F rfl rfl H.sm d3 fun a d4 F=>xA 1 F rfl fun a F=>?_)));refine kV underlying178 zeroValue178 (fun w=>by simp [sizeOf2];rfl) F rfl rfl rfl rfl rfl (oc rfl (oc rfl (oc rfl on))) rfl rfl fun a F=>oR1z (R:=qR) (y:=(ArcStep.mk x5 x6 (C:Int))) underlying136 sizeOf178 zeroValue178 rfl rfl F rfl rfl H (Eo.agg (qR.m cq d4 j1)) (fun a w fe H F=>?_);obtain⟨z8,c8,d⟩:=xB d;refine oPL (sz:=3) (R:=qR) (z:=(.agg #[xG 0,xG 0,xG 0])) (bytes:=24) underlying136 (by kernel_rfl) rfl rfl F rfl rfl rfl (H.s [2,0,1] rfl rfl) c8 fun a w ak H F=>xA 1 F rfl fun a F=>xJ (xC ?_);obtain⟨o7,d,d5⟩:=xK d;refine xX (fun a w=>∃ (b0:Bool),o7= .nx b0∧Sk a 126 [(0,j),(1,n),(2,f),(3,.bool i),(9,ak),(11,xG (t.length:Int)),(12,xG (C:Int)),(13,p5),(14,xG (G:Int)),(15,xG x5),(16,ax),(17,xG (J:Int)),(123,.bool b0)]∧Sep X1 N1 w1 w [rl 3 qR 178 ak z8,rw N0 1 (vO 1 xH) 25 f (M.set (x5).toNat z7)]) ?_ ?_
          ·
           refine xU (xA 2 F rfl fun a F=>?_)
           rcases qU i with a6 | a6
           ·
            replace d:=vR a6 d;have F:=F.eb 116 rfl a6;refine xA 2 F rfl fun a F=>?_;obtain⟨z9,c9,d⟩:=xB d;refine oI underlying45 sizeOf25 F rfl rfl rfl (H.r 1 rfl) c9 fun a ff d6 F=>aY isAgg25 F rfl rfl (Sm.refl _ _) d6 fun a fg d7 F=>oL underlying25 F rfl rfl d7 fun a fh F=>xA 2 F rfl fun a F=>xJ ?_;exact⟨((z9.length:Int)==0),(vE d),F.su,H⟩
           replace d:=vQ a6 d;have F:=F.eb 116 rfl a6;refine xA 7 F rfl fun a F=>xJ ?_;exact⟨false,(vE d),F.su,H⟩
          rintro a w ⟨b0,rfl,F,H⟩
          have d:=xN d5;refine xF (qP F rfl (fun b1=>?_) (fun b1=>?_))
          ·
           replace d:=vR b1 d;refine xP (xA 2 F rfl fun a F=>xJ (xT (vJ (oE (oE ?_)))));replace d:=zR d ay;refine vJ (oE ?_);replace d:=zQ d bp;refine vJ (oE (oE ?_));replace d:=zR d bm;refine vJ (oE ?_);replace d:=zQ d bj;refine vJ (oE (oE ?_));replace d:=zR d bi;refine vJ (oE ?_);replace d:=zQ d bh;refine vJ (oE ?_);replace d:=zR d av;refine vJ (oE ?_);replace d:=zQ d bg;refine oE ?_;have H:=(br.1 H (Ns.all ⟨n0,⟨n0,trivial⟩⟩));refine xS F rfl (oD F rfl) ?_;obtain rfl:=oj d;exact⟨_,rfl,ak,rfl,(H.s [1,2] rfl rfl)⟩
          replace d:=vQ b1 d;refine xL (qS (xF (xU (xA 1 F rfl fun a F=>qQ F rfl rfl rfl m3 fun a F=>xA 1 F rfl fun a F=>xJ ?_))));replace d:=qX d ay;exact⟨_,Nat.lt_succ_self _,J+1,K,z8,ak,(M.set (x5).toNat z7),⟨A.1,A.2.2⟩,rfl,d,F.su,(br.1 H (Ns.all ⟨n0,⟨n0,trivial⟩⟩))⟩
         replace d:=vQ az d;refine xL (qS (xF (xU (xA 1 F rfl fun a F=>qQ F rfl rfl rfl m3 fun a F=>xA 1 F rfl fun a F=>xJ ?_))));replace d:=qX d ay;exact⟨_,Nat.lt_succ_self _,J+1,K,a4,a5,M,⟨A.1,A.2.2⟩,rfl,d,F.su,H⟩
       rintro a w ⟨ah,ai,aj,rfl,F,H⟩
       have d:=xN bp;refine qS (xF (xU (xA 1 F rfl fun a F=>qQ F rfl rfl rfl m2 fun a F=>xA 1 F rfl fun a F=>xJ ?_)));replace d:=qX d bm;exact⟨_,Nat.lt_succ_self _,G+1,U,ah,ai,aj,⟨E.1,E.2.2⟩,rfl,d,F.su,H⟩
     rintro a w ⟨ae,af,ag,rfl,F,H⟩
     have d:=xN bj;refine qS (xF (xU (xA 1 F rfl fun a F=>qQ F rfl rfl rfl m1 fun a F=>xA 1 F rfl fun a F=>xJ ?_)));replace d:=qX d bi;exact⟨_,Nat.lt_succ_self _,C+1,Q,ae,af,ag,⟨D.1,D.2.2⟩,rfl,d,F.su,H⟩
   rintro a w ⟨ac,v7,ad,rfl,F,H⟩
   have d:=xN bh;refine qS (xF ?_);replace d:=qX d av;exact⟨t2,(by omega),ac,v7,(t.length:Int),ad,d,F.su,H,i7⟩
  replace d:=vQ aw d;refine oM (oR (oR ?_));replace d:=eL d av;refine vH (xF ?_);exact⟨t,v6,s8,s9,(vE d),F.su,H,i5⟩
 rintro a w ⟨s4,v5,s5,s6,rfl,F,H,fi⟩
 have d:=xN bg;refine xF (xP (xA 2 F rfl fun a F=>xJ (xT (xS F rfl (oD F rfl) ?_))));obtain rfl:=oj d;exact⟨_,rfl,v5,rfl,H⟩
def spec_l05Arcs (N:Nat) (d:Template) (e:Instance) (f:List (List Int)):Option ((List ArcStep)×(List (List Int))):=
 xY (dO N d e f false) fun c=>
 some (c.1,c.2)
theorem spec_l05Arcs_c {B:Nat→Prop} {N:Nat} {y:Template} {z:Instance} {h:List (List Int)} (r:(List ArcStep)×(List (List Int))) (f:spec_l05Arcs N y z h=some r) {i:Value} {j:Value} {e:Value} {n:List Nat} (d:World) (M:∀ c,B c→c<d.heap.size) (C:Sep n B d d [rw N0 1 (vO 1 xH) 25 e h]) (D:Bo B d (Pt 2 xI) i y) (E:Bo B d (Pt 2 xO) j z):Calls Tryz.prog 141 #[i,j,e] d (Gv (fun v w'=>∃ (t:Value),v=t∧Sep n B d w' [rl 3 qR 178 t r.1,rw N0 1 (vO 1 xH) 25 e r.2])):=by
 unfold spec_l05Arcs at f
 refine xV (L:=[(0,i),(1,j),(2,e)]) func141 rfl rfl rfl (sc rfl (sc rfl (sc rfl sn))) (fun a F=>?_);have H:=C;refine xP (xA 1 F rfl fun a F=>qO (xA 3 F rfl fun a F=>?_));obtain⟨p,G,f⟩:=xB f;obtain⟨O,K1,A⟩:=Sep.lend (K:=[rw N0 1 (vO 1 xH) 25 e h]) (L:=[]) H;refine oG F rfl call171 rfl (spec_l05ArcsUntil_c p G _ H.hN K1 (H.u D) (H.u E)) (fun a I w ⟨x,J,S⟩ F=>?_);subst I;have H:Sep n B d w [rl 3 qR 178 x p.1,rw N0 1 (vO 1 xH) 25 e p.2]:=A S;refine xA 1 F rfl fun a F=>xJ (xT (xS F rfl (oD F rfl) ?_));obtain rfl:=oj f;exact⟨_,rfl,x,rfl,H⟩
def fL (N:Nat) (d:Template) (e:Instance) (h:Bool):Option ((List Int)×Bool):=
 xY (iU d e) fun i=>
 xY (spec_l05Arcs N d e i) fun f=>
 vT (σ:=(List Int)) (
  qJ (σ:=(List Int)) (ρ:=(List Int)×Bool) (fun (A:Nat) (c j:(List Int))=>
   if ((c.length:Int)==0) then
    some (.ret ([],false))
   else
    xY (ix c 0) fun n=>
    vT (σ:=Int) (
     if h then
      xY (ck ((c.length:Int) - 1)) fun p=>
      xY (ix c p) fun t=>
      some (.nx t)
     else
      some (.nx n)) fun x=>
    xY (ap j ([x])) fun y=>
    some (.go y)) f.2 0 []) fun z=>
 some (z,true)
theorem spec_l09Least_c {B:Nat→Prop} {N:Nat} {V:Template} {W:Instance} {t:Bool} (r:(List Int)×Bool) (d:fL N V W t=some r) {G:Value} {I:Value} (h:World) (hN:∀ c,B c→c<h.heap.size) (X:Bo B h (Pt 2 xI) G V) (Y:Bo B h (Pt 2 xO) I W):Calls Tryz.prog 111 #[G,I,.bool t] h (Gv (fun v w'=>∃ (Q:Value),v= .tuple #[Q,.bool r.2]∧Sep [] B h w' [rl 1 xH 2 Q r.1])):=by
 unfold fL at d
 refine xV (L:=[(0,G),(1,I),(2,.bool t)]) func111 rfl rfl rfl (sc rfl (sc rfl (sc rfl sn))) (fun a F=>?_);have H:=Sep.start hN;refine xP (xA 2 F rfl fun a F=>qO (xA 2 F rfl fun a F=>?_));obtain⟨Z,c1,d⟩:=xB d;refine oG F rfl call140 rfl (spec_l05Full_c Z c1 _ aA (H.a X) (H.a Y)) (fun a J w ⟨n,b2,S⟩ F=>?_);subst J;have H:=H.r1 S n0;refine xA 1 F rfl fun a F=>qO (xA 3 F rfl fun a F=>?_);obtain⟨f,c2,d⟩:=xB d;have H:=H.lw;obtain⟨X1,K1,a2⟩:=Sep.lend (K:=[rw N0 1 (vO 1 xH) 25 n Z]) (L:=[]) H;refine oG F rfl call141 rfl (spec_l05Arcs_c f c2 _ H.hN K1 (H.u X) (H.u Y)) (fun a J w ⟨v3,b3,S⟩ F=>?_);subst J;have H:Sep [] B h w [rl 3 qR 178 v3 f.1,rw N0 1 (vO 1 xH) 25 n f.2]:=a2 S;refine qO (oR0 (R:=xH) underlying25 sizeOf2 F rfl H fun a w v4 H F=>xA 1 F rfl fun a F=>xJ (xC (xP ?_)));refine xA 1 F rfl fun a F=>xJ ?_;obtain⟨o1,d,T⟩:=xK d;refine xX (fun a w=>∃ (M:List Int) (C:Value),o1= .nx M∧Sk a 55 [(9,C)]∧Sep [] B h w [rl 1 xH 2 C M]) ?_ ?_
 ·
  refine xW ?_;obtain⟨a3,a4,d⟩:=qE d;refine oU (fun g a w=>∃ (i:Nat) (j:List (List Int)) (x:List Int) (p:Value),(i≤f.2.length∧f.2.drop i=j)∧j.length=g∧qJ a3 j i x=some o1∧Sk a 55 [(10,xG (i:Int)),(2,.bool t),(8,n),(9,p)]∧Sep [] B h w [rl 1 xH 2 p x,rw N0 1 (vO 1 xH) 25 n f.2]) f.2.length ?_ ?_
  ·
   exact⟨0,f.2,[],v4,⟨Nat.zero_le _,rfl⟩,rfl,d,F.su,(H.s [0,2] rfl rfl)⟩
  intro g1 a w ⟨i,j,x,p,e,a5,d,F,H⟩
  cases j with
  | nil=>
   replace d:=qH d;have q1:=qG e.1 e.2;have O:=vA q1;refine xC (xP (xA 2 F rfl fun a F=>oL underlying45 F rfl rfl (H.r 1 rfl) fun a i1 F=>xA 1 F rfl fun a F=>xJ (qT F rfl O (oM ?_))));refine oR (oR (vH (xF ?_)));exact⟨x,p,(vE d),F.su,(H.s [0] rfl rfl)⟩
  | cons x3 j=>
   subst a5;replace e:=oO e.2;have P:=oZ e.2.1;obtain⟨b4,d,U⟩:=oV d;rw[a4] at d;have O:=qM e.1;refine xC (xP (xA 2 F rfl fun a F=>oL underlying45 F rfl rfl (H.r 1 rfl) fun a i2 F=>xA 1 F rfl fun a F=>xJ (qV F rfl O (xL ?_))));refine xF (xC ?_);have j1:=fE (Nat.le_of_lt e.1) i2;have m1:=zC e.1 i2;refine xW (xP (xA 2 F rfl fun a F=>oI underlying45 sizeOf25 F rfl rfl rfl (H.r 1 rfl) P fun a p1 h1 F=>aY isAgg25 F rfl rfl (Sm.refl _ _) h1 fun a v7 h2 F=>oL underlying25 F rfl rfl h2 fun a i3 F=>xA 1 F rfl fun a F=>xJ ?_));refine xC (xP (xA 2 F rfl fun a F=>xJ (qP F rfl (fun D=>?_) (fun D=>?_))))
   ·
    replace d:=vR D d;refine xP (oR0 (R:=xH) underlying25 sizeOf2 F rfl H fun a w v8 H F=>xA 2 F rfl fun a F=>xJ (xT (oE (vJ (oE ?_)))));refine oE ?_;replace d:=zR d U;refine vJ (oE ?_);replace d:=zQ d T;refine oE (vV F rfl (oD F rfl) (oD F rfl) ?_);obtain rfl:=oj d;exact⟨_,rfl,v8,rfl,(H.s [0] rfl rfl)⟩
   replace d:=vQ D d;refine xL (xF (xP (xA 2 F rfl fun a F=>oI underlying45 sizeOf25 F rfl rfl rfl (H.r 1 rfl) P fun a p2 h3 F=>aY isAgg25 F rfl rfl (Sm.refl _ _) h3 (fun a v9 h4 F=>?_))));obtain⟨z2,c3,d⟩:=xB d;refine oI underlying25 sizeOf2 F rfl rfl rfl h4 c3 fun a p3 h5 F=>aN isAgg2 F rfl rfl (Sm.refl _ _) h5 fun a i4 F=>xA 1 F rfl fun a F=>xJ (xC (xP (xA 1 F rfl fun a F=>xJ ?_)));obtain⟨o2,d,a6⟩:=xK d;refine xX (fun a w=>∃ (A:Int),o2= .nx A∧Sk a 55 [(2,.bool t),(8,n),(9,p),(10,xG (i:Int)),(12,xG A)]∧Sep [] B h w [rl 1 xH 2 p x,rw N0 1 (vO 1 xH) 25 n f.2]∧xZ A) ?_ ?_
   ·
    refine qP F rfl (fun E=>?_) (fun E=>?_)
    ·
     replace d:=vR E d;refine xU (xA 2 F rfl fun a F=>oI underlying45 sizeOf25 F rfl rfl rfl (H.r 1 rfl) P fun a p4 h6 F=>aY isAgg25 F rfl rfl (Sm.refl _ _) h6 fun a b5 h7 F=>xA 1 F rfl fun a F=>?_);obtain⟨z3,c4,d⟩:=xB d;refine iS F rfl rfl rfl c4 (fun a F=>?_);obtain⟨z4,c5,d⟩:=xB d;refine oI underlying25 sizeOf2 F rfl rfl rfl h7 c5 fun a p5 h8 F=>aN isAgg2 F rfl rfl (Sm.refl _ _) h8 fun a i5 F=>xA 1 F rfl fun a F=>xJ ?_;exact⟨z4,(vE d),F.su,H,i5⟩
    replace d:=vQ E d;refine xL (xF ?_);exact⟨z2,(vE d),F.su,H,i4⟩
   rintro a w ⟨A,rfl,F,H,i6⟩
   have d:=xN a6;refine xF (xU (xA 2 F rfl fun a F=>oR1z (R:=xH) (y:=A) underlying25 sizeOf2 zeroValue2 rfl rfl F rfl rfl H (Eo.int i6) (fun a w b6 H F=>?_)));obtain⟨z5,c6,d⟩:=xB d;refine oPL (sz:=1) (R:=xH) (z:=(xG 0)) (bytes:=8) underlying25 (by kernel_rfl) rfl rfl F rfl rfl rfl (H.s [1,0,2] rfl rfl) c6 fun a w a7 H F=>xA 1 F rfl fun a F=>oY (qS (xF (xU (xA 1 F rfl fun a F=>qQ F rfl rfl rfl m1 fun a F=>xA 1 F rfl fun a F=>xJ ?_))));replace d:=qX d U;exact⟨_,Nat.lt_succ_self _,i+1,j,z5,a7,⟨e.1,e.2.2⟩,rfl,d,F.su,H⟩
 rintro a w ⟨M,C,rfl,F,H⟩
 have d:=xN T;refine xF (xP (xA 3 F rfl fun a F=>xJ (xT (vV F rfl (oD F rfl) (oD F rfl) ?_))));obtain rfl:=oj d;exact⟨_,rfl,C,rfl,H⟩
def spec_l00Max (c d:Int):Option Int:=
 if (decide (d<c)) then
  some c
 else
  some d
theorem spec_l00Max_c {B:Nat→Prop} {e f:Int} (r:Int) (d:spec_l00Max e f=some r)  (i:World) (p:∀ c,B c→c<i.heap.size) (j:xZ e) (n:xZ f):Calls Tryz.prog 175 #[xG e,xG f] i (dW r i):=by
 unfold spec_l00Max at d
 refine xV (L:=[(0,xG e),(1,xG f)]) func175 rfl rfl rfl (sc rfl (sc rfl sn)) (fun a F=>?_);have H:=Sep.start p;refine xP (xA 1 F rfl fun a F=>xJ (xC (xP (xA 3 F rfl fun a F=>?_))));refine xJ (qP F rfl (fun h=>?_) (fun h=>?_))
 ·
  replace d:=vR h d;refine xP (xA 2 F rfl fun a F=>xJ (xT (oE (xS F rfl (oD F rfl) ?_))));obtain rfl:=oj d;exact⟨⟨rfl,H.bl⟩,j⟩
 replace d:=vQ h d;refine xL (xF (xP (xA 2 F rfl fun a F=>xJ (xT (xS F rfl (oD F rfl) ?_)))));obtain rfl:=oj d;exact⟨⟨rfl,H.bl⟩,n⟩
def spec_l01At (c d:List Int):Option (List Int):=
 vT (σ:=(List Int)) (
  qJ (σ:=(List Int)) (ρ:=(List Int)) (fun (n:Nat) (e:Int) (f:(List Int))=>
   xY (ix c e) fun h=>
   xY (ap f ([h])) fun i=>
   some (.go i)) d 0 []) fun j=>
 some j
theorem spec_l01At_c {B:Nat→Prop} {J i:List Int} (r:(List Int)) (d:spec_l01At J i=some r) {n:Value} {p:Value} (f:World) (S:∀ c,B c→c<f.heap.size) (T:Bo B f (Sl 1 xH) n J) (C:Bo B f (Sl 1 xH) p i):Calls Tryz.prog 183 #[n,p] f (Gv (fun v w'=>∃ (G:Value),v=G∧Sep [] B f w' [rl 1 xH 2 G r])):=by
 unfold spec_l01At at d
 refine xV (L:=[(0,n),(1,p)]) func183 rfl rfl rfl (sc rfl (sc rfl sn)) (fun a F=>?_);have H:=Sep.start S;refine xP (xA 1 F rfl fun a F=>qO (oR0 (R:=xH) underlying25 sizeOf2 F rfl H fun a w U H F=>xA 1 F rfl fun a F=>xJ ?_));refine xC (xP (xA 1 F rfl fun a F=>xJ ?_));obtain⟨I,d,M⟩:=xK d;refine xX (fun a w=>∃ (D:List Int) (t:Value),I= .nx D∧Sk a 25 [(5,t)]∧Sep [] B f w [rl 1 xH 2 t D]) ?_ ?_
 ·
  refine xW ?_;obtain⟨N,O,d⟩:=qE d;refine oU (fun g a w=>∃ (j:Nat) (h x:List Int) (A:Value),(j≤i.length∧i.drop j=h)∧h.length=g∧qJ N h j x=some I∧Sk a 25 [(6,xG (j:Int)),(0,n),(1,p),(5,A)]∧Sep [] B f w [rl 1 xH 2 A x]) i.length ?_ ?_
  ·
   exact⟨0,i,[],U,⟨Nat.zero_le _,rfl⟩,rfl,d,F.su,H⟩
  intro g1 a w ⟨j,h,x,A,e,P,d,F,H⟩
  cases h with
  | nil=>
   replace d:=qH d;have V:=qG e.1 e.2;have E:=vA V;refine xC (xP (xA 2 F rfl fun a F=>oL underlying25 F rfl rfl C fun a i1 F=>xA 1 F rfl fun a F=>xJ (qT F rfl E (oM ?_))));refine oR (oR (vH (xF ?_)));exact⟨x,A,(vE d),F.su,H⟩
  | cons x2 h=>
   subst P;replace e:=oO e.2;have W:=oZ e.2.1;obtain⟨a6,d,Q⟩:=oV d;rw[O] at d;have E:=qM e.1;refine xC (xP (xA 2 F rfl fun a F=>oL underlying25 F rfl rfl C fun a K F=>xA 1 F rfl fun a F=>xJ (qV F rfl E (xL ?_))));refine xF (xC ?_);have j1:=fE (Nat.le_of_lt e.1) K;have X:=zC e.1 K;refine xW (xU (xA 4 F rfl fun a F=>oI underlying25 sizeOf2 F rfl rfl rfl C W fun a p1 Y F=>aN isAgg2 F rfl rfl H.sm Y (fun a i3 F=>?_)));obtain⟨Z,c1,d⟩:=xB d;refine oI underlying25 sizeOf2 F rfl rfl rfl T c1 fun a p2 h2 F=>aN isAgg2 F rfl rfl H.sm h2 fun a i4 F=>oR1z (R:=xH) (y:=Z) underlying25 sizeOf2 zeroValue2 rfl rfl F rfl rfl H (Eo.int i4) (fun a w v5 H F=>?_);obtain⟨z2,c2,d⟩:=xB d;refine oPL (sz:=1) (R:=xH) (z:=(xG 0)) (bytes:=8) underlying25 (by kernel_rfl) rfl rfl F rfl rfl rfl (H.s [1,0] rfl rfl) c2 fun a w v6 H F=>xA 1 F rfl fun a F=>oY (qS (xF (xU (xA 1 F rfl fun a F=>qQ F rfl rfl rfl X fun a F=>xA 1 F rfl fun a F=>xJ ?_))));replace d:=qX d Q;exact⟨_,Nat.lt_succ_self _,j+1,h,z2,v6,⟨e.1,e.2.2⟩,rfl,d,F.su,H⟩
 rintro a w ⟨D,t,rfl,F,H⟩
 have d:=xN M;refine xF (xP (xA 2 F rfl fun a F=>xJ (xT (xS F rfl (oD F rfl) ?_))));obtain rfl:=oj d;exact⟨_,rfl,t,rfl,H⟩
def dV (c d:List Int):Option Bool:=
 if ((c.length:Int) != (d.length:Int)) then
  some false
 else
  vT (σ:=Unit) (
   qJ (σ:=Unit) (ρ:=Bool) (fun (e:Nat) (f:Int) (s:Unit)=>
     match s with
     | _=>
     xY (ix d (e:Int)) fun h=>
     if (f != h) then
      some (.ret false)
     else
      some (.go ())) c 0 ()) fun _=>
  some true
theorem iQ {B:Nat→Prop} {i D:List Int} (r:Bool) (d:dV i D=some r) {n:Value} {p:Value} (h:World) (N:∀ c,B c→c<h.heap.size) (t:Bo B h (Sl 1 xH) n i) (E:Bo B h (Sl 1 xH) p D):Calls Tryz.prog 47 #[n,p] h (zO (.bool r) h):=by
 unfold dV at d
 refine xV (L:=[(0,n),(1,p)]) func47 rfl rfl rfl (sc rfl (sc rfl sn)) (fun a F=>?_);have H:=Sep.start N;refine xP (xA 1 F rfl fun a F=>xJ (xC (xP (xA 1 F rfl fun a F=>oL underlying25 F rfl rfl t fun a V F=>xA 1 F rfl fun a F=>?_))));refine oL underlying25 F rfl rfl E fun a W F=>xA 1 F rfl fun a F=>xJ (qP F rfl (fun x=>?_) (fun x=>?_))
 ·
  replace d:=vR x d;refine xP (xA 1 F rfl fun a F=>xJ (xT (oE (xS F rfl (oD F rfl) ?_))));obtain rfl:=oj d;exact⟨rfl,H.bl⟩
 replace d:=vQ x d;refine xL (xF (xC (xP (xA 1 F rfl fun a F=>xJ ?_))));obtain⟨G,d,A⟩:=xK d;refine xX (fun a w=>G= .nx ()∧Sk a 26 []∧Sep [] B h w []) ?_ ?_
 ·
  refine xW ?_;obtain⟨J,K,d⟩:=qE d;refine oU (fun g a w=>∃ (j:Nat) (f:List Int),(j≤i.length∧i.drop j=f)∧f.length=g∧qJ J f j ()=some G∧Sk a 26 [(5,xG (j:Int)),(0,n),(1,p)]∧Sep [] B h w []) i.length ?_ ?_
  ·
   exact⟨0,i,⟨Nat.zero_le _,rfl⟩,rfl,d,F.su,H⟩
  intro X a w ⟨j,f,e,M,d,F,H⟩
  cases f with
  | nil=>
   replace d:=qH d;have O:=qG e.1 e.2;have z:=vA O;refine xC (xP (xA 2 F rfl fun a F=>oL underlying25 F rfl rfl t fun a Y F=>xA 1 F rfl fun a F=>xJ (qT F rfl z (oM ?_))));refine oR (oR (vH (xF ?_)));exact⟨(vE d),F.sub sn,H⟩
  | cons Z f=>
   subst M;replace e:=oO e.2;have P:=oZ e.2.1;obtain⟨U,d,C⟩:=oV d;rw[K] at d;have z:=qM e.1;refine xC (xP (xA 2 F rfl fun a F=>oL underlying25 F rfl rfl t fun a I F=>xA 1 F rfl fun a F=>xJ (qV F rfl z (xL ?_))));refine xF (xC ?_);have j1:=fE (Nat.le_of_lt e.1) I;have Q:=zC e.1 I;refine xW (xC (xQ H (by kernel_rfl) (by kernel_rfl) (xR F rfl (fun w l=>xM F rfl) fun a F=>xR F rfl (fun w l=>xM F rfl) fun a F=>qI underlying25 sizeOf2 F rfl rfl rfl t P fun a p1 R F=>iB isAgg2 F rfl rfl H.q R fun a i5 F=>xR F rfl (fun w l=>xM F rfl) fun a F=>xR F rfl (fun w l=>xM F rfl) (fun a F=>?_))));obtain⟨z1,S,d⟩:=xB d;refine qI underlying25 sizeOf2 F rfl rfl rfl E S fun a p2 T F=>iB isAgg2 F rfl rfl H.q T fun a i6 F=>xR F rfl (fun w l=>r_neq F rfl rfl) fun a F=>kA fun w H=>xF (qP F rfl (fun y=>?_) (fun y=>?_))
   ·
    replace d:=vR y d;refine xP (xA 1 F rfl fun a F=>xJ (xT (vJ (oE (oE ?_)))));replace d:=zR d C;refine vJ (oE ?_);replace d:=zQ d A;refine oE (xS F rfl (oD F rfl) ?_);obtain rfl:=oj d;exact⟨rfl,H.bl⟩
   replace d:=vQ y d;refine xL (qS (xF (xU (xA 1 F rfl fun a F=>qQ F rfl rfl rfl Q fun a F=>xA 1 F rfl fun a F=>xJ ?_))));replace d:=qX d C;exact⟨_,Nat.lt_succ_self _,j+1,f,⟨e.1,e.2.2⟩,rfl,d,F.su,H⟩
 rintro a w ⟨rfl,F,H⟩
 have d:=xN A;refine xF (xP (xA 1 F rfl fun a F=>xJ (xT (xS F rfl (oD F rfl) ?_))));obtain rfl:=oj d;exact⟨rfl,H.bl⟩
def eV (c:Rel) (d:List Int):Option Bool:=
 vT (σ:=Unit) (
  qJ (σ:=Unit) (ρ:=Bool) (fun (h:Nat) (e:(List Int)) (s:Unit)=>
    match s with
    | _=>
    xY (dV e d) fun f=>
    if f then
     some (.ret true)
    else
     some (.go ())) c.tuples 0 ()) fun _=>
 some false
theorem spec_l01Has_c {B:Nat→Prop} {i:Rel} {D:List Int} (r:Bool) (d:eV i D=some r) {p:Value} {t:Value} (f:World) (K:∀ c,B c→c<f.heap.size) (j:Bo B f (Pt 2 qD) p i) (M:Bo B f (Sl 1 xH) t D):Calls Tryz.prog 46 #[p,t] f (zO (.bool r) f):=by
 unfold eV at d
 refine xV (L:=[(0,p),(1,t)]) func46 rfl rfl rfl (sc rfl (sc rfl sn)) (fun a F=>?_);have H:=Sep.start K;refine xP (xA 1 F rfl fun a F=>xJ (xC (xP (xA 1 F rfl fun a F=>xJ ?_))));obtain⟨z,d,A⟩:=xK d;refine xX (fun a w=>z= .nx ()∧Sk a 24 []∧Sep [] B f w []) ?_ ?_
 ·
  refine xW ?_;obtain⟨G,I,d⟩:=qE d;refine oU (fun g a w=>∃ (n:Nat) (h:List (List Int)),(n≤i.tuples.length∧i.tuples.drop n=h)∧h.length=g∧qJ G h n ()=some z∧Sk a 24 [(5,xG (n:Int)),(0,p),(1,t)]∧Sep [] B f w []) i.tuples.length ?_ ?_
  ·
   exact⟨0,i.tuples,⟨Nat.zero_le _,rfl⟩,rfl,d,F.su,H⟩
  intro g1 a w ⟨n,h,e,J,d,F,H⟩
  cases h with
  | nil=>
   replace d:=qH d;have N:=qG e.1 e.2;have y:=vA N;refine xC (xP (xA 2 F rfl fun a F=>oN F rfl rfl j fun a F=>oF (s':=1) vW F rfl rfl j qD.f1 fun a p1 O F=>aY isAgg45 F rfl rfl H.sm O fun a v2 P F=>oL underlying45 F rfl rfl P fun a i64 F=>xA 1 F rfl fun a F=>oY ?_));refine xF (qT F rfl y (oM (oR (oR (vH (xF ?_))))));exact⟨(vE d),F.sub sn,H⟩
  | cons x2 h=>
   subst J;replace e:=oO e.2;have Q:=oZ e.2.1;obtain⟨a0,d,C⟩:=oV d;rw[I] at d;have y:=qM e.1;refine xC (xP (xA 2 F rfl fun a F=>oN F rfl rfl j fun a F=>oF (s':=1) vW F rfl rfl j qD.f1 fun a p2 R F=>aY isAgg45 F rfl rfl H.sm R fun a v3 S F=>oL underlying45 F rfl rfl S fun a E F=>xA 1 F rfl fun a F=>oY ?_));refine xF (qV F rfl y (xL (xF (xC ?_))));have j1:=fE (Nat.le_of_lt e.1) E;have T:=zC e.1 E;refine xW (xP (xA 1 F rfl fun a F=>oN F rfl rfl j fun a F=>oF (s':=1) vW F rfl rfl j qD.f1 fun a p3 U F=>aY isAgg45 F rfl rfl H.sm U fun a v4 V F=>xA 1 F rfl fun a F=>oI underlying45 sizeOf25 F rfl rfl rfl V Q fun a p4 W F=>aY isAgg25 F rfl rfl H.sm W fun a v5 X F=>xA 1 F rfl fun a F=>?_));obtain⟨Y,Z,d⟩:=xB d;refine oK F rfl call47 rfl H (iQ Y Z _ aA (H.a X) (H.a M)) fun a w H F=>xJ (qP F rfl (fun x=>?_) (fun x=>?_))
   ·
    replace d:=vR x d;refine xP (xA 1 F rfl fun a F=>xJ (xT (vJ (oE (oE ?_)))));replace d:=zR d C;refine vJ (oE ?_);replace d:=zQ d A;refine oE (xS F rfl (oD F rfl) ?_);obtain rfl:=oj d;exact⟨rfl,H.bl⟩
   replace d:=vQ x d;refine xL (qS (xF (xU (xA 1 F rfl fun a F=>qQ F rfl rfl rfl T fun a F=>xA 1 F rfl fun a F=>xJ ?_))));replace d:=qX d C;exact⟨_,Nat.lt_succ_self _,n+1,h,⟨e.1,e.2.2⟩,rfl,d,F.su,H⟩
 rintro a w ⟨rfl,F,H⟩
 have d:=xN A;refine xF (xP (xA 1 F rfl fun a F=>xJ (xT (xS F rfl (oD F rfl) ?_))));obtain rfl:=oj d;exact⟨rfl,H.bl⟩
def gX (d:Template) (c:Con) (e:List Int):Option Bool:=
 xY (ix d.rels c.rel) fun f=>
 xY (spec_l01At e c.scope) fun h=>
 xY (eV f h) fun i=>
 some i
theorem spec_l05Holds_c {B:Nat→Prop} {n:Template} {p:Con} {t:List Int} (r:Bool) (d:gX n p t=some r) {h:Value} {i:Value} {j:Value} (e:World) (z:∀ c,B c→c<e.heap.size) (x:Bo B e (Pt 2 xI) h n) (f:Bo B e (Pt 2 vU) i p) (A:Bo B e (Sl 1 xH) j t):Calls Tryz.prog 176 #[h,i,j] e (zO (.bool r) e):=by
 unfold gX at d
 refine xV (L:=[(0,h),(1,i),(2,j)]) func176 rfl rfl rfl (sc rfl (sc rfl (sc rfl sn))) (fun a F=>?_);have H:=Sep.start z;refine xP (xA 1 F rfl fun a F=>xJ (xC ?_));obtain⟨R,C,d⟩:=xB d;obtain⟨D,E,d⟩:=xB d;obtain⟨G,y,d⟩:=xB d;refine xD H (by kernel_rfl) fun w H=>vM 0 rfl (by kernel_rfl) (oJ F rfl (fun w l=>xM F rfl) fun a F=>qY 1 rfl (by kernel_rfl) (vN F rfl rfl x fun a F=>qY 2 rfl (by kernel_rfl) (vF (s':=1) kR F rfl rfl x xI.f1 fun a T I F=>qY 3 rfl (by kernel_rfl) (vlS isAgg29 F rfl rfl H.v I fun a U J F=>vM 4 rfl (by kernel_rfl) (oJ F rfl (fun w l=>xM F rfl) (fun a F=>?_))))));refine qY 5 rfl (by kernel_rfl) (vN F rfl rfl f fun a F=>qY 6 rfl (by kernel_rfl) (vF (s':=1) fR F rfl rfl f vU.f0 fun a V K F=>qY 7 rfl (by kernel_rfl) (vlI isAgg2 F rfl rfl H.v K fun a W F=>qY 8 rfl (by kernel_rfl) (vI underlying29 sizeOf51 F rfl rfl rfl J C fun a X M F=>vM 9 rfl (by kernel_rfl) (oJ F rfl (fun w l=>xM F rfl) fun a F=>vM 10 rfl (by kernel_rfl) ?_)))));refine oJ F rfl (fun w l=>xM F rfl) fun a F=>qY 11 rfl (by kernel_rfl) (vN F rfl rfl f fun a F=>qY 12 rfl (by kernel_rfl) (vF (s':=1) zV F rfl rfl f vU.f1 fun a Y N F=>qY 13 rfl (by kernel_rfl) (vlS isAgg25 F rfl rfl H.v N fun a Z O F=>xE H 14 rfl (by kernel_rfl) (oG F rfl call183 rfl (spec_l01At_c D E _ aA (H.a A) (H.a O)) (fun a P w ⟨v5,Q,S⟩ F=>?_)))));subst P;have H:=H.r1 S n0;refine xJ ⟨⟨_,H⟩,?_⟩;refine xE H 15 rfl (by kernel_rfl) (oK F rfl call46 rfl H (spec_l01Has_c G y _ aA (H.a M) (H.l 0 rfl)) fun a w H F=>xJ ⟨⟨_,H⟩,?_⟩);refine vM 16 rfl (by kernel_rfl) (oJ F rfl (fun w l=>zM F rfl) fun a F=>bF (by kernel_rfl) (xF (xT (xS F rfl (oD F rfl) ?_))));obtain rfl:=oj d;exact⟨rfl,H.bl⟩
def dK (c:l05Find) (d:List Int):Option Bool:=
 xY (ck ((d.length:Int) - 1)) fun f=>
 vT (σ:=Unit) (
  qJ (σ:=Unit) (ρ:=Bool) (fun (z:Nat) (e:Con) (s:Unit)=>
    match s with
    | _=>
    vT (σ:=Int) (
     qJ (σ:=Int) (ρ:=(Ctl (Unit) Bool)) (fun (A:Nat) (h i:Int)=>
      xY (spec_l00Max i h) fun j=>
      some (.go j)) e.scope 0 0) fun n=>
    vT (σ:=Bool) (
     if (n==f) then  xY (gX c.t e d) fun p=>
      some (.nx (!p)) else  some (.nx false)) fun y=>
    if y then
     some (.ret false)
    else
     some (.go ())) c.x.cons 0 ()) fun _=>
 some true
theorem spec_l05Find_sure_c {B:Nat→Prop} {A:l05Find} {S:List Int} (r:Bool) (d:dK A S=some r) {p:Value} {t:Value} (h:World) (hN:∀ c,B c→c<h.heap.size) (j:Bo B h (Pt 5 kL) p A) (T:Bo B h (Sl 1 xH) t S):Calls Tryz.prog 147 #[p,t] h (zO (.bool r) h):=by
 unfold dK at d
 refine xV (L:=[(0,p),(1,t)]) func147 rfl rfl rfl (sc rfl (sc rfl sn)) (fun a F=>?_);have H:=Sep.start hN;refine xP (xA 1 F rfl fun a F=>qO (xA 1 F rfl fun a F=>oL underlying25 F rfl rfl T (fun a i1 F=>?_)));obtain⟨E,c1,d⟩:=xB d;refine iS F rfl rfl rfl c1 fun a F=>xA 1 F rfl fun a F=>xJ (xC (xP (xA 1 F rfl fun a F=>xJ ?_)));obtain⟨U,d,P⟩:=xK d;refine xX (fun a w=>U= .nx ()∧Sk a 65 []∧Sep [] B h w []) ?_ ?_
 ·
  refine xW ?_;obtain⟨a4,a5,d⟩:=qE d;refine oU (fun g a w=>∃ (i:Nat) (y:List Con),(i≤A.x.cons.length∧A.x.cons.drop i=y)∧y.length=g∧qJ a4 y i ()=some U∧Sk a 65 [(6,xG (i:Int)),(0,p),(1,t),(5,xG E)]∧Sep [] B h w []) A.x.cons.length ?_ ?_
  ·
   exact⟨0,A.x.cons,⟨Nat.zero_le _,rfl⟩,rfl,d,F.su,H⟩
  intro g1 a w ⟨i,y,e,a6,d,F,H⟩
  cases y with
  | nil=>
   replace d:=qH d;have q1:=qG e.1 e.2;have M:=vA q1;refine xC (xP (xA 2 F rfl fun a F=>oN F rfl rfl j fun a F=>oF (s':=1) fa159_1 F rfl rfl j kL.f1 fun a p1 h1 F=>olP isAgg94 F rfl rfl H.sm h1 fun a v2 V F=>oN F rfl rfl V fun a F=>oF (s':=1) bU F rfl rfl V xO.f1 fun a p2 h3 F=>aY isAgg33 F rfl rfl H.sm h3 (fun a v3 h4 F=>?_)));refine oL underlying33 F rfl rfl h4 fun a i2 F=>xA 1 F rfl fun a F=>xJ (qT F rfl M (oM (oR (oR (vH (xF ?_))))));exact⟨(vE d),F.sub sn,H⟩
  | cons J y=>
   subst a6;replace e:=oO e.2;have y1:=oZ e.2.1;obtain⟨bb,d,Q⟩:=oV d;rw[a5] at d;have M:=qM e.1;refine xC (xP (xA 2 F rfl fun a F=>oN F rfl rfl j fun a F=>oF (s':=1) fa159_1 F rfl rfl j kL.f1 fun a p3 h5 F=>olP isAgg94 F rfl rfl H.sm h5 fun a v4 W F=>oN F rfl rfl W fun a F=>oF (s':=1) bU F rfl rfl W xO.f1 fun a p4 h7 F=>aY isAgg33 F rfl rfl H.sm h7 (fun a v5 h8 F=>?_)));refine oL underlying33 F rfl rfl h8 fun a X F=>xA 1 F rfl fun a F=>xJ (qV F rfl M (xL (xF (xC ?_))));have j1:=fE (Nat.le_of_lt e.1) X;have m1:=zC e.1 X;refine xW (xP (xA 1 F rfl fun a F=>oN F rfl rfl j fun a F=>oF (s':=1) fa159_1 F rfl rfl j kL.f1 fun a p5 h9 F=>olP isAgg94 F rfl rfl H.sm h9 fun a v6 R F=>oN F rfl rfl R fun a F=>oF (s':=1) bU F rfl rfl R xO.f1 fun a p6 a7 F=>aY isAgg33 F rfl rfl H.sm a7 fun a v7 a8 F=>xA 1 F rfl fun a F=>?_));refine oI underlying33 sizeOf119 F rfl rfl rfl a8 y1 fun a Y n F=>xA 1 F rfl fun a F=>qO (xA 1 F rfl fun a F=>xJ (xC (xC ?_)));refine xU (xA 1 F rfl fun a F=>xJ ?_);obtain⟨Z,d,a9⟩:=xK d;refine xX (fun a w=>∃ (G:Int),Z= .nx G∧Sk a 65 [(0,p),(1,t),(5,xG E),(6,xG (i:Int)),(7,Y),(8,xG G)]∧Sep [] B h w []∧xZ G) ?_ ?_
   ·
    refine xW ?_;obtain⟨aa,ab,d⟩:=qE d;refine oU (fun g a w=>∃ (C:Nat) (z:List Int) (I:Int),(C≤J.scope.length∧J.scope.drop C=z)∧z.length=g∧qJ aa z C I=some Z∧Sk a 65 [(9,xG (C:Int)),(0,p),(1,t),(5,xG E),(6,xG (i:Int)),(7,Y),(8,xG I)]∧Sep [] B h w []∧xZ I) J.scope.length ?_ ?_
    ·
     exact⟨0,J.scope,0,⟨Nat.zero_le _,rfl⟩,rfl,d,F.su,H,(show xZ (0) by decide)⟩
    intro g2 a w ⟨C,z,I,f,ac,d,F,H,i4⟩
    cases z with
    | nil=>
     replace d:=qH d;have q2:=qG f.1 f.2;have N:=vA q2;refine xC (xP (xA 2 F rfl fun a F=>oN F rfl rfl n fun a F=>oF (s':=1) zV F rfl rfl n vU.f1 fun a p8 ad F=>aY isAgg25 F rfl rfl H.sm ad fun a v8 ae F=>oL underlying25 F rfl rfl ae fun a i5 F=>xA 1 F rfl fun a F=>oY ?_));refine xF (qT F rfl N (oM (oR (oR (vH (xF ?_))))));exact⟨I,(vE d),F.su,H,i4⟩
    | cons x3 z=>
     subst ac;replace f:=oO f.2;have y2:=oZ f.2.1;obtain⟨bc,d,af⟩:=oV d;rw[ab] at d;have N:=qM f.1;refine xC (xP (xA 2 F rfl fun a F=>oN F rfl rfl n fun a F=>oF (s':=1) zV F rfl rfl n vU.f1 fun a p9 ag F=>aY isAgg25 F rfl rfl H.sm ag fun a v9 ah F=>oL underlying25 F rfl rfl ah fun a i6 F=>xA 1 F rfl fun a F=>oY ?_));refine xF (qV F rfl N (xL (xF (xC ?_))));have j2:=fE (Nat.le_of_lt f.1) i6;have m2:=zC f.1 i6;refine xW (xU (xA 2 F rfl fun a F=>oN F rfl rfl n fun a F=>oF (s':=1) zV F rfl rfl n vU.f1 fun a bd ai F=>aY isAgg25 F rfl rfl H.sm ai fun a be aj F=>xA 1 F rfl fun a F=>oI underlying25 sizeOf2 F rfl rfl rfl aj y2 fun a bf ak F=>aN isAgg2 F rfl rfl H.sm ak (fun a i7 F=>?_)));obtain⟨z2,c2,d⟩:=xB d;refine oKI F rfl call175 rfl H (spec_l00Max_c z2 c2 _ aA i4 i7) fun a w H al F=>xA 1 F rfl fun a F=>oY (qS (xF (xU (xA 1 F rfl fun a F=>qQ F rfl rfl rfl m2 fun a F=>xA 1 F rfl fun a F=>xJ ?_))));replace d:=qX d af;exact⟨_,Nat.lt_succ_self _,C+1,z,z2,⟨f.1,f.2.2⟩,rfl,d,F.su,H,al⟩
   rintro a w ⟨G,rfl,F,H,i8⟩
   have d:=xN a9;refine xF (xC ?_);obtain⟨o3,d,am⟩:=xK d;refine xX (fun a w=>∃ (O:Bool),o3= .nx O∧Sk a 65 [(0,p),(1,t),(5,xG E),(6,xG (i:Int)),(64,.bool O)]∧Sep [] B h w []) ?_ ?_
   ·
    refine xU (xA 4 F rfl fun a F=>?_)
    rcases qU (G==E) with D | D
    ·
     replace d:=vR D d;have F:=F.eb 55 rfl D;refine xA 1 F rfl fun a F=>oN F rfl rfl j fun a F=>oF (s':=1) fa159_0 F rfl rfl j kL.f0 fun a bg an F=>olP isAgg71 F rfl rfl H.sm an fun a bh ao F=>xA 2 F rfl fun a F=>?_;obtain⟨z3,c3,d⟩:=xB d;refine oK F rfl call176 rfl H (spec_l05Holds_c z3 c3 _ aA (H.a ao) (H.a n) (H.a T)) fun a w H F=>xA 2 F rfl fun a F=>xJ ?_;exact⟨(!z3),(vE d),F.su,H⟩
    replace d:=vQ D d;have F:=F.eb 55 rfl D;refine xA 9 F rfl fun a F=>xJ ?_;exact⟨false,(vE d),F.su,H⟩
   rintro a w ⟨O,rfl,F,H⟩
   have d:=xN am;refine xF (qP F rfl (fun K=>?_) (fun K=>?_))
   ·
    replace d:=vR K d;refine xP (xA 1 F rfl fun a F=>xJ (xT (vJ (oE (oE ?_)))));replace d:=zR d Q;refine vJ (oE ?_);replace d:=zQ d P;refine oE (xS F rfl (oD F rfl) ?_);obtain rfl:=oj d;exact⟨rfl,H.bl⟩
   replace d:=vQ K d;refine xL (qS (xF (xU (xA 1 F rfl fun a F=>qQ F rfl rfl rfl m1 fun a F=>xA 1 F rfl fun a F=>xJ ?_))));replace d:=qX d Q;exact⟨_,Nat.lt_succ_self _,i+1,y,⟨e.1,e.2.2⟩,rfl,d,F.su,H⟩
 rintro a w ⟨rfl,F,H⟩
 have d:=xN P;refine xF (xP (xA 1 F rfl fun a F=>xJ (xT (xS F rfl (oD F rfl) ?_))));obtain rfl:=oj d;exact⟨rfl,H.bl⟩
def kO:Nat→Template→Instance→Int→(List (List Int))→Int→(List Int)→Option ((List (List Int))×Int)
  | 0,_,_,_,_,_,_=>none
  | N+1,h,i,c,e,n,j=>
  if ((j.length:Int)==i.vars) then
   xY (ck (n+1)) fun x=>
   vT (σ:=(List (List Int))) (
    if (decide ((e.length:Int)<c)) then
     xY (eR j) fun y=>
     xY (ap e ([y])) fun z=>
     some (.nx z)
    else
     some (.nx e)) fun A=>
   some (A,x)
  else
   vT (σ:=(List (List Int))×Int) (
    zH (σ:=(List (List Int))×Int) (ρ:=(List (List Int))×Int) (fun(B:Nat) (s:(List (List Int))×Int)=>
      match s with
      | (d,f)=>
      vT (σ:=Bool) (
       if (decide (0<c)) then  some (.nx ((d.length:Int)==c)) else  some (.nx false)) fun C=>
      if C then
       some (.ret (d,f))
      else
       xY (eR j) fun D=>
       xY (ap D ([(B:Int)])) fun p=>
       xY (dK (l05Find.mk h i c d f) p) fun E=>
       if E then
        xY (kO N h i c d f p) fun t=>
        some (.go (t.1,t.2))
       else
        some (.go (d,f))) h.size.toNat 0 (e,n)) fun(F,G)=>
   some (F,G)
theorem spec_l05Find_from_cA:∀ (N:Nat) {B:Nat→Prop} {P:Template} {a0:Instance} {h:Int} {C:List (List Int)} {Q:Int} {x1:List Int} (r:(List (List Int))×Int) (e:kO N P a0 h C Q x1=some r) {f:Nat} {j:Value} {n:Value} {p:Value} {T:Value} {A:List Nat} (i:World) (hN:∀ c,B c→c<i.heap.size) (S0:Sep A B i i [bx f [j,n,xG h,p,xG Q] 159,rl 1 (vO 1 xH) 25 p C]) (J:Bo B i (Pt 2 xI) j P) (V:Bo B i (Pt 2 xO) n a0) (a6:xZ h) (al:xZ Q) (X:Bo B i (Sl 1 xH) T x1),Calls Tryz.prog 114 #[vK f,T] i (Gv (fun v w'=>∃ (am:Value),v= .tuple #[]∧Sep A B i w' [bx f [j,n,xG h,am,xG r.2] 159,rl 1 (vO 1 xH) 25 am r.1]∧xZ r.2)):=by
  intro N
  induction N with
  | zero=>intro B P a0 h C Q x1 r e;unfold kO at e;cases e
  | succ N ih=>
  intro B P a0 h C Q x1 r e f j n p T A i hN S0 J V a6 al X;rw[kO] at e;refine xV (L:=[(0,vK f),(1,T)]) func114 rfl rfl rfl (sc rfl (sc rfl sn)) (fun a F=>?_);have H:=S0;refine xC (xP (xA 1 F rfl fun a F=>oL underlying25 F rfl rfl X fun a i1 F=>xA 1 F rfl fun a F=>cZ F rfl rfl fun a F=>oH fa159_1 F rfl rfl rfl fun a F=>oB isAgg94 F rfl rfl (H.b 0 rfl) rfl fun a F=>oN F rfl rfl V fun a F=>oF (s':=1) kD F rfl rfl V xO.f0 (fun a p1 h1 F=>?_)));refine aN isAgg2 F rfl rfl H.sm h1 fun a i2 F=>xA 1 F rfl fun a F=>xJ (qP F rfl (fun a7=>?_) (fun a7=>?_))
  ·
   replace e:=vR a7 e;refine xP (xA 1 F rfl fun a F=>cZ F rfl rfl fun a F=>oH fa159_4 F rfl rfl rfl fun a F=>oB isAgg2 F rfl rfl (H.b 0 rfl) rfl (fun a F=>?_));obtain⟨a8,c1,e⟩:=xB e;refine kI F rfl rfl rfl c1 fun a F=>cZ F rfl rfl fun a F=>oH fa159_4 F rfl rfl rfl fun a F=>oW sizeOf2 F rfl rfl rfl H rfl rfl rfl fun w H=>xJ (xC (xC (xQ H (by kernel_rfl) (by kernel_rfl) (xR F rfl (fun w l=>xM F rfl) fun a F=>xR F rfl (fun w l=>zT F rfl) (fun a F=>?_)))));refine xR F rfl (fun w l=>vG fa159_3 F rfl rfl) fun a F=>qB isAgg45 F rfl rfl (H.qb 0 rfl) rfl fun a F=>qL underlying45 F rfl rfl (H.l 1 rfl) fun a i3 F=>xR F rfl (fun w l=>xM F rfl) fun a F=>xR F rfl (fun w l=>zT F rfl) fun a F=>xR F rfl (fun w l=>vG fa159_2 F rfl rfl) fun a F=>qB isAgg3 F rfl rfl (H.qb 0 rfl) rfl fun a F=>xR F rfl (fun w l=>r_lss F rfl rfl) fun a F=>kA fun w H=>xF ?_;obtain⟨o1,e,b1⟩:=xK e;refine xX (fun a w=>∃ (s1:List (List Int)) (v2:Value),o1= .nx s1∧Sk a 83 [(0,vK f)]∧Sep A B i w [bx f [j,n,xG h,v2,xG a8] 159,rl 1 (vO 1 xH) 25 v2 s1]) ?_ ?_
   ·
    refine qP F rfl (fun a9=>?_) (fun a9=>?_)
    ·
     replace e:=vR a9 e;obtain⟨U,c2,e⟩:=xB e;obtain⟨z2,c3,e⟩:=xB e;refine xD H (by kernel_rfl) fun w H=>dp (fun G=>∀ (v3:Value) (a:Act) (w:World),Sk a 83 [(0,vK f),(33,vK f),(37,p),(40,v3)]→Sep A B i w [rl 1 (vO 1 xH) 25 v3 ([U]),bx f [j,n,xG h,p,xG a8] 159,rl 1 (vO 1 xH) 25 p C]→∀ M,M = #[true,true,true,true,true,true,true,true,false,false,false,false]→G 4 M a w) ?_ (fun H1=>?_)
     ·
      intro v3 a w F H M aa;subst aa;refine xE H 8 rfl (by kernel_rfl) (oPL (sz:=1) (R:=(vO 1 xH)) (z:=(aE)) (bytes:=24) underlying45 (by kernel_rfl) rfl rfl F rfl rfl rfl (H.s [2,0,1] rfl rfl) c3 fun a w v4 H F=>xJ ⟨⟨_,H⟩,?_⟩);refine qY 9 rfl (by kernel_rfl) (oJ F rfl (fun w l=>zT F rfl) fun a F=>qY 10 rfl (by kernel_rfl) (oJ F rfl (fun w l=>vG fa159_3 F rfl rfl) fun a F=>xE H 11 rfl (by kernel_rfl) (oW sizeOf45 F rfl rfl rfl (H.s [1,0] rfl rfl) ((H.s [1,0] rfl rfl).l 1 rfl).one rfl rfl fun w H=>xJ ⟨⟨_,H⟩,?_⟩)));refine bF (by kernel_rfl) (xF ?_);exact⟨z2,v4,(vE e),F.su,H⟩
     refine dp (fun G=>∀ (v5:Value) (a:Act) (w:World),Sk a 83 [(0,vK f),(33,vK f),(37,p),(39,v5)]→Sep A B i w [rl 1 xH 2 v5 U,bx f [j,n,xG h,p,xG a8] 159,rl 1 (vO 1 xH) 25 p C]→∀ M,M = #[true,true,true,true,true,true,true,false,false,false,false,false]→G 5 M a w) ?_ (fun H2=>?_)
     ·
      intro v5 a w F H M aa;subst aa;refine xE H 7 rfl (by kernel_rfl) ?_;have H:=H.os;refine oR1L (R:=(vO 1 xH)) (y:=U) underlying45 sizeOf25 zeroValue25 rfl rfl F rfl rfl H El.sl fun a w v6 H F=>xJ ⟨⟨_,H⟩,?_⟩;exact H1 v6 _ _ (F.su) H _ (by kernel_rfl)
     refine vM 0 rfl (by kernel_rfl) (oJ F rfl (fun w l=>xM F rfl) fun a F=>vM 1 rfl (by kernel_rfl) (oJ F rfl (fun w l=>xM F rfl) fun a F=>qY 2 rfl (by kernel_rfl) (oJ F rfl (fun w l=>zT F rfl) fun a F=>qY 3 rfl (by kernel_rfl) (oJ F rfl (fun w l=>vG fa159_3 F rfl rfl) fun a F=>vM 5 rfl (by kernel_rfl) (oJ F rfl (fun w l=>xM F rfl) fun a F=>b_es [4,6] (by kernel_rfl) (by simp) ⟨⟨_,rfl,?_⟩,⟨_,rfl,?_⟩,trivial⟩)))))
     ·
      refine xEs H (oB isAgg45 F rfl rfl (H.b 0 rfl) rfl fun a F=>xJ ⟨⟨_,H⟩,?_⟩);refine xE H 6 rfl (by kernel_rfl) (oG F rfl call146 rfl (gS U c2 _ aA (H.a X)) (fun a O w ⟨v7,hv1,S⟩ F=>?_));subst O;have H:=H.r1 S n0;refine xJ ⟨⟨_,H⟩,?_⟩;exact H2 v7 _ _ (F.su) H _ (by kernel_rfl)
     refine xEs H (oG F rfl call146 rfl (gS U c2 _ aA (H.a X)) (fun a O w ⟨v8,hv2,S⟩ F=>?_));subst O;have H:=H.r1 S n0;refine xJ ⟨⟨_,H⟩,?_⟩;refine b_es [4,7] (by kernel_rfl) (by simp) ⟨⟨_,rfl,?_⟩,⟨_,rfl,?_⟩,trivial⟩
     ·
      refine xEs H (oB isAgg45 F rfl rfl (H.b 1 rfl) rfl fun a F=>xJ ⟨⟨_,H⟩,?_⟩);exact H2 v8 _ _ (F.su) H _ (by kernel_rfl)
     refine xEs H ?_;have H:=H.os;refine oR1L (R:=(vO 1 xH)) (y:=U) underlying45 sizeOf25 zeroValue25 rfl rfl F rfl rfl H El.sl fun a w v9 H F=>xJ ⟨⟨_,H⟩,?_⟩;refine xE H 4 rfl (by kernel_rfl) (oB isAgg45 F rfl rfl (H.b 1 rfl) rfl fun a F=>xJ ⟨⟨_,H⟩,?_⟩);exact H1 v9 _ _ (F.su) H _ (by kernel_rfl)
    replace e:=vQ a9 e;refine xL (xF ?_);exact⟨C,p,(vE e),F.su,H⟩
   rintro a w ⟨s1,v2,rfl,F,H⟩
   have e:=xN b1;refine xF (xT (oE (bodyPost_ret (results_none rfl _ _ _) F.d ?_)));obtain rfl:=oj e;exact⟨_,rfl,v2,rfl,H,(kG c1)⟩
  replace e:=vQ a7 e;refine xL (xF (xP (xA 1 F rfl fun a F=>xJ ?_)));obtain⟨o2,e,an⟩:=xK e;refine xX (fun a w=>∃ (s2:List (List Int)) (a1:Value) (s3:Int),o2= .nx (s2,s3)∧Sk a 83 [(0,vK f)]∧Sep A B i w [bx f [j,n,xG h,a1,xG s3] 159,rl 1 (vO 1 xH) 25 a1 s2]∧xZ s3) ?_ ?_
  ·
   refine xW ?_;obtain⟨b2,b3,e⟩:=zG e;refine oU (fun g a w=>∃ (D:Nat) (E:List (List Int)) (t:Value) (I:Int),D+g=P.size.toNat∧zH b2 g D (E,I)=some o2∧Sk a 83 [(4,xG (D:Int)),(0,vK f),(1,T)]∧Sep A B i w [bx f [j,n,xG h,t,xG I] 159,rl 1 (vO 1 xH) 25 t E]∧xZ I) P.size.toNat ?_ ?_
   ·
    exact⟨0,C,p,Q,(Nat.zero_add _),e,F.su,H,al⟩
   intro g1 a w ⟨D,E,t,I,a2,e,F,H,Y⟩
   cases g1 with
   | zero=>
    replace e:=vY e;have l1:=kT a2;refine xC (xP (xA 2 F rfl fun a F=>cZ F rfl rfl fun a F=>oH fa159_0 F rfl rfl rfl fun a F=>oB isAgg71 F rfl rfl (H.b 0 rfl) rfl fun a F=>oN F rfl rfl J fun a F=>oF (s':=1) dA F rfl rfl J xI.f0 fun a p2 h2 F=>aN isAgg2 F rfl rfl H.sm h2 (fun a i5 F=>?_)));refine xA 1 F rfl fun a F=>xJ (qT F rfl l1 (oM (oR (oR (vH (xF ?_))))));exact⟨E,t,I,(vE e),F.su,H,Y⟩
   | succ g1=>
    obtain⟨ck1,e,ab⟩:=vX e;rw[b3] at e;have l1:=zW a2;refine xC (xP (xA 2 F rfl fun a F=>cZ F rfl rfl fun a F=>oH fa159_0 F rfl rfl rfl fun a F=>oB isAgg71 F rfl rfl (H.b 0 rfl) rfl fun a F=>oN F rfl rfl J fun a F=>oF (s':=1) dA F rfl rfl J xI.f0 fun a p3 h3 F=>aN isAgg2 F rfl rfl H.sm h3 (fun a i6 F=>?_)));refine xA 1 F rfl fun a F=>xJ (qV F rfl l1 (xL (xF (xC ?_))));have j1:=k64I a2 i6;have m1:=bC a2 i6;refine xW (xC (xC ?_));obtain⟨o3,e,b4⟩:=xK e;refine xX (fun a w=>∃ (s6:Bool),o3= .nx s6∧Sk a 83 [(0,vK f),(1,T),(4,xG (D:Int)),(71,.bool s6)]∧Sep A B i w [bx f [j,n,xG h,t,xG I] 159,rl 1 (vO 1 xH) 25 t E]) ?_ ?_
    ·
     refine xQ H (by kernel_rfl) (by kernel_rfl) (xR F rfl (fun w l=>xM F rfl) fun a F=>xR F rfl (fun w l=>zT F rfl) fun a F=>xR F rfl (fun w l=>vG fa159_2 F rfl rfl) fun a F=>qB isAgg3 F rfl rfl (H.qb 0 rfl) rfl fun a F=>xR F rfl (fun w l=>r_gtr F rfl rfl) fun a F=>xR F rfl (fun w l=>xM F rfl) (fun a F=>?_))
     rcases qU (decide (0<h)) with W | W
     ·
      replace e:=vR W e;have F:=F.eb 60 rfl W;refine xR F rfl (fun w l=>xM F rfl) fun a F=>xR F rfl (fun w l=>zT F rfl) fun a F=>xR F rfl (fun w l=>vG fa159_3 F rfl rfl) fun a F=>qB isAgg45 F rfl rfl (H.qb 0 rfl) rfl fun a F=>qL underlying45 F rfl rfl (H.l 1 rfl) fun a i7 F=>xR F rfl (fun w l=>xM F rfl) fun a F=>xR F rfl (fun w l=>zT F rfl) fun a F=>xR F rfl (fun w l=>vG fa159_2 F rfl rfl) fun a F=>qB isAgg3 F rfl rfl (H.qb 0 rfl) rfl fun a F=>xR F rfl (fun w l=>r_eql F rfl rfl) fun a F=>xR F rfl (fun w l=>aU F rfl rfl) (fun a F=>?_);refine kA fun w H=>xF ?_;exact⟨((E.length:Int)==h),(vE e),F.su,H⟩
     replace e:=vQ W e;have F:=F.eb 60 rfl W;refine qK F rfl rfl fun a F=>qK F rfl rfl fun a F=>qK F rfl rfl fun a F=>qK F rfl rfl fun a F=>qK F rfl rfl fun a F=>qK F rfl rfl fun a F=>qK F rfl rfl fun a F=>qK F rfl rfl fun a F=>qK F rfl rfl fun a F=>qK F rfl rfl fun a F=>xR F rfl (fun w l=>aF F rfl rfl) (fun a F=>?_);refine kA fun w H=>xF ?_;exact⟨false,(vE e),F.su,H⟩
    rintro a w ⟨s6,rfl,F,H⟩
    have e:=xN b4;refine xF (qP F rfl (fun ac=>?_) (fun ac=>?_))
    ·
     replace e:=vR ac e;refine xT (oE (vJ (oE (oE ?_))));replace e:=zR e ab;refine vJ (oE ?_);replace e:=zQ e an;refine bodyPost_ret (results_none rfl _ _ _) F.d ?_;obtain rfl:=oj e;exact⟨_,rfl,t,rfl,H,Y⟩
    replace e:=vQ ac e;refine xL (xF (xP (xA 1 F rfl fun a F=>?_)));obtain⟨z3,c4,e⟩:=xB e;refine oG F rfl call146 rfl (gS z3 c4 _ aA (H.a X)) (fun a O w ⟨c8,c9,S⟩ F=>?_);subst O;have H:=H.r1 S n0;refine xA 1 F rfl fun a F=>oR1z (R:=xH) (y:=(D:Int)) underlying25 sizeOf2 zeroValue2 rfl rfl F rfl rfl H (Eo.int j1) (fun a w ca H F=>?_);obtain⟨z4,c5,e⟩:=xB e;refine oPL (sz:=1) (R:=xH) (z:=(xG 0)) (bytes:=8) underlying25 (by kernel_rfl) rfl rfl F rfl rfl rfl (H.s [1,0,2,3] rfl rfl) c5 fun a w cb H F=>xA 1 F rfl fun a F=>qO (xA 2 F rfl fun a F=>?_);obtain⟨z5,c6,e⟩:=xB e;refine oK F rfl call147 rfl H (spec_l05Find_sure_c z5 c6 _ aA (kL.b (H.g 1 rfl).bk (H.a J) (H.a V) a6 (H.l 2 rfl) Y) (H.l 0 rfl)) fun a w H F=>xJ (qP F rfl (fun ad=>?_) (fun ad=>?_))
    ·
     replace e:=vR ad e;refine xU (xA 2 F rfl fun a F=>?_);obtain⟨w1,rfl⟩:∃ x,x=w:=⟨_,rfl⟩;have cc:=H.sm;obtain⟨X1,N1,g2,e1,H,b5,cd⟩:=H.fza;have h4:=g2.ld;obtain⟨Z,c7,e⟩:=xB e;obtain⟨X2,K1,b6⟩:=Sep.lend (K:=[bx f [j,n,xG h,t,xG I] 159,rl 1 (vO 1 xH) 25 t E]) (L:=[]) H;refine oG F rfl call114 rfl (ih Z c7 _ H.hN K1 (H.u (e1 J)) (H.u (e1 V)) a6 Y (H.u h4)) (fun a O w ⟨ae,ce,S,i8⟩ F=>?_);subst O;have H:Sep X1 N1 w1 w [bx f [j,n,xG h,ae,xG Z.2] 159,rl 1 (vO 1 xH) 25 ae Z.1]:=b6 S;refine oY (qS (xF (xU (xA 1 F rfl fun a F=>qQ F rfl rfl rfl m1 fun a F=>xA 1 F rfl fun a F=>xJ ?_))));replace e:=qX e ab;exact⟨_,Nat.lt_succ_self _,D+1,Z.1,ae,Z.2,(by omega),e,F.su,((b5.1 H (Ns.all ⟨n0,⟨n0,trivial⟩⟩)).s [1,2] rfl rfl),i8⟩
    replace e:=vQ ad e;refine xL (qS (xF (xU (xA 1 F rfl fun a F=>qQ F rfl rfl rfl m1 fun a F=>xA 1 F rfl fun a F=>xJ ?_))));replace e:=qX e ab;exact⟨_,Nat.lt_succ_self _,D+1,E,t,I,(by omega),e,F.su,(H.s [1,2] rfl rfl),Y⟩
  rintro a w ⟨s2,a1,s3,rfl,F,H,i9⟩
  have e:=xN an;refine x_ends (bodyPost_ret (results_none rfl _ _ _) F.d ?_);obtain rfl:=oj e;exact⟨_,rfl,a1,rfl,H,i9⟩
theorem spec_l05Find_from_c {B:Nat→Prop} {N:Nat} {n:Template} {p:Instance} {e:Int} {t:List (List Int)} {f:Int} {z:List Int} (r:(List (List Int))×Int) (H:kO N n p e t f z=some r) {j:Nat} {h:Value} {i:Value} {x:Value} {A:Value} {C:List Nat} (d:World) (I:∀ c,B c→c<d.heap.size) (J:Sep C B d d [bx j [h,i,xG e,x,xG f] 159,rl 1 (vO 1 xH) 25 x t]) (D:Bo B d (Pt 2 xI) h n) (E:Bo B d (Pt 2 xO) i p) (F:xZ e) (G:xZ f) (K:Bo B d (Sl 1 xH) A z):Calls Tryz.prog 114 #[vK j,A] d (Gv (fun v w'=>∃ (y:Value),v= .tuple #[]∧Sep C B d w' [bx j [h,i,xG e,y,xG r.2] 159,rl 1 (vO 1 xH) 25 y r.1]∧xZ r.2)):=
  spec_l05Find_from_cA N r H d I J D E F G K
def aR (N:Nat) (c:Template) (d:Instance) (e:Int):Option (List (List Int)):=
 xY (kO N c d e ([]) 0 ([])) fun f=>
 some f.1
theorem spec_l05Solutions_c {B:Nat→Prop} {N:Nat} {t:Template} {y:Instance} {d:Int} (r:(List (List Int))) (i:aR N t y d=some r) {e:Value} {f:Value} (h:World) (M:∀ c,B c→c<h.heap.size) (z:Bo B h (Pt 2 xI) e t) (A:Bo B h (Pt 2 xO) f y) (E:xZ d):Calls Tryz.prog 60 #[e,f,xG d] h (Gv (fun v w'=>∃ (p:Value),v=p∧Sep [] B h w' [rl 1 (vO 1 xH) 25 p r])):=by
 unfold aR at i
 refine xV (L:=[(0,e),(1,f),(2,xG d)]) func60 rfl rfl rfl (sc rfl (sc rfl (sc rfl sn))) (fun a F=>?_);have H:=Sep.start M;refine xP (xA 1 F rfl fun a F=>qO (xA 3 F rfl fun a F=>kV underlying159 zeroValue159 (fun w=>by simp [sizeOf2,sizeOf3,sizeOf45,sizeOf71,sizeOf94];rfl) F rfl rfl rfl rfl rfl (oc (H.a z).pone (oc (H.a A).pone (oc rfl on))) rfl rfl (fun a F=>?_)));refine oX F rfl rfl rfl H fun a w C H F=>xA 1 F rfl fun a F=>qO (xA 1 F rfl fun a F=>oR0 (R:=xH) underlying25 sizeOf2 F rfl H (fun a w Z H F=>?_));have H:=H.nl 1 (vO 1 xH) 25;obtain⟨O,rfl⟩:∃ x,x=w:=⟨_,rfl⟩;have X:=H.sm;obtain⟨P,G,Q,D,H,I,Y⟩:=(H.s [1,0,2] rfl rfl).fza;have T:=Q.ld;obtain⟨j,U,i⟩:=xB i;obtain⟨X2,K1,J⟩:=Sep.lend (K:=[bx C [e,f,xG d,aE,xG 0] 159,rl 1 (vO 1 xH) 25 aE ([])]) (L:=[]) (H.s [1,0] rfl rfl);refine oG F rfl call114 rfl (spec_l05Find_from_c j U _ H.hN K1 (H.u (D z)) (H.u (D A)) E (show xZ 0 by decide) (H.u T)) (fun a V w ⟨n,W,S,i1⟩ F=>?_);subst V;have H:Sep P G O w [bx C [e,f,xG d,n,xG j.2] 159,rl 1 (vO 1 xH) 25 n j.1]:=J S;refine qO (xA 1 F rfl fun a F=>cZ F rfl rfl fun a F=>oH fa159_3 F rfl rfl rfl fun a F=>oB isAgg45 F rfl rfl (H.b 0 rfl) rfl fun a F=>xA 1 F rfl fun a F=>xJ ?_);refine xT ?_;have H:=(I.1 H (Ns.all ⟨n0,⟨n0,trivial⟩⟩));refine xS F rfl (oD F rfl) ?_;obtain rfl:=oj i;exact⟨_,rfl,n,rfl,(H.s [2] rfl rfl)⟩
def eA (t:Template) (c:Con) (h d x i:Int):Option Bool:=
 vT (σ:=Bool) (
  xY (bR c.scope h) fun p=>
  if (!p) then  xY (bR c.scope d) fun y=>
   some (.nx (!y)) else  some (.nx false)) fun z=>
 if z then
  some true
 else
  xY (ix t.rels c.rel) fun A=>
  vT (σ:=Unit) (
   qJ (σ:=Unit) (ρ:=Bool) (fun (G:Nat) (e:(List Int)) (s:Unit)=>
     match s with
     | _=>
     xY (eC c e) fun B=>
     vT (σ:=Bool) (
      qJ (σ:=Bool) (ρ:=(Ctl (Unit) Bool)) (fun (j:Nat) (f:Int) (C:Bool)=>
       vT (σ:=Bool) (
        if (f==h) then  xY (ix e (j:Int)) fun n=>
         if (n != x) then  some (.nx true) else  if (f==d) then  some (.nx (n != i)) else  some (.nx false) else  if (f==d) then  xY (ix e (j:Int)) fun D=>
          some (.nx (D != i)) else  some (.nx false)) fun E=>
       if E then
        some (.go false)
       else
        some (.go C)) c.scope 0 B) fun F=>
     if F then
      some (.ret true)
     else
      some (.go ())) A.tuples 0 ()) fun _=>
  some false
theorem spec_l05Tells_c {B:Nat→Prop} {x0:Template} {E:Con} {t i x j:Int} (r:Bool) (d:eA x0 E t i x j=some r) {O:Value} {z:Value} (n:World) (hN:∀ c,B c→c<n.heap.size) (A0:Bo B n (Pt 2 xI) O x0) (e:Bo B n (Pt 2 vU) z E) (ah:xZ t) (ai:xZ i) (cm:xZ x) (cn:xZ j):Calls Tryz.prog 172 #[O,z,xG t,xG i,xG x,xG j] n (zO (.bool r) n):=by
 unfold eA at d
 refine xV (L:=[(0,O),(1,z),(2,xG t),(3,xG i),(4,xG x),(5,xG j)]) func172 rfl rfl rfl (sc rfl (sc rfl (sc rfl (sc rfl (sc rfl (sc rfl sn)))))) (fun a F=>?_);have H:=Sep.start hN;refine xP (xA 1 F rfl fun a F=>xJ (xC (xC ?_)));obtain⟨o1,d,aj⟩:=xK d;refine xX (fun a w=>∃ (V:Bool),o1= .nx V∧Sk a 118 [(0,O),(1,z),(2,xG t),(3,xG i),(4,xG x),(5,xG j),(32,.bool V)]∧Sep [] B n w []) ?_ ?_
 ·
  refine xU (xA 1 F rfl fun a F=>oN F rfl rfl e fun a F=>oF (s':=1) zV F rfl rfl e vU.f1 fun a p1 h1 F=>aY isAgg25 F rfl rfl H.sm h1 fun a v2 h2 F=>xA 1 F rfl fun a F=>?_);obtain⟨a2,c1,d⟩:=xB d;refine oK F rfl call37 rfl H (spec_l00Has_c a2 c1 _ aA (H.a h2) ah) fun a w H F=>xA 2 F rfl fun a F=>?_
  rcases qU (!a2) with I | I
  ·
   replace d:=vR I d;have F:=F.eb 24 rfl I;refine xA 1 F rfl fun a F=>oN F rfl rfl e fun a F=>oF (s':=1) zV F rfl rfl e vU.f1 fun a p2 h3 F=>aY isAgg25 F rfl rfl H.sm h3 fun a v3 h4 F=>xA 1 F rfl fun a F=>?_;obtain⟨z1,c2,d⟩:=xB d;refine oK F rfl call37 rfl H (spec_l00Has_c z1 c2 _ aA (H.a h4) ai) fun a w H F=>xA 2 F rfl fun a F=>xJ ?_;exact⟨(!z1),(vE d),F.su,H⟩
  replace d:=vQ I d;have F:=F.eb 24 rfl I;refine xA 8 F rfl fun a F=>xJ ?_;exact⟨false,(vE d),F.su,H⟩
 rintro a w ⟨V,rfl,F,H⟩
 have d:=xN aj;refine xF (qP F rfl (fun S=>?_) (fun S=>?_))
 ·
  replace d:=vR S d;refine xP (xA 1 F rfl fun a F=>xJ (xT (oE (xS F rfl (oD F rfl) ?_))));obtain rfl:=oj d;exact⟨rfl,H.bl⟩
 replace d:=vQ S d;refine xL (xF (xC (xQ H (by kernel_rfl) (by kernel_rfl) (xR F rfl (fun w l=>xM F rfl) fun a F=>qN F rfl rfl A0 fun a F=>qF (s':=1) kR F rfl rfl A0 xI.f1 fun a p3 h5 F=>qlS isAgg29 F rfl rfl H.q h5 fun a v4 h6 F=>xR F rfl (fun w l=>xM F rfl) fun a F=>qN F rfl rfl e fun a F=>qF (s':=1) fR F rfl rfl e vU.f0 (fun a p4 h7 F=>?_)))));refine iB isAgg2 F rfl rfl H.q h7 (fun a i1 F=>?_);obtain⟨P,c3,d⟩:=xB d;refine qI underlying29 sizeOf51 F rfl rfl rfl h6 c3 fun a Q h F=>xR F rfl (fun w l=>zM F rfl) fun a F=>kA fun w H=>xF (xC (xP (xA 1 F rfl fun a F=>xJ ?_)));obtain⟨o2,d,a3⟩:=xK d;refine xX (fun a w=>o2= .nx ()∧Sk a 118 []∧Sep [] B n w []) ?_ ?_
 ·
  refine xW ?_;obtain⟨ak,al,d⟩:=qE d;refine oU (fun g a w=>∃ (y:Nat) (D:List (List Int)),(y≤P.tuples.length∧P.tuples.drop y=D)∧D.length=g∧qJ ak D y ()=some o2∧Sk a 118 [(14,xG (y:Int)),(1,z),(2,xG t),(3,xG i),(4,xG x),(5,xG j),(13,Q)]∧Sep [] B n w []) P.tuples.length ?_ ?_
  ·
   exact⟨0,P.tuples,⟨Nat.zero_le _,rfl⟩,rfl,d,F.su,H⟩
  intro g1 a w ⟨y,D,p,am,d,F,H⟩
  cases D with
  | nil=>
   replace d:=qH d;have q1:=qG p.1 p.2;have W:=vA q1;refine xC (xP (xA 2 F rfl fun a F=>oN F rfl rfl h fun a F=>oF (s':=1) vW F rfl rfl h qD.f1 fun a p6 h9 F=>aY isAgg45 F rfl rfl H.sm h9 fun a v5 an F=>oL underlying45 F rfl rfl an fun a i2 F=>xA 1 F rfl fun a F=>oY ?_));refine xF (qT F rfl W (oM (oR (oR (vH (xF ?_))))));exact⟨(vE d),F.sub sn,H⟩
  | cons x6 D=>
   subst am;replace p:=oO p.2;have R:=oZ p.2.1;obtain⟨co,d,a4⟩:=oV d;rw[al] at d;have W:=qM p.1;refine xC (xP (xA 2 F rfl fun a F=>oN F rfl rfl h fun a F=>oF (s':=1) vW F rfl rfl h qD.f1 fun a p7 ao F=>aY isAgg45 F rfl rfl H.sm ao fun a v6 aq F=>oL underlying45 F rfl rfl aq fun a i3 F=>xA 1 F rfl fun a F=>oY ?_));refine xF (qV F rfl W (xL (xF (xC ?_))));have j1:=fE (Nat.le_of_lt p.1) i3;have m1:=zC p.1 i3;refine xW (xP (xA 2 F rfl fun a F=>oN F rfl rfl h fun a F=>oF (s':=1) vW F rfl rfl h qD.f1 fun a p8 ar F=>aY isAgg45 F rfl rfl H.sm ar fun a v7 au F=>xA 1 F rfl fun a F=>oI underlying45 sizeOf25 F rfl rfl rfl au R fun a p9 av F=>aY isAgg25 F rfl rfl H.sm av (fun a v8 aw F=>?_)));obtain⟨z3,c4,d⟩:=xB d;refine oK F rfl call182 rfl H (spec_l05Whole_c z3 c4 _ aA (H.a e) (H.a aw)) fun a w H F=>xA 1 F rfl fun a F=>xJ (xC (xP (xA 1 F rfl fun a F=>xJ ?_)));obtain⟨o3,d,ax⟩:=xK d;refine xX (fun a w=>∃ (X:Bool),o3= .nx X∧Sk a 118 [(1,z),(2,xG t),(3,xG i),(4,xG x),(5,xG j),(13,Q),(14,xG (y:Int)),(15,.bool X)]∧Sep [] B n w []) ?_ ?_
   ·
    refine xW ?_;obtain⟨ay,az,d⟩:=qE d;refine oU (fun g a w=>∃ (A:Nat) (C:List Int) (G:Bool),(A≤E.scope.length∧E.scope.drop A=C)∧C.length=g∧qJ ay C A G=some o3∧Sk a 118 [(16,xG (A:Int)),(1,z),(2,xG t),(3,xG i),(4,xG x),(5,xG j),(13,Q),(14,xG (y:Int)),(15,.bool G)]∧Sep [] B n w []) E.scope.length ?_ ?_
    ·
     exact⟨0,E.scope,z3,⟨Nat.zero_le _,rfl⟩,rfl,d,F.su,H⟩
    intro g2 a w ⟨A,C,G,f,b0,d,F,H⟩
    cases C with
    | nil=>
     replace d:=qH d;have q2:=qG f.1 f.2;have Y:=vA q2;refine xC (xP (xA 2 F rfl fun a F=>oN F rfl rfl e fun a F=>oF (s':=1) zV F rfl rfl e vU.f1 fun a cp b1 F=>aY isAgg25 F rfl rfl H.sm b1 fun a v9 b2 F=>oL underlying25 F rfl rfl b2 fun a i4 F=>xA 1 F rfl fun a F=>oY ?_));refine xF (qT F rfl Y (oM (oR (oR (vH (xF ?_))))));exact⟨G,(vE d),F.su,H⟩
    | cons Z C=>
     subst b0;replace f:=oO f.2;have y2:=oZ f.2.1;obtain⟨cq,d,a5⟩:=oV d;rw[az] at d;have Y:=qM f.1;refine xC (xP (xA 2 F rfl fun a F=>oN F rfl rfl e fun a F=>oF (s':=1) zV F rfl rfl e vU.f1 fun a cr b3 F=>aY isAgg25 F rfl rfl H.sm b3 fun a cs b4 F=>oL underlying25 F rfl rfl b4 fun a i5 F=>xA 1 F rfl fun a F=>oY ?_));refine xF (qV F rfl Y (xL (xF (xC ?_))));have j2:=fE (Nat.le_of_lt f.1) i5;have m2:=zC f.1 i5;refine xW (xC ?_);obtain⟨o4,d,b5⟩:=xK d;refine xX (fun a w=>∃ (s4:Bool),o4= .nx s4∧Sk a 118 [(1,z),(2,xG t),(3,xG i),(4,xG x),(5,xG j),(13,Q),(14,xG (y:Int)),(15,.bool G),(16,xG (A:Int)),(116,.bool s4)]∧Sep [] B n w []) ?_ ?_
     ·
      refine xU (xA 1 F rfl fun a F=>oN F rfl rfl e fun a F=>oF (s':=1) zV F rfl rfl e vU.f1 fun a ct b6 F=>aY isAgg25 F rfl rfl H.sm b6 fun a cu b7 F=>xA 1 F rfl fun a F=>oI underlying25 sizeOf2 F rfl rfl rfl b7 y2 fun a cv b8 F=>aN isAgg2 F rfl rfl H.sm b8 fun a i6 F=>xA 3 F rfl fun a F=>?_)
      rcases qU (Z==t) with J | J
      ·
       replace d:=vR J d;have F:=F.eb 78 rfl J;refine xA 1 F rfl fun a F=>oN F rfl rfl h fun a F=>oF (s':=1) vW F rfl rfl h qD.f1 fun a cw b9 F=>aY isAgg45 F rfl rfl H.sm b9 fun a cx ba F=>xA 1 F rfl fun a F=>oI underlying45 sizeOf25 F rfl rfl rfl ba R fun a cy bb F=>aY isAgg25 F rfl rfl H.sm bb fun a cz bc F=>xA 1 F rfl fun a F=>?_;obtain⟨z4,c5,d⟩:=xB d;refine oI underlying25 sizeOf2 F rfl rfl rfl bc c5 fun a d0 bd F=>aN isAgg2 F rfl rfl H.sm bd fun a i7 F=>xA 4 F rfl fun a F=>?_
       rcases qU (z4 != x) with K | K
       ·
        replace d:=vR K d;have F:=F.eb 92 rfl K;refine xA 11 F rfl fun a F=>?_;refine xA 11 F rfl fun a F=>?_;refine xA 2 F rfl fun a F=>xJ ?_;exact⟨true,(vE d),F.su,H⟩
       replace d:=vQ K d;have F:=F.eb 92 rfl K;refine xA 1 F rfl fun a F=>oN F rfl rfl e fun a F=>oF (s':=1) zV F rfl rfl e vU.f1 fun a d1 be F=>aY isAgg25 F rfl rfl H.sm be fun a d2 bf F=>xA 1 F rfl fun a F=>oI underlying25 sizeOf2 F rfl rfl rfl bf y2 fun a d3 bg F=>aN isAgg2 F rfl rfl H.sm bg fun a i8 F=>xA 3 F rfl fun a F=>?_
       rcases qU (Z==i) with M | M
       ·
        replace d:=vR M d;have F:=F.eb 102 rfl M;refine xA 1 F rfl fun a F=>oN F rfl rfl h fun a F=>oF (s':=1) vW F rfl rfl h qD.f1 fun a d4 bh F=>aY isAgg45 F rfl rfl H.sm bh fun a d5 bi F=>xA 1 F rfl fun a F=>oI underlying45 sizeOf25 F rfl rfl rfl bi R fun a d6 bj F=>aY isAgg25 F rfl rfl H.sm bj fun a d7 bm F=>xA 1 F rfl fun a F=>oI underlying25 sizeOf2 F rfl rfl rfl bm c5 fun a d8 bn F=>aN isAgg2 F rfl rfl H.sm bn fun a i9 F=>xA 1 F rfl fun a F=>?_;refine xA 3 F rfl fun a F=>xJ ?_;exact⟨(z4 != j),(vE d),F.su,H⟩
       replace d:=vQ M d;have F:=F.eb 102 rfl M;refine xA 11 F rfl fun a F=>?_;refine xA 3 F rfl fun a F=>xJ ?_;exact⟨false,(vE d),F.su,H⟩
      replace d:=vQ J d;have F:=F.eb 78 rfl J;refine xA 11 F rfl fun a F=>?_;refine xA 4 F rfl fun a F=>oN F rfl rfl e fun a F=>oF (s':=1) zV F rfl rfl e vU.f1 fun a d9 bp F=>aY isAgg25 F rfl rfl H.sm bp fun a da bq F=>xA 1 F rfl fun a F=>oI underlying25 sizeOf2 F rfl rfl rfl bq y2 fun a db br F=>aN isAgg2 F rfl rfl H.sm br fun a dc F=>xA 1 F rfl fun a F=>?_;refine xA 2 F rfl fun a F=>?_
      rcases qU (Z==i) with N | N
      ·
       replace d:=vR N d;have F:=F.eb 102 rfl N;refine xA 1 F rfl fun a F=>oN F rfl rfl h fun a F=>oF (s':=1) vW F rfl rfl h qD.f1 fun a dd bt F=>aY isAgg45 F rfl rfl H.sm bt fun a de bu F=>xA 1 F rfl fun a F=>oI underlying45 sizeOf25 F rfl rfl rfl bu R fun a df bv F=>aY isAgg25 F rfl rfl H.sm bv fun a dg bw F=>xA 1 F rfl fun a F=>?_;obtain⟨z5,c6,d⟩:=xB d;refine oI underlying25 sizeOf2 F rfl rfl rfl bw c6 fun a dh c0 F=>aN isAgg2 F rfl rfl H.sm c0 fun a di F=>xA 4 F rfl fun a F=>xJ ?_;exact⟨(z5 != j),(vE d),F.su,H⟩
      replace d:=vQ N d;have F:=F.eb 102 rfl N;refine xA 11 F rfl fun a F=>?_;refine xA 3 F rfl fun a F=>xJ ?_;exact⟨false,(vE d),F.su,H⟩
     rintro a w ⟨s4,rfl,F,H⟩
     have d:=xN b5;refine xF (qP F rfl (fun T=>?_) (fun T=>?_))
     ·
      replace d:=vR T d;refine xU (xA 1 F rfl fun a F=>oY (qS (xF (xU (xA 1 F rfl fun a F=>qQ F rfl rfl rfl m2 fun a F=>xA 1 F rfl fun a F=>xJ ?_)))));replace d:=qX d a5;exact⟨_,Nat.lt_succ_self _,A+1,C,false,⟨f.1,f.2.2⟩,rfl,d,F.su,H⟩
     replace d:=vQ T d;refine xL (qS (xF (xU (xA 1 F rfl fun a F=>qQ F rfl rfl rfl m2 fun a F=>xA 1 F rfl fun a F=>xJ ?_))));replace d:=qX d a5;exact⟨_,Nat.lt_succ_self _,A+1,C,G,⟨f.1,f.2.2⟩,rfl,d,F.su,H⟩
   rintro a w ⟨X,rfl,F,H⟩
   have d:=xN ax;refine xF (xP (xA 1 F rfl fun a F=>xJ (qP F rfl (fun U=>?_) (fun U=>?_))))
   ·
    replace d:=vR U d;refine xP (xA 1 F rfl fun a F=>xJ (xT (vJ (oE (oE ?_)))));replace d:=zR d a4;refine vJ (oE ?_);replace d:=zQ d a3;refine oE (xS F rfl (oD F rfl) ?_);obtain rfl:=oj d;exact⟨rfl,H.bl⟩
   replace d:=vQ U d;refine xL (qS (xF (xU (xA 1 F rfl fun a F=>qQ F rfl rfl rfl m1 fun a F=>xA 1 F rfl fun a F=>xJ ?_))));replace d:=qX d a4;exact⟨_,Nat.lt_succ_self _,y+1,D,⟨p.1,p.2.2⟩,rfl,d,F.su,H⟩
 rintro a w ⟨rfl,F,H⟩
 have d:=xN a3;refine xF (xP (xA 1 F rfl fun a F=>xJ (xT (xS F rfl (oD F rfl) ?_))));obtain rfl:=oj d;exact⟨rfl,H.bl⟩
def fO (N:Nat) (d:Template) (f:Instance):Option (List Rel):=
 vT (σ:=(List Rel)) (
  zH (σ:=(List Rel)) (ρ:=(List Rel)) (fun (i:Nat) (A:(List Rel))=>
   vT (σ:=(List Rel)) (
    zH (σ:=(List Rel)) (ρ:=(Ctl ((List Rel)) (List Rel))) (fun (B:Nat) (C:(List Rel))=>
     vT (σ:=Int×(List (List Int))) (
      cF (σ:=Int×(List (List Int))) (ρ:=(Ctl ((List Rel)) (Ctl ((List Rel)) (List Rel)))) (fun(s:Int×(List (List Int)))=>
        match s with
        | (c,h)=>
        xY (ck (d.size*d.size)) fun D=>
        if (decide (c<D)) then
         xY (dv c d.size) fun j=>
         xY (rm c d.size) fun n=>
         vT (σ:=Bool×Int) (
          cF (σ:=Bool×Int) (ρ:=(Ctl (Int×(List (List Int))) (Ctl ((List Rel)) (Ctl ((List Rel)) (List Rel))))) (fun(s:Bool×Int)=>
            match s with
            | (p,e)=>
            vT (σ:=Bool) (
             if (decide (e<(f.cons.length:Int))) then  some (.nx p) else  some (.nx false)) fun E=>
            if E then
             xY (ix f.cons e) fun F=>
             xY (eA d F (B:Int) (1+(i:Int)) j n) fun G=>
             xY (ck (e+1)) fun H=>
             some (.go (G,H))
            else
             some (.brk (p,e))) N (true,0)) fun(I,O)=>
         if I then
          xY (ap h ([[j,n]])) fun J=>
          xY (ck (c+1)) fun K=>
          some (.go (K,J))
         else
          xY (ck (c+1)) fun L=>
          some (.go (L,h))
        else
         some (.brk (c,h))) N (0,[])) fun(M,t)=>
     xY (ap C ([(Rel.mk 2 t)])) fun x=>
     some (.go x)) (1+(i:Int)).toNat 0 A) fun y=>
   some (.go y)) (f.vars - 1).toNat 0 []) fun z=>
 some z
theorem spec_l05First_c {B:Nat→Prop} {N:Nat} {x0:Template} {K:Instance} (r:(List Rel)) (d:fO N x0 K=some r) {i:Value} {j:Value} (e:World) (hN:∀ c,B c→c<e.heap.size) (x:Bo B e (Pt 2 xI) i x0) (C:Bo B e (Pt 2 xO) j K):Calls Tryz.prog 142 #[i,j] e (Gv (fun v w'=>∃ (ae:Value),v=ae∧Sep [] B e w' [rl 2 qD 51 ae r])):=by
 unfold fO at d
 refine xV (L:=[(0,i),(1,j)]) func142 rfl rfl rfl (sc rfl (sc rfl sn)) (fun a F=>?_);have H:=Sep.start hN;refine xP (xA 1 F rfl fun a F=>qO (oR0 (R:=qD) underlying29 sizeOf51 F rfl H fun a w v2 H F=>xA 1 F rfl fun a F=>xJ ?_));refine xC (xP (xA 1 F rfl fun a F=>xJ ?_));obtain⟨o1,d,ax⟩:=xK d;refine xX (fun a w=>∃ (s1:List Rel) (U:Value),o1= .nx s1∧Sk a 92 [(5,U)]∧Sep [] B e w [rl 2 qD 51 U s1]) ?_ ?_
 ·
  refine xW ?_;obtain⟨ay,az,d⟩:=zG d;refine oU (fun g a w=>∃ (f:Nat) (M:List Rel) (O:Value),f+g=(K.vars - 1).toNat∧zH ay g f M=some o1∧Sk a 92 [(6,xG (1+(f:Int))),(0,i),(1,j),(5,O)]∧Sep [] B e w [rl 2 qD 51 O M]) (K.vars - 1).toNat ?_ ?_
  ·
   exact⟨0,[],v2,(Nat.zero_add _),d,F.su,H⟩
  intro g1 a w ⟨f,M,O,S,d,F,H⟩
  cases g1 with
  | zero=>
   replace d:=vY d;have l1:=dec_noIO S;refine xC (xP (xA 2 F rfl fun a F=>oN F rfl rfl C fun a F=>oF (s':=1) kD F rfl rfl C xO.f0 fun a p1 h1 F=>aN isAgg2 F rfl rfl H.sm h1 fun a i1 F=>xA 1 F rfl fun a F=>xJ ?_));refine qT F rfl l1 (oM (oR (oR (vH (xF ?_)))));exact⟨M,O,(vE d),F.su,H⟩
  | succ g1=>
   obtain⟨ce,d,b0⟩:=vX d;rw[az] at d;have l1:=dec_yesIO S;refine xC (xP (xA 2 F rfl fun a F=>oN F rfl rfl C fun a F=>oF (s':=1) kD F rfl rfl C xO.f0 fun a p2 h2 F=>aN isAgg2 F rfl rfl H.sm h2 fun a i2 F=>xA 1 F rfl fun a F=>xJ ?_));refine qV F rfl l1 (xL (xF (xC ?_)));have j1:=k64O S (show xZ (1) by decide) i2;have m1:=inc64O S (show xZ (1) by decide) i2;refine xW (xP (xA 1 F rfl fun a F=>xJ ?_));obtain⟨o2,d,b1⟩:=xK d;refine xX (fun a w=>∃ (V:List Rel) (W:Value),o2= .nx V∧Sk a 92 [(0,i),(1,j),(5,W),(6,xG (1+(f:Int)))]∧Sep [] B e w [rl 2 qD 51 W V]) ?_ ?_
   ·
    refine xW ?_;obtain⟨b2,b3,d⟩:=zG d;refine oU (fun g a w=>∃ (p:Nat) (A:List Rel) (h:Value),p+g=(1+(f:Int)).toNat∧zH b2 g p A=some o2∧Sk a 92 [(7,xG (p:Int)),(0,i),(1,j),(5,h),(6,xG (1+(f:Int)))]∧Sep [] B e w [rl 2 qD 51 h A]) (1+(f:Int)).toNat ?_ ?_
    ·
     exact⟨0,M,O,(Nat.zero_add _),d,F.su,H⟩
    intro g2 a w ⟨p,A,h,T,d,F,H⟩
    cases g2 with
    | zero=>
     replace d:=vY d;have l2:=kT T;refine xC (xP (xA 3 F rfl fun a F=>xJ (qT F rfl l2 (oM (oR ?_)))));refine oR (vH (xF ?_));exact⟨A,h,(vE d),F.su,H⟩
    | succ g2=>
     obtain⟨cf,d,b4⟩:=vX d;rw[b3] at d;have l2:=zW T;refine xC (xP (xA 3 F rfl fun a F=>xJ (qV F rfl l2 (xL (xF ?_)))));refine xC ?_;have j2:=k64I T j1;have m2:=bC T j1;refine xW (xP (kV underlying51 zeroValue51 (fun w=>by simp [sizeOf2,sizeOf45];rfl) F rfl rfl rfl rfl rfl (oc rfl on) rfl rfl fun a F=>oA zeroValue51 F rfl rfl H fun a w t H F=>oWA (vs:=[xG 2,aE]) sizeOf51 F rfl rfl rfl H (oc rfl (oc rfl on)) rfl rfl fun w H=>xJ (xC (xP ?_))));refine xA 1 F rfl fun a F=>xJ ?_;obtain⟨o3,d,b5⟩:=xK d;refine xX (fun a w=>∃ (s5:Int) (X:List (List Int)) (v7:Value),o3= .nx (s5,X)∧Sk a 92 [(0,i),(1,j),(5,h),(6,xG (1+(f:Int))),(7,xG (p:Int)),(8,vK t)]∧Sep [] B e w [rl 1 (vO 1 xH) 25 v7 X,bx t [xG 2,v7] 51,rl 2 qD 51 h A]∧xZ s5) ?_ ?_
     ·
      refine xW ?_;obtain⟨b6,b7,d⟩:=kU d;refine oU (fun g a w=>∃ (D:Int) (E:List (List Int)) (n:Value),cF b6 g (D,E)=some o3∧Sk a 92 [(0,i),(1,j),(5,h),(6,xG (1+(f:Int))),(7,xG (p:Int)),(8,vK t),(9,xG D)]∧Sep [] B e w [rl 1 (vO 1 xH) 25 n E,bx t [xG 2,n] 51,rl 2 qD 51 h A]∧xZ D) N ?_ ?_
      ·
       exact⟨0,[],aE,d,F.su,(H.nl 1 (vO 1 xH) 25),(show xZ (0) by decide)⟩
      intro g3 a w ⟨D,E,n,d,F,H,i3⟩;obtain⟨cg,t1,ch,d,Y⟩:=zK d;rw[b7] at d;refine xC (xC (xQ H (by kernel_rfl) (by kernel_rfl) (xR F rfl (fun w l=>xM F rfl) fun a F=>xR F rfl (fun w l=>xM F rfl) fun a F=>qN F rfl rfl x fun a F=>qF (s':=1) dA F rfl rfl x xI.f0 fun a p3 h3 F=>iB isAgg2 F rfl rfl H.q h3 fun a i4 F=>xR F rfl (fun w l=>xM F rfl) fun a F=>qN F rfl rfl x fun a F=>qF (s':=1) dA F rfl rfl x xI.f0 (fun a p4 h4 F=>?_))));refine iB isAgg2 F rfl rfl H.q h4 (fun a i5 F=>?_);obtain⟨z1,c1,d⟩:=xB d;refine xR F rfl (fun w l=>r_mul F rfl rfl c1) fun a F=>xR F rfl (fun w l=>r_lss F rfl rfl) fun a F=>kA fun w H=>xF (qP F rfl (fun Z=>?_) (fun Z=>?_))
      ·
       replace d:=vR Z d;refine xL (xF (xC (xW (xP (xA 2 F rfl fun a F=>oN F rfl rfl x fun a F=>oF (s':=1) dA F rfl rfl x xI.f0 fun a p5 h5 F=>aN isAgg2 F rfl rfl H.sm h5 (fun a i6 F=>?_))))));obtain⟨P,c2,d⟩:=xB d;refine o_quo F rfl rfl rfl c2 fun a F=>xA 1 F rfl fun a F=>qO (xA 2 F rfl fun a F=>oN F rfl rfl x fun a F=>oF (s':=1) dA F rfl rfl x xI.f0 fun a p6 h6 F=>aN isAgg2 F rfl rfl H.sm h6 (fun a i7 F=>?_));obtain⟨Q,c3,d⟩:=xB d;refine o_rem F rfl rfl rfl c3 fun a F=>xA 1 F rfl fun a F=>qO (xA 1 F rfl fun a F=>xJ (xC (xC ?_)));refine xU (xA 1 F rfl fun a F=>xJ ?_);obtain⟨o4,d,b8⟩:=xK d;refine xX (fun a w=>∃ (s9:Bool) (a0:Int),o4= .nx (s9,a0)∧Sk a 92 [(0,i),(1,j),(5,h),(6,xG (1+(f:Int))),(7,xG (p:Int)),(8,vK t),(9,xG D),(10,xG P),(11,xG Q),(12,.bool s9)]∧Sep [] B e w [rl 1 (vO 1 xH) 25 n E,bx t [xG 2,n] 51,rl 2 qD 51 h A]∧xZ a0) ?_ ?_
       ·
        refine xW ?_;obtain⟨b9,ba,d⟩:=kU d;refine oU (fun g a w=>∃ (I:Bool) (G:Int),cF b9 g (I,G)=some o4∧Sk a 92 [(0,i),(1,j),(5,h),(6,xG (1+(f:Int))),(7,xG (p:Int)),(8,vK t),(9,xG D),(10,xG P),(11,xG Q),(12,.bool I),(13,xG G)]∧Sep [] B e w [rl 1 (vO 1 xH) 25 n E,bx t [xG 2,n] 51,rl 2 qD 51 h A]∧xZ G) N ?_ ?_
        ·
         exact⟨true,0,d,F.su,H,(show xZ (0) by decide)⟩
        intro g4 a w ⟨I,G,d,F,H,i8⟩;obtain⟨ci,t2,cj,d,af⟩:=zK d;rw[ba] at d;refine xC (xC ?_);obtain⟨o5,d,bb⟩:=xK d;refine xX (fun a w=>∃ (a1:Bool),o5= .nx a1∧Sk a 92 [(0,i),(1,j),(5,h),(6,xG (1+(f:Int))),(7,xG (p:Int)),(8,vK t),(9,xG D),(10,xG P),(11,xG Q),(12,.bool I),(13,xG G),(63,.bool a1)]∧Sep [] B e w [rl 1 (vO 1 xH) 25 n E,bx t [xG 2,n] 51,rl 2 qD 51 h A]) ?_ ?_
        ·
         refine xU (xA 2 F rfl fun a F=>oN F rfl rfl C fun a F=>oF (s':=1) bU F rfl rfl C xO.f1 fun a p7 h7 F=>aY isAgg33 F rfl rfl H.sm h7 fun a v9 h8 F=>oL underlying33 F rfl rfl h8 fun a i9 F=>xA 2 F rfl fun a F=>?_)
         rcases qU (decide (G<(K.cons.length:Int))) with J | J
         ·
          replace d:=vR J d;have F:=F.eb 61 rfl J;refine xA 2 F rfl fun a F=>xJ ?_;exact⟨I,(vE d),F.su,H⟩
         replace d:=vQ J d;have F:=F.eb 61 rfl J;refine xA 2 F rfl fun a F=>xJ ?_;exact⟨false,(vE d),F.su,H⟩
        rintro a w ⟨a1,rfl,F,H⟩
        have d:=xN bb;refine xF (qP F rfl (fun a2=>?_) (fun a2=>?_))
        ·
         replace d:=vR a2 d;refine xL (xF (xC (xW (xU (xA 2 F rfl fun a F=>oN F rfl rfl C fun a F=>oF (s':=1) bU F rfl rfl C xO.f1 fun a p8 h9 F=>aY isAgg33 F rfl rfl H.sm h9 fun a cl bc F=>xA 1 F rfl fun a F=>?_)))));obtain⟨z4,c4,d⟩:=xB d;refine oI underlying33 sizeOf119 F rfl rfl rfl bc c4 fun a p9 bd F=>xA 4 F rfl fun a F=>?_;obtain⟨z5,c5,d⟩:=xB d;refine oK F rfl call172 rfl H (spec_l05Tells_c z5 c5 _ aA (H.a x) (H.a bd) j2 j1 (dv64 c2) (rm64 c3 i3 i7)) fun a w H F=>xA 1 F rfl fun a F=>oY (qS (xF (xU (xA 1 F rfl fun a F=>?_))));obtain⟨z6,c6,d⟩:=xB d;refine kI F rfl rfl rfl c6 fun a F=>xA 1 F rfl fun a F=>xJ ?_;replace d:=qX d af;exact⟨t2,(by omega),z5,z6,d,F.su,H,(kG c6)⟩
        replace d:=vQ a2 d;refine oM (oR (oR ?_));replace d:=eL d af;refine vH (xF ?_);exact⟨I,G,(vE d),F.su,H,i8⟩
       rintro a w ⟨s9,a0,rfl,F,H,cm⟩
       have d:=xN b8;refine xF (xP (xA 1 F rfl fun a F=>xJ (qP F rfl (fun a3=>?_) (fun a3=>?_))))
       ·
        replace d:=vR a3 d;refine xU (oH vW F rfl rfl rfl fun a F=>oB isAgg45 F rfl rfl (H.b 1 rfl) rfl fun a F=>xA 2 F rfl fun a F=>oRI (xs:=[.tmp 81,.tmp 82]) (l:=[P,Q]) underlying25 sizeOf2 zeroValue2 rfl F rfl rfl rfl rfl rfl rfl (by simp only[List.forall_mem_cons,List.not_mem_nil,false_implies,implies_true,and_true];exact⟨(dv64 c2),(rm64 c3 i3 i7)⟩) H (fun a w cn H F=>?_));have H:=H.os;refine oR1L (R:=(vO 1 xH)) (y:=[P,Q]) underlying45 sizeOf25 zeroValue25 rfl rfl F rfl rfl H El.sl (fun a w co H F=>?_);obtain⟨z7,c7,d⟩:=xB d;refine oPL (sz:=1) (R:=(vO 1 xH)) (z:=(aE)) (bytes:=24) underlying45 (by kernel_rfl) rfl rfl F rfl rfl rfl (H.s [1,0,2,3] rfl rfl) c7 fun a w be H F=>oH vW F rfl rfl rfl fun a F=>oW sizeOf45 F rfl rfl rfl (H.s [1,0,2] rfl rfl) ((H.s [1,0,2] rfl rfl).l 1 rfl).one rfl rfl fun w H=>oY (qS (xF (xU (xA 1 F rfl fun a F=>?_))));obtain⟨z8,c8,d⟩:=xB d;refine kI F rfl rfl rfl c8 fun a F=>xA 1 F rfl fun a F=>xJ ?_;replace d:=qX d Y;exact⟨t1,(by omega),z8,z7,be,d,F.su,(H.s [1,0,2] rfl rfl),(kG c8)⟩
       replace d:=vQ a3 d;refine xL (qS (xF (xU (xA 1 F rfl fun a F=>?_))));obtain⟨z9,c9,d⟩:=xB d;refine kI F rfl rfl rfl c9 fun a F=>xA 1 F rfl fun a F=>xJ ?_;replace d:=qX d Y;exact⟨t1,(by omega),z9,E,n,d,F.su,H,(kG c9)⟩
      replace d:=vQ Z d;refine oM (oR (oR ?_));replace d:=eL d Y;refine vH (xF ?_);exact⟨D,E,n,(vE d),F.su,H,i3⟩
     rintro a w ⟨s5,X,v7,rfl,F,H,cp⟩
     have d:=xN b5;refine xF (xU (xA 1 F rfl fun a F=>fU isAgg51 sizeOf51 F rfl rfl (H.b 1 rfl) rfl rfl (fun a F=>?_)));have H:=(qD.w (show xZ (2) by decide) H);refine oR1L (R:=qD) (y:=(Rel.mk 2 X)) underlying29 sizeOf51 zeroValue51 rfl rfl F rfl rfl H El.agg (fun a w cq H F=>?_);obtain⟨bf,bg,d⟩:=xB d;refine oPL (sz:=2) (R:=qD) (z:=(.agg #[xG 0,aE])) (bytes:=32) underlying29 (by kernel_rfl) rfl rfl F rfl rfl rfl (H.s [2,0,1] rfl rfl) bg fun a w bh H F=>xA 1 F rfl fun a F=>oY (qS (xF (xU (xA 1 F rfl fun a F=>qQ F rfl rfl rfl m2 fun a F=>xA 1 F rfl fun a F=>xJ ?_))));replace d:=qX d b4;exact⟨_,Nat.lt_succ_self _,p+1,bf,bh,(by omega),d,F.su,(H.s [0] rfl rfl)⟩
   rintro a w ⟨V,W,rfl,F,H⟩
   have d:=xN b1;refine qS (xF (xU (xA 1 F rfl fun a F=>o_incO F rfl rfl rfl m1 fun a F=>xA 1 F rfl fun a F=>xJ ?_)));replace d:=qX d b0;exact⟨_,Nat.lt_succ_self _,f+1,V,W,(by omega),d,F.su,H⟩
 rintro a w ⟨s1,U,rfl,F,H⟩
 have d:=xN ax;refine xF (xP (xA 2 F rfl fun a F=>xJ (xT (xS F rfl (oD F rfl) ?_))));obtain rfl:=oj d;exact⟨_,rfl,U,rfl,H⟩
def eB (d c:Int):Option Int:=
 xY (ck (c - 1)) fun e=>
 xY (ck (c*e)) fun f=>
 xY (dv f 2) fun h=>
 xY (ck (h+d)) fun i=>
 some i
theorem iC {B:Nat→Prop} {e f:Int} (r:Int) (d:eB e f=some r)  (h:World) (n:∀ c,B c→c<h.heap.size) (x:xZ e) (y:xZ f):Calls Tryz.prog 174 #[xG e,xG f] h (dW r h):=by
 unfold eB at d
 refine xV (L:=[(0,xG e),(1,xG f)]) func174 rfl rfl rfl (sc rfl (sc rfl sn)) (fun a F=>?_);have H:=Sep.start n;refine xP (xA 1 F rfl fun a F=>qO (xA 2 F rfl fun a F=>?_));obtain⟨z,p,d⟩:=xB d;refine iS F rfl rfl rfl p (fun a F=>?_);obtain⟨A,t,d⟩:=xB d;refine o_mul F rfl rfl rfl t (fun a F=>?_);obtain⟨C,j,d⟩:=xB d;refine o_quo F rfl rfl rfl j fun a F=>xA 1 F rfl fun a F=>?_;obtain⟨D,i,d⟩:=xB d;refine kI F rfl rfl rfl i fun a F=>xA 1 F rfl fun a F=>xJ (xT (xS F rfl (oD F rfl) ?_));obtain rfl:=oj d;exact⟨⟨rfl,H.bl⟩,(kG i)⟩
def kM (e:List Rel) (c d f h:Int):Option Bool:=
 if (decide (d<c)) then
  xY (eB d c) fun i=>
  xY (ix e i) fun j=>
  xY (eV j ([h,f])) fun n=>
  some n
 else
  xY (eB c d) fun p=>
  xY (ix e p) fun t=>
  xY (eV t ([f,h])) fun x=>
  some x
theorem spec_l05Left_c {B:Nat→Prop} {A:List Rel} {h i e f:Int} (r:Bool) (d:kM A h i e f=some r) {p:Value} (j:World) (D:∀ c,B c→c<j.heap.size) (C:Bo B j (Sl 2 qD) p A) (t:xZ h) (x:xZ i) (y:xZ e) (z:xZ f):Calls Tryz.prog 144 #[p,xG h,xG i,xG e,xG f] j (zO (.bool r) j):=by
 unfold kM at d
 refine xV (L:=[(0,p),(1,xG h),(2,xG i),(3,xG e),(4,xG f)]) func144 rfl rfl rfl (sc rfl (sc rfl (sc rfl (sc rfl (sc rfl sn))))) (fun a F=>?_);have H:=Sep.start D;refine xP (xA 1 F rfl fun a F=>xJ (xC (xP (xA 3 F rfl fun a F=>?_))));refine xJ (qP F rfl (fun n=>?_) (fun n=>?_))
 ·
  replace d:=vR n d;refine xP (xA 3 F rfl fun a F=>?_);obtain⟨E,G,d⟩:=xB d;refine oKI F rfl call174 rfl H (iC E G _ aA x t) (fun a w H T F=>?_);obtain⟨W,I,d⟩:=xB d;refine oI underlying29 sizeOf51 F rfl rfl rfl C I fun a U J F=>xA 2 F rfl fun a F=>oRI (xs:=[.tmp 19,.tmp 20]) (l:=[f,e]) underlying25 sizeOf2 zeroValue2 rfl F rfl rfl rfl rfl rfl rfl (by simp only[List.forall_mem_cons,List.not_mem_nil,false_implies,implies_true,and_true];exact⟨z,y⟩) H (fun a w X H F=>?_);obtain⟨K,M,d⟩:=xB d;refine oK F rfl call46 rfl H (spec_l01Has_c K M _ aA (H.a J) (H.l 0 rfl)) fun a w H F=>xA 1 F rfl fun a F=>xJ (xT (oE (xS F rfl (oD F rfl) ?_)));obtain rfl:=oj d;exact⟨rfl,H.bl⟩
 replace d:=vQ n d;refine xL (xF (xP (xA 3 F rfl fun a F=>?_)));obtain⟨N,O,d⟩:=xB d;refine oKI F rfl call174 rfl H (iC N O _ aA t x) (fun a w H V F=>?_);obtain⟨Y,P,d⟩:=xB d;refine oI underlying29 sizeOf51 F rfl rfl rfl C P fun a Z Q F=>xA 2 F rfl fun a F=>oRI (xs:=[.tmp 28,.tmp 29]) (l:=[e,f]) underlying25 sizeOf2 zeroValue2 rfl F rfl rfl rfl rfl rfl rfl (by simp only[List.forall_mem_cons,List.not_mem_nil,false_implies,implies_true,and_true];exact⟨y,z⟩) H (fun a w v2 H F=>?_);obtain⟨R,S,d⟩:=xB d;refine oK F rfl call46 rfl H (spec_l01Has_c R S _ aA (H.a Q) (H.l 0 rfl)) fun a w H F=>xA 1 F rfl fun a F=>xJ (xT (xS F rfl (oD F rfl) ?_));obtain rfl:=oj d;exact⟨rfl,H.bl⟩
def aG (N:Nat) (c:Rel):Option (List (List Int)):=
 xY (ck (c.arity+1)) fun f=>
 xY (kC N 2 f) fun t=>
 vT (σ:=(List (List Int))) (
  zH (σ:=(List (List Int))) (ρ:=(List (List Int))) (fun(x:Nat) (h:(List (List Int)))=>
   xY (aT N 2 f (1+(x:Int))) fun e=>
   vT (σ:=Bool×Int) (
    cF (σ:=Bool×Int) (ρ:=(Ctl ((List (List Int))) (List (List Int)))) (fun(s:Bool×Int)=>
      match s with
      | (i,d)=>
      vT (σ:=Bool) (
       if (decide (d<(c.tuples.length:Int))) then  some (.nx i) else  some (.nx false)) fun y=>
      if y then
       xY (ix e c.arity) fun z=>
       vT (σ:=Int) (
        zH (σ:=Int) (ρ:=(Ctl (Bool×Int) (Ctl ((List (List Int))) (List (List Int))))) (fun (j:Nat) (A:Int)=>
         xY (ix e (j:Int)) fun B=>
         xY (ix c.tuples d) fun C=>
         xY (ix C (j:Int)) fun D=>
         xY (ck (B*D)) fun E=>
         xY (ck (A+E)) fun F=>
         some (.go F)) c.arity.toNat 0 z) fun G=>
       xY (rm G 2) fun H=>
       xY (ck (d+1)) fun n=>
       some (.go ((H==0),n))
      else
       some (.brk (i,d))) N (true,0)) fun(I,K)=>
   if I then
    xY (ap h ([e])) fun p=>
    some (.go p)
   else
    some (.go h)) (t - 1).toNat 0 []) fun J=>
 some J
theorem spec_l09Equations_c {B:Nat→Prop} {N:Nat} {E:Rel} (r:(List (List Int))) (d:aG N E=some r) {p:Value} (h:World) (hN:∀ c,B c→c<h.heap.size) (e:Bo B h (Pt 2 qD) p E):Calls Tryz.prog 64 #[p] h (Gv (fun v w'=>∃ (a1:Value),v=a1∧Sep [] B h w' [rl 1 (vO 1 xH) 25 a1 r])):=by
 unfold aG at d
 refine xV (L:=[(0,p)]) func64 rfl rfl rfl (sc rfl sn) (fun a F=>?_);have H:=Sep.start hN;refine xP (xA 1 F rfl fun a F=>qO (oR0 (R:=(vO 1 xH)) underlying45 sizeOf25 F rfl H fun a w v1 H F=>xA 1 F rfl fun a F=>xJ ?_));refine xC (xP (xA 1 F rfl fun a F=>xJ ?_));obtain⟨z16,A,d⟩:=xB d;obtain⟨M,c2,d⟩:=xB d;obtain⟨o1,d,ae⟩:=xK d;refine xX (fun a w=>∃ (V:List (List Int)) (O:Value),o1= .nx V∧Sk a 81 [(3,O)]∧Sep [] B h w [rl 1 (vO 1 xH) 25 O V]) ?_ ?_
 ·
  refine xW ?_;obtain⟨af,ag,d⟩:=zG d;refine oU (fun g a w=>∃ (i:Nat) (j:List (List Int)) (f:Value),i+g=(M - 1).toNat∧zH af g i j=some o1∧Sk a 81 [(4,xG (1+(i:Int))),(0,p),(3,f)]∧Sep [] B h w [rl 1 (vO 1 xH) 25 f j]) (M - 1).toNat ?_ ?_
  ·
   exact⟨0,[],v1,(Nat.zero_add _),d,F.su,H⟩
  intro g1 a w ⟨i,j,f,J,d,F,H⟩
  cases g1 with
  | zero=>
   replace d:=vY d;have W:=dec_noIO J;refine xC (xP (xA 2 F rfl fun a F=>oN F rfl rfl e fun a F=>oF (s':=1) cB F rfl rfl e qD.f0 fun a p1 h1 F=>aN isAgg2 F rfl rfl H.sm h1 fun a i1 F=>kI F rfl rfl rfl A fun a F=>oKI F rfl call66 rfl H (cE M c2 _ aA (show xZ (2) by decide) (kG A)) fun a w H Q F=>xA 1 F rfl fun a F=>?_));refine xJ (qT F rfl W (oM (oR (oR (vH (xF ?_))))));exact⟨j,f,(vE d),F.su,H⟩
  | succ g1=>
   obtain⟨ck1,d,a2⟩:=vX d;rw[ag] at d;have W:=dec_yesIO J;refine xC (xP (xA 2 F rfl fun a F=>oN F rfl rfl e fun a F=>oF (s':=1) cB F rfl rfl e qD.f0 fun a p2 h2 F=>aN isAgg2 F rfl rfl H.sm h2 fun a i2 F=>kI F rfl rfl rfl A fun a F=>oKI F rfl call66 rfl H (cE M c2 _ aA (show xZ (2) by decide) (kG A)) fun a w H Q F=>xA 1 F rfl fun a F=>?_));refine xJ (qV F rfl W (xL (xF (xC ?_))));have j1:=k64O J (show xZ (1) by decide) Q;have m1:=inc64O J (show xZ (1) by decide) Q;refine xW (xP (xA 1 F rfl fun a F=>oN F rfl rfl e fun a F=>oF (s':=1) cB F rfl rfl e qD.f0 fun a p3 h3 F=>aN isAgg2 F rfl rfl H.sm h3 fun a i3 F=>kI F rfl rfl rfl A fun a F=>xA 1 F rfl fun a F=>?_));obtain⟨x,c3,d⟩:=xB d;refine oG F rfl call68 rfl (bH x c3 _ aA (show xZ (2) by decide) (kG A) j1) (fun a vv w ⟨n,hv1,S⟩ F=>?_);subst vv;have H:=H.r1 S n0;refine xA 1 F rfl fun a F=>qO (xA 1 F rfl fun a F=>xJ (xC (xP ?_)));refine xA 1 F rfl fun a F=>xJ ?_;obtain⟨o2,d,ah⟩:=xK d;refine xX (fun a w=>∃ (X:Bool) (Y:Int),o2= .nx (X,Y)∧Sk a 81 [(0,p),(3,f),(4,xG (1+(i:Int))),(5,n),(6,.bool X)]∧Sep [] B h w [rl 1 xH 2 n x,rl 1 (vO 1 xH) 25 f j]∧xZ Y) ?_ ?_
   ·
    refine xW ?_;obtain⟨ai,aj,d⟩:=kU d;refine oU (fun g a w=>∃ (C:Bool) (t:Int),cF ai g (C,t)=some o2∧Sk a 81 [(0,p),(3,f),(4,xG (1+(i:Int))),(5,n),(6,.bool C),(7,xG t)]∧Sep [] B h w [rl 1 xH 2 n x,rl 1 (vO 1 xH) 25 f j]∧xZ t) N ?_ ?_
    ·
     exact⟨true,0,d,F.su,H,(show xZ (0) by decide)⟩
    intro g2 a w ⟨C,t,d,F,H,i4⟩;obtain⟨ck2,t1,hg1,d,a3⟩:=zK d;rw[aj] at d;refine xC (xC ?_);obtain⟨o3,d,ak⟩:=xK d;refine xX (fun a w=>∃ (Z:Bool),o3= .nx Z∧Sk a 81 [(0,p),(3,f),(4,xG (1+(i:Int))),(5,n),(6,.bool C),(7,xG t),(37,.bool Z)]∧Sep [] B h w [rl 1 xH 2 n x,rl 1 (vO 1 xH) 25 f j]) ?_ ?_
    ·
     refine xU (xA 2 F rfl fun a F=>oN F rfl rfl e fun a F=>oF (s':=1) vW F rfl rfl e qD.f1 fun a p4 h4 F=>aY isAgg45 F rfl rfl H.sm h4 fun a v5 h5 F=>oL underlying45 F rfl rfl h5 fun a i5 F=>xA 2 F rfl fun a F=>?_)
     rcases qU (decide (t<(E.tuples.length:Int))) with D | D
     ·
      replace d:=vR D d;have F:=F.eb 35 rfl D;refine xA 2 F rfl fun a F=>xJ ?_;exact⟨C,(vE d),F.su,H⟩
     replace d:=vQ D d;have F:=F.eb 35 rfl D;refine xA 2 F rfl fun a F=>xJ ?_;exact⟨false,(vE d),F.su,H⟩
    rintro a w ⟨Z,rfl,F,H⟩
    have d:=xN ak;refine xF (qP F rfl (fun T=>?_) (fun T=>?_))
    ·
     replace d:=vR T d;refine xL (xF (xC (xW (xP (xA 2 F rfl fun a F=>oN F rfl rfl e fun a F=>oF (s':=1) cB F rfl rfl e qD.f0 fun a p5 h6 F=>aN isAgg2 F rfl rfl H.sm h6 (fun a i6 F=>?_))))));obtain⟨z3,c4,d⟩:=xB d;refine oI underlying25 sizeOf2 F rfl rfl rfl (H.l 0 rfl) c4 fun a p6 h7 F=>aN isAgg2 F rfl rfl (Sm.refl _ _) h7 fun a i7 F=>xA 1 F rfl fun a F=>xJ (xC (xP (xA 1 F rfl fun a F=>xJ ?_)));obtain⟨o4,d,al⟩:=xK d;refine xX (fun a w=>∃ (P:Int),o4= .nx P∧Sk a 81 [(0,p),(3,f),(4,xG (1+(i:Int))),(5,n),(7,xG t),(8,xG P)]∧Sep [] B h w [rl 1 xH 2 n x,rl 1 (vO 1 xH) 25 f j]∧xZ P) ?_ ?_
     ·
      refine xW ?_;obtain⟨am,an,d⟩:=zG d;refine oU (fun g a w=>∃ (G:Nat) (I:Int),G+g=E.arity.toNat∧zH am g G I=some o4∧Sk a 81 [(9,xG (G:Int)),(0,p),(3,f),(4,xG (1+(i:Int))),(5,n),(7,xG t),(8,xG I)]∧Sep [] B h w [rl 1 xH 2 n x,rl 1 (vO 1 xH) 25 f j]∧xZ I) E.arity.toNat ?_ ?_
      ·
       exact⟨0,z3,(Nat.zero_add _),d,F.su,H,i7⟩
      intro g3 a w ⟨G,I,K,d,F,H,i8⟩
      cases g3 with
      | zero=>
       replace d:=vY d;have l2:=kT K;refine xC (xP (xA 2 F rfl fun a F=>oN F rfl rfl e fun a F=>oF (s':=1) cB F rfl rfl e qD.f0 fun a p7 h8 F=>aN isAgg2 F rfl rfl H.sm h8 fun a i9 F=>xA 1 F rfl fun a F=>xJ ?_));refine qT F rfl l2 (oM (oR (oR (vH (xF ?_)))));exact⟨I,(vE d),F.su,H,i8⟩
      | succ g3=>
       obtain⟨ck3,d,ao⟩:=vX d;rw[an] at d;have l2:=zW K;refine xC (xP (xA 2 F rfl fun a F=>oN F rfl rfl e fun a F=>oF (s':=1) cB F rfl rfl e qD.f0 fun a p8 h9 F=>aN isAgg2 F rfl rfl H.sm h9 fun a a4 F=>xA 1 F rfl fun a F=>xJ ?_));refine qV F rfl l2 (xL (xF (xC ?_)));have j2:=k64I K a4;have m2:=bC K a4;refine xW (xQ H (by kernel_rfl) (by kernel_rfl) (xR F rfl (fun w l=>xM F rfl) fun a F=>xR F rfl (fun w l=>xM F rfl) fun a F=>xR F rfl (fun w l=>xM F rfl) (fun a F=>?_)));obtain⟨z4,c5,d⟩:=xB d;refine qI underlying25 sizeOf2 F rfl rfl rfl (H.l 0 rfl) c5 fun a p9 aq F=>iB isAgg2 F rfl rfl qA aq fun a i11 F=>xR F rfl (fun w l=>xM F rfl) fun a F=>qN F rfl rfl e fun a F=>qF (s':=1) vW F rfl rfl e qD.f1 fun a p10 ar F=>qlS isAgg45 F rfl rfl H.q ar fun a v6 au F=>xR F rfl (fun w l=>xM F rfl) (fun a F=>?_);obtain⟨z5,c6,d⟩:=xB d;refine qI underlying45 sizeOf25 F rfl rfl rfl au c6 fun a ca av F=>qlS isAgg25 F rfl rfl H.q av fun a v7 aw F=>xR F rfl (fun w l=>xM F rfl) (fun a F=>?_);obtain⟨z6,c7,d⟩:=xB d;refine qI underlying25 sizeOf2 F rfl rfl rfl aw c7 fun a cb ax F=>iB isAgg2 F rfl rfl H.q ax (fun a cc F=>?_);obtain⟨z7,c8,d⟩:=xB d;refine xR F rfl (fun w l=>r_mul F rfl rfl c8) (fun a F=>?_);obtain⟨z8,c9,d⟩:=xB d;refine xR F rfl (fun w l=>r_add F rfl rfl c9) fun a F=>xR F rfl (fun w l=>zM F rfl) fun a F=>kA fun w H=>qS (xF (xU (xA 1 F rfl fun a F=>qQ F rfl rfl rfl m2 fun a F=>xA 1 F rfl fun a F=>xJ ?_)));replace d:=qX d ao;exact⟨_,Nat.lt_succ_self _,G+1,z8,(by omega),d,F.su,H,(kG c9)⟩
     rintro a w ⟨P,rfl,F,H,cd⟩
     have d:=xN al;refine xF (xU (xA 1 F rfl fun a F=>?_));obtain⟨z9,ay,d⟩:=xB d;refine o_rem F rfl rfl rfl ay fun a F=>xA 2 F rfl fun a F=>oY (qS (xF (xU (xA 1 F rfl fun a F=>?_))));obtain⟨az,a5,d⟩:=xB d;refine kI F rfl rfl rfl a5 fun a F=>xA 1 F rfl fun a F=>xJ ?_;replace d:=qX d a3;exact⟨t1,(by omega),(z9==0),az,d,F.su,H,(kG a5)⟩
    replace d:=vQ T d;refine oM (oR (oR ?_));replace d:=eL d a3;refine vH (xF ?_);exact⟨C,t,(vE d),F.su,H,i4⟩
   rintro a w ⟨X,Y,rfl,F,H,ce⟩
   have d:=xN ah;refine xF (xP (xA 1 F rfl fun a F=>xJ (qP F rfl (fun U=>?_) (fun U=>?_))))
   ·
    replace d:=vR U d;refine xU (xA 2 F rfl fun a F=>?_);have H:=H.os;refine oR1L (R:=(vO 1 xH)) (y:=x) underlying45 sizeOf25 zeroValue25 rfl rfl F rfl rfl H El.sl (fun a w v8 H F=>?_);obtain⟨b0,b1,d⟩:=xB d;refine oPL (sz:=1) (R:=(vO 1 xH)) (z:=(aE)) (bytes:=24) underlying45 (by kernel_rfl) rfl rfl F rfl rfl rfl (H.s [1,0] rfl rfl) b1 fun a w v9 H F=>xA 1 F rfl fun a F=>oY (qS (xF (xU (xA 1 F rfl fun a F=>o_incO F rfl rfl rfl m1 fun a F=>xA 1 F rfl fun a F=>xJ ?_))));replace d:=qX d a2;exact⟨_,Nat.lt_succ_self _,i+1,b0,v9,(by omega),d,F.su,H⟩
   replace d:=vQ U d;refine xL (qS (xF (xU (xA 1 F rfl fun a F=>o_incO F rfl rfl rfl m1 fun a F=>xA 1 F rfl fun a F=>xJ ?_))));replace d:=qX d a2;exact⟨_,Nat.lt_succ_self _,i+1,j,f,(by omega),d,F.su,(H.s [1] rfl rfl)⟩
 rintro a w ⟨V,O,rfl,F,H⟩
 have d:=xN ae;refine xF (xP (xA 2 F rfl fun a F=>xJ (xT (xS F rfl (oD F rfl) ?_))));obtain rfl:=oj d;exact⟨_,rfl,O,rfl,H⟩
def cA (N:Nat) (y:Int) (d:List Rel) (f h i:Int):Option (Bool×(List Rel)):=
 xY (eB f h) fun j=>
 xY (ix d j) fun n=>
 vT (σ:=(List (List Int))) (
  qJ (σ:=(List (List Int))) (ρ:=Bool×(List Rel)) (fun (I:Nat) (e:(List Int)) (p:(List (List Int)))=>
   vT (σ:=Bool×Int) (
    cF (σ:=Bool×Int) (ρ:=(Ctl ((List (List Int))) (Bool×(List Rel)))) (fun(s:Bool×Int)=>
      match s with
      | (t,c)=>
      vT (σ:=Bool) (
       if (decide (c<y)) then  some (.nx (!t)) else  some (.nx false)) fun z=>
      if z then
       vT (σ:=Bool) (
        xY (ix e 0) fun A=>
        xY (kM d f i A c) fun B=>
        if B then  xY (ix e 1) fun C=>
         xY (kM d i h c C) fun D=>
         some (.nx D) else  some (.nx false)) fun E=>
       xY (ck (c+1)) fun F=>
       some (.go (E,F))
      else
       some (.brk (t,c))) N (false,0)) fun(G,J)=>
   if G then
    xY (ap p ([e])) fun H=>
    some (.go H)
   else
    some (.go p)) n.tuples 0 []) fun x=>
 some ((decide ((x.length:Int)<(n.tuples.length:Int))),(d.set (j).toNat (Rel.mk 2 x)))
theorem spec_l05Through_c {B:Nat→Prop} {N:Nat} {C:Int} {x1:List Rel} {D E J:Int} (r:Bool×(List Rel)) (d:cA N C x1 D E J=some r) {I:Value} {X0:List Nat} (Y:World) (hN:∀ c,B c→c<Y.heap.size) (S0:Sep X0 B Y Y [rw B 2 qD 51 I x1]) (cq:xZ C) (a2:xZ D) (a3:xZ E) (an:xZ J):Calls Tryz.prog 173 #[xG C,I,xG D,xG E,xG J] Y (Gv (fun v w'=>v= .bool r.1∧Sep X0 B Y w' [rw B 2 qD 51 I r.2])):=by
 unfold cA at d
 refine xV (L:=[(0,xG C),(1,I),(2,xG D),(3,xG E),(4,xG J)]) func173 rfl rfl rfl (sc rfl (sc rfl (sc rfl (sc rfl (sc rfl sn))))) (fun a F=>?_);have H:=S0;have cr:=H.sm;obtain⟨X1,K,e1,H,cs,b8⟩:=H.spl;refine xP (xA 1 F rfl fun a F=>qO (xA 3 F rfl fun a F=>?_));obtain⟨z1,c1,d⟩:=xB d;refine oKI F rfl call174 rfl H (iC z1 c1 _ aA a2 a3) (fun a w H ba F=>?_);obtain⟨Z,c2,d⟩:=xB d;obtain⟨Q,rfl⟩:∃ x,x=w:=⟨_,rfl⟩;have n:=H.sm;obtain⟨S,T,g1,e2,H,f,ct⟩:=H.fza;have h1:=g1.rzd;have b9:=g1.zd;refine oIz underlying29 sizeOf51 F rfl rfl rfl b9 c2 fun a U t F=>xA 1 F rfl fun a F=>qO (kV underlying51 zeroValue51 (fun w=>by simp [sizeOf2,sizeOf45];rfl) F rfl rfl rfl rfl rfl (oc rfl on) rfl rfl fun a F=>oA zeroValue51 F rfl rfl H fun a w j H F=>oWA (vs:=[xG 2,aE]) sizeOf51 F rfl rfl rfl H (oc rfl (oc rfl on)) rfl rfl fun w H=>xJ ?_);refine xC (xP (xA 1 F rfl fun a F=>xJ ?_));obtain⟨o1,d,bb⟩:=xK d;refine xX (fun a w=>∃ (s1:List (List Int)) (v2:Value),o1= .nx s1∧Sk a 100 [(1,I),(2,xG D),(3,xG E),(11,U),(12,vK j)]∧Sep S T Q w [rw K 1 (vO 1 xH) 25 v2 s1,bx j [xG 2,v2] 51]) ?_ ?_
 ·
  refine xW ?_;obtain⟨bc,bd,d⟩:=qE d;refine oU (fun g a w=>∃ (A:Nat) (O M:List (List Int)) (i:Value),(A≤Z.tuples.length∧Z.tuples.drop A=O)∧O.length=g∧qJ bc O A M=some o1∧Sk a 100 [(13,xG (A:Int)),(0,xG C),(1,I),(2,xG D),(3,xG E),(4,xG J),(11,U),(12,vK j)]∧Sep S T Q w [rw K 1 (vO 1 xH) 25 i M,bx j [xG 2,i] 51]) Z.tuples.length ?_ ?_
  ·
   exact⟨0,Z.tuples,[],aE,⟨Nat.zero_le _,rfl⟩,rfl,d,F.su,((H.nl 1 (vO 1 xH) 25).lw.upt (fun c h=>h.elim) (fun c h=>(f.2.2 c h)))⟩
  intro g2 a w ⟨A,O,M,i,p,be,d,F,H⟩
  cases O with
  | nil=>
   replace d:=qH d;have q1:=qG p.1 p.2;have l1:=vA q1;refine xC (xP (xA 2 F rfl fun a F=>oN F rfl rfl (Pz.bo t (fun c h=>(f.2.2 c h))) fun a F=>oFz (s':=1) vW F rfl rfl t qD.f1 fun a p2 h3 F=>olSz isAgg45 F rfl rfl H.sm h3 (fun a v4 h4 F=>?_)));have h4:=Bo.to h4 (Sm.symm n);refine oL underlying45 F rfl rfl h4 fun a i1 F=>xA 1 F rfl fun a F=>xJ (qT F rfl l1 (oM (oR (oR (vH (xF ?_))))));exact⟨M,i,(vE d),F.su,H⟩
  | cons x5 O=>
   subst be;replace p:=oO p.2;have y1:=oZ p.2.1;obtain⟨cu,d,ao⟩:=oV d;rw[bd] at d;have l1:=qM p.1;refine xC (xP (xA 2 F rfl fun a F=>oN F rfl rfl (Pz.bo t (fun c h=>(f.2.2 c h))) fun a F=>oFz (s':=1) vW F rfl rfl t qD.f1 fun a p3 h5 F=>olSz isAgg45 F rfl rfl H.sm h5 (fun a v5 h6 F=>?_)));have h6:=Bo.to h6 (Sm.symm n);refine oL underlying45 F rfl rfl h6 fun a i2 F=>xA 1 F rfl fun a F=>xJ (qV F rfl l1 (xL (xF (xC ?_))));have j1:=fE (Nat.le_of_lt p.1) i2;have m1:=zC p.1 i2;refine xW (xP (xA 1 F rfl fun a F=>xJ (xC (xP (xA 1 F rfl fun a F=>oY ?_)))));refine xF ?_;obtain⟨o2,d,bf⟩:=xK d;refine xX (fun a w=>∃ (s3:Bool) (s4:Int),o2= .nx (s3,s4)∧Sk a 100 [(0,xG C),(1,I),(2,xG D),(3,xG E),(4,xG J),(11,U),(12,vK j),(13,xG (A:Int)),(14,.bool s3)]∧Sep S T Q w [rw K 1 (vO 1 xH) 25 i M,bx j [xG 2,i] 51]∧xZ s4) ?_ ?_
   ·
    refine xW ?_;obtain⟨bg,bh,d⟩:=kU d;refine oU (fun g a w=>∃ (V:Bool) (P:Int),cF bg g (V,P)=some o2∧Sk a 100 [(0,xG C),(1,I),(2,xG D),(3,xG E),(4,xG J),(11,U),(12,vK j),(13,xG (A:Int)),(14,.bool V),(15,xG P)]∧Sep S T Q w [rw K 1 (vO 1 xH) 25 i M,bx j [xG 2,i] 51]∧xZ P) N ?_ ?_
    ·
     exact⟨false,0,d,F.su,H,(show xZ (0) by decide)⟩
    intro g3 a w ⟨V,P,d,F,H,i3⟩;obtain⟨cv,t2,cw,d,aq⟩:=zK d;rw[bh] at d;refine xC (xC ?_);obtain⟨o3,d,bi⟩:=xK d;refine xX (fun a w=>∃ (s7:Bool),o3= .nx s7∧Sk a 100 [(0,xG C),(1,I),(2,xG D),(3,xG E),(4,xG J),(11,U),(12,vK j),(13,xG (A:Int)),(14,.bool V),(15,xG P),(38,.bool s7)]∧Sep S T Q w [rw K 1 (vO 1 xH) 25 i M,bx j [xG 2,i] 51]) ?_ ?_
    ·
     refine xU (xA 4 F rfl fun a F=>?_)
     rcases qU (decide (P<C)) with W | W
     ·
      replace d:=vR W d;have F:=F.eb 35 rfl W;refine xA 3 F rfl fun a F=>xJ ?_;exact⟨(!V),(vE d),F.su,H⟩
     replace d:=vQ W d;have F:=F.eb 35 rfl W;refine xA 3 F rfl fun a F=>xJ ?_;exact⟨false,(vE d),F.su,H⟩
    rintro a w ⟨s7,rfl,F,H⟩
    have d:=xN bi;refine xF (qP F rfl (fun a4=>?_) (fun a4=>?_))
    ·
     replace d:=vR a4 d;refine xL (xF (xC (xW ?_)));obtain⟨o4,d,bj⟩:=xK d;refine xX (fun a w=>∃ (s8:Bool),o4= .nx s8∧Sk a 100 [(0,xG C),(1,I),(2,xG D),(3,xG E),(4,xG J),(11,U),(12,vK j),(13,xG (A:Int)),(14,.bool s8),(15,xG P)]∧Sep S T Q w [rw K 1 (vO 1 xH) 25 i M,bx j [xG 2,i] 51]) ?_ ?_
     ·
      refine xU (xA 4 F rfl fun a F=>oN F rfl rfl (Pz.bo t (fun c h=>(f.2.2 c h))) fun a F=>oFz (s':=1) vW F rfl rfl t qD.f1 fun a p4 h7 F=>olSz isAgg45 F rfl rfl H.sm h7 (fun a v6 h8 F=>?_));have h8:=Bo.to h8 (Sm.symm n);refine xA 1 F rfl fun a F=>oI underlying45 sizeOf25 F rfl rfl rfl h8 y1 fun a p5 h9 F=>aY isAgg25 F rfl rfl (n.trans (Sm.mono H.sm f.2.2)) h9 (fun a v7 bm F=>?_);obtain⟨z3,c3,d⟩:=xB d;refine oI underlying25 sizeOf2 F rfl rfl rfl bm c3 fun a p6 bn F=>aN isAgg2 F rfl rfl (n.trans (Sm.mono H.sm f.2.2)) bn fun a i4 F=>xA 1 F rfl fun a F=>?_;obtain⟨z4,c4,d⟩:=xB d;refine oK F rfl call144 rfl H (spec_l05Left_c z4 c4 _ aA (H.a h1) a2 an i4 i3) fun a w H F=>xA 1 F rfl fun a F=>?_
      rcases qU z4 with X | X
      ·
       replace d:=vR X d;have F:=F.eb 55 rfl X;refine xA 5 F rfl fun a F=>oN F rfl rfl (Pz.bo t (fun c h=>(f.2.2 c h))) fun a F=>oFz (s':=1) vW F rfl rfl t qD.f1 fun a p7 bp F=>olSz isAgg45 F rfl rfl H.sm bp (fun a v8 a5 F=>?_);have a5:=Bo.to a5 (Sm.symm n);refine xA 1 F rfl fun a F=>oI underlying45 sizeOf25 F rfl rfl rfl a5 y1 fun a p8 bq F=>aY isAgg25 F rfl rfl (n.trans (Sm.mono H.sm f.2.2)) bq (fun a v9 br F=>?_);obtain⟨z5,c5,d⟩:=xB d;refine oI underlying25 sizeOf2 F rfl rfl rfl br c5 fun a p9 bt F=>aN isAgg2 F rfl rfl (n.trans (Sm.mono H.sm f.2.2)) bt (fun a i5 F=>?_);obtain⟨z6,c6,d⟩:=xB d;refine oK F rfl call144 rfl H (spec_l05Left_c z6 c6 _ aA (H.a h1) an a3 i3 i5) fun a w H F=>xA 2 F rfl fun a F=>xJ ?_;exact⟨z6,(vE d),F.su,H⟩
      replace d:=vQ X d;have F:=F.eb 55 rfl X;refine xA 11 F rfl fun a F=>?_;refine xA 5 F rfl fun a F=>xJ ?_;exact⟨false,(vE d),F.su,H⟩
     rintro a w ⟨s8,rfl,F,H⟩
     have d:=xN bj;refine qS (xF (xU (xA 1 F rfl fun a F=>?_)));obtain⟨z7,c7,d⟩:=xB d;refine kI F rfl rfl rfl c7 fun a F=>xA 1 F rfl fun a F=>xJ ?_;replace d:=qX d aq;exact⟨t2,(by omega),s8,z7,d,F.su,H,(kG c7)⟩
    replace d:=vQ a4 d;refine oM (oR (oR ?_));replace d:=eL d aq;refine vH (xF ?_);exact⟨V,P,(vE d),F.su,H,i3⟩
   rintro a w ⟨s3,s4,rfl,F,H,i6⟩
   have d:=xN bf;refine xF (xP (xA 1 F rfl fun a F=>xJ (qP F rfl (fun a6=>?_) (fun a6=>?_))))
   ·
    replace d:=vR a6 d;obtain⟨z8,c8,d⟩:=xB d;refine xD H (by kernel_rfl) fun w H=>dp (fun G=>∀ (a7:Value) (a:Act) (w:World),Sk a 100 [(0,xG C),(1,I),(2,xG D),(3,xG E),(4,xG J),(11,U),(12,vK j),(13,xG (A:Int)),(73,i),(81,a7)]→Sep S T Q w [rw K 1 (vO 1 xH) 25 a7 ([x5]),rw K 1 (vO 1 xH) 25 i M,bx j [xG 2,i] 51]→∀ ls,ls = #[true,true,true,true,true,true,true,true,true,true,false,false,false]→G 3 ls a w) ?_ (fun H1=>?_)
    ·
     intro a7 a w F H ls bu;subst bu;refine xE H 10 rfl (by kernel_rfl) (oP (sz:=1) (R:=(vO 1 xH)) (z:=(aE)) (bytes:=24) underlying45 (by kernel_rfl) rfl rfl F rfl rfl rfl (H.s [1,0,2] rfl rfl) c8 fun a w bv H F=>xJ ⟨⟨_,H⟩,?_⟩);refine qY 11 rfl (by kernel_rfl) (oJ F rfl (fun w l=>vG vW F rfl rfl) fun a F=>xE H 12 rfl (by kernel_rfl) (oW sizeOf45 F rfl rfl rfl (H.s [1,0] rfl rfl) ((H.s [1,0] rfl rfl).r 1 rfl).one rfl rfl fun w H=>xJ ⟨⟨_,H⟩,?_⟩));refine bF (by kernel_rfl) (qS (xF (xU (xA 1 F rfl fun a F=>qQ F rfl rfl rfl m1 fun a F=>xA 1 F rfl fun a F=>xJ ?_))));replace d:=qX d ao;exact⟨_,Nat.lt_succ_self _,A+1,O,z8,bv,⟨p.1,p.2.2⟩,rfl,d,F.su,(H.s [1,0] rfl rfl)⟩
    refine qY 0 rfl (by kernel_rfl) (oJ F rfl (fun w l=>vG vW F rfl rfl) fun a F=>vM 2 rfl (by kernel_rfl) (oJ F rfl (fun w l=>xM F rfl) fun a F=>qY 3 rfl (by kernel_rfl) (vN F rfl rfl (Pz.bo t (fun c h=>(f.2.2 c h))) fun a F=>qY 4 rfl (by kernel_rfl) (vFz (s':=1) vW F rfl rfl t qD.f1 fun a cx bw F=>qY 5 rfl (by kernel_rfl) (vlSz isAgg45 F rfl rfl H.v bw (fun a cy a8 F=>?_))))));have a8:=Bo.to a8 (Sm.symm n);refine vM 6 rfl (by kernel_rfl) (oJ F rfl (fun w l=>xM F rfl) fun a F=>qY 7 rfl (by kernel_rfl) (vI underlying45 sizeOf25 F rfl rfl rfl a8 y1 fun a cz c0 F=>qY 8 rfl (by kernel_rfl) (vlS isAgg25 F rfl rfl (fun w l=>(n.trans (Sm.mono (H.v w l) f.2.2))) c0 fun a d0 ar F=>b_es [1,9] (by kernel_rfl) (by simp) ⟨⟨_,rfl,?_⟩,⟨_,rfl,?_⟩,trivial⟩)))
    ·
     refine xEs H (oB isAgg45 F rfl rfl (H.b 1 rfl) rfl fun a F=>xJ ⟨⟨_,H⟩,?_⟩);refine xE H 9 rfl (by kernel_rfl) (oR1 (R:=(vO 1 xH)) (y:=x5) (N1:=K) underlying45 sizeOf25 zeroValue25 rfl rfl F rfl rfl H (fun c h=>(f.2.2 c h)) (Eo.sl (Bo.to ar (n.trans (Sm.mono H.sm f.2.2)))) fun a w v14 H F=>xJ ⟨⟨_,H⟩,?_⟩);exact H1 v14 _ _ (F.su) H _ (by kernel_rfl)
    refine xEs H (oR1 (R:=(vO 1 xH)) (y:=x5) (N1:=K) underlying45 sizeOf25 zeroValue25 rfl rfl F rfl rfl H (fun c h=>(f.2.2 c h)) (Eo.sl (Bo.to ar (n.trans (Sm.mono H.sm f.2.2)))) fun a w v15 H F=>xJ ⟨⟨_,H⟩,?_⟩);refine xE H 1 rfl (by kernel_rfl) (oB isAgg45 F rfl rfl (H.b 2 rfl) rfl fun a F=>xJ ⟨⟨_,H⟩,?_⟩);exact H1 v15 _ _ (F.su) H _ (by kernel_rfl)
   replace d:=vQ a6 d;refine xL (qS (xF (xU (xA 1 F rfl fun a F=>qQ F rfl rfl rfl m1 fun a F=>xA 1 F rfl fun a F=>xJ ?_))));replace d:=qX d ao;exact⟨_,Nat.lt_succ_self _,A+1,O,M,i,⟨p.1,p.2.2⟩,rfl,d,F.su,H⟩
 rintro a w ⟨s1,v2,rfl,F,H⟩
 have d:=xN bb;refine xF (xC (xQ H (by kernel_rfl) (by kernel_rfl) (xR F rfl (fun w l=>vG vW F rfl rfl) fun a F=>qB isAgg45 F rfl rfl (H.qb 1 rfl) rfl fun a F=>qL underlying45 F rfl rfl (H.r 0 rfl) fun a i7 F=>xR F rfl (fun w l=>xM F rfl) fun a F=>qN F rfl rfl (Pz.bo t (fun c h=>(f.2.2 c h))) fun a F=>qFz (s':=1) vW F rfl rfl t qD.f1 fun a d1 h21 F=>qlSz isAgg45 F rfl rfl H.q h21 (fun a d2 a9 F=>?_))));have a9:=Bo.to a9 (Sm.symm n);refine qL underlying45 F rfl rfl a9 fun a i8 F=>xR F rfl (fun w l=>r_lss F rfl rfl) fun a F=>xR F rfl (fun w l=>zM F rfl) fun a F=>kA fun w H=>xF (xC ?_);have H:=(f.1 H (Ns.all ⟨n1,⟨n0,trivial⟩⟩));obtain⟨w2,rfl⟩:∃ x,x=w:=⟨_,rfl⟩;have d3:=H.sm;obtain⟨X3,N4,g4,e3,H,th3,d4⟩:=(H.s [2,0,1] rfl rfl).fza;have K1:=g4.bk;refine xD H (by kernel_rfl) fun w H=>vM 0 rfl (by kernel_rfl) (oJ F rfl (fun w l=>xM F rfl) fun a F=>vM 1 rfl (by kernel_rfl) (oJ F rfl (fun w l=>xM F rfl) fun a F=>vM 2 rfl (by kernel_rfl) (oJ F rfl (fun w l=>xM F rfl) fun a F=>qY 4 rfl (by kernel_rfl) (vBA isAgg51 sizeOf51 F rfl rfl (K1.v H.sm) rfl rfl fun a F=>xE H 3 rfl (by kernel_rfl) (oKI F rfl call174 rfl H (iC z1 c1 _ aA a2 a3) (fun a w H ba F=>?_))))));refine xJ ⟨⟨_,H⟩,?_⟩;refine xE H 5 rfl (by kernel_rfl) ?_;have H:=H.zw;refine oRi underlying29 sizeOf51 F rfl rfl rfl H 0 rfl c2 fun a d5 d6 rp1 F=>xJ ⟨⟨_,H⟩,?_⟩;refine xE H 6 rfl (by kernel_rfl) (oSX (vs:=[xG 2,v2]) F rfl rfl rfl (.inl ⟨sizeOf51,rfl,(oc rfl (oc (H.r 1 rfl).one on))⟩) H (RPt.o rp1) (ix_get c2) n1 (fun e q=>(Eo.agg (qD.m (show xZ (2) by decide) q.rd)).tn) rfl fun w H=>xJ ⟨⟨_,H⟩,?_⟩);refine bF (by kernel_rfl) (xF (xP (xA 2 F rfl fun a F=>xJ (xT ?_))));have H:=(b8 Ab.rw ((th3.1 H (Ns.all ⟨n1,trivial⟩)).s [1,0] rfl rfl) (Ns.all ⟨n0,trivial⟩));refine xS F rfl (oD F rfl) ?_;obtain rfl:=oj d;exact⟨_,rfl,rfl,(H.s [0] rfl rfl)⟩
def fN (N:Nat) (H:Template) (j:Instance) (I:List Rel):Option ((List PairStep)×(List Rel)):=
 vT (σ:=(List PairStep)×Int×(List Rel)) (
  cF (σ:=(List PairStep)×Int×(List Rel)) (ρ:=(List PairStep)×(List Rel)) (fun(s:(List PairStep)×Int×(List Rel))=>
    match s with
    | (c,n,p)=>
    if (n != (c.length:Int)) then
     vT (σ:=(List PairStep)×(List Rel)) (
      zH (σ:=(List PairStep)×(List Rel)) (ρ:=(Ctl ((List PairStep)×Int×(List Rel)) ((List PairStep)×(List Rel)))) (fun (d:Nat) (s:(List PairStep)×(List Rel))=>
        match s with
        | (J,K)=>
        vT (σ:=(List PairStep)×(List Rel)) (
         zH (σ:=(List PairStep)×(List Rel)) (ρ:=(Ctl ((List PairStep)×(List Rel)) (Ctl ((List PairStep)×Int×(List Rel)) ((List PairStep)×(List Rel))))) (fun (f:Nat) (s:(List PairStep)×(List Rel))=>
           match s with
           | (L,M)=>
           vT (σ:=(List PairStep)×(List Rel)) (
            zH (σ:=(List PairStep)×(List Rel)) (ρ:=(Ctl ((List PairStep)×(List Rel)) (Ctl ((List PairStep)×(List Rel)) (Ctl ((List PairStep)×Int×(List Rel)) ((List PairStep)×(List Rel)))))) (fun (e:Nat) (s:(List PairStep)×(List Rel))=>
              match s with
              | (t,h)=>
              vT (σ:=(List Rel)×Bool) (
               if ((e:Int) != (f:Int)) then  if ((e:Int) != (1+(d:Int))) then  xY (cA N H.size h (f:Int) (1+(d:Int)) (e:Int)) fun x=>
                 some (.nx (x.2,x.1)) else  some (.nx (h,false)) else  some (.nx (h,false))) fun(i,y)=>
              if y then
               xY (ap t ([(PairStep.mk (f:Int) (1+(d:Int)) (e:Int))])) fun O=>
               some (.go (O,i))
              else
               some (.go (t,i))) j.vars.toNat 0 (L,M)) fun(z,A)=>
           some (.go (z,A))) (1+(d:Int)).toNat 0 (J,K)) fun(B,C)=>
        some (.go (B,C))) (j.vars - 1).toNat 0 (c,p)) fun(D,E)=>
     some (.go (D,(c.length:Int),E))
    else
     some (.brk (c,n,p))) N ([],(-1),I)) fun(F,P,G)=>
 some (F,G)
theorem spec_l05Pairs_c {B:Nat→Prop} {N:Nat} {x0:Template} {G:Instance} {x2:List Rel} (r:(List PairStep)×(List Rel)) (d:fN N x0 G x2=some r) {n:Value} {p:Value} {e:Value} {j:List Nat} (f:World) (hN:∀ c,B c→c<f.heap.size) (S0:Sep j B f f [rw B 2 qD 51 e x2]) (A0:Bo B f (Pt 2 xI) n x0) (D:Bo B f (Pt 2 xO) p G):Calls Tryz.prog 143 #[n,p,e] f (Gv (fun v w'=>∃ (ao:Value),v=ao∧Sep j B f w' [rl 3 oQ 186 ao r.1,rw B 2 qD 51 e r.2])):=by
 unfold fN at d
 refine xV (L:=[(0,n),(1,p),(2,e)]) func143 rfl rfl rfl (sc rfl (sc rfl (sc rfl sn))) (fun a F=>?_);have H:=S0;refine xP (xA 1 F rfl fun a F=>qO (oR0 (R:=oQ) underlying142 sizeOf186 F rfl H fun a w v3 H F=>xA 1 F rfl fun a F=>xJ ?_));refine xC (xP (xA 1 F rfl fun a F=>xJ ?_));obtain⟨o1,d,b8⟩:=xK d;refine xX (fun a w=>∃ (s1:List PairStep) (v4:Value) (s2:Int) (s3:List Rel),o1= .nx (s1,s2,s3)∧Sk a 67 [(2,e),(7,v4)]∧Sep j B f w [rl 3 oQ 186 v4 s1,rw B 2 qD 51 e s3]∧xZ s2) ?_ ?_
 ·
  refine xW ?_;obtain⟨b9,ba,d⟩:=kU d;refine oU (fun g a w=>∃ (i:List PairStep) (T:Value) (U:Int) (V:List Rel),cF b9 g (i,U,V)=some o1∧Sk a 67 [(0,n),(1,p),(2,e),(7,T),(8,xG U)]∧Sep j B f w [rl 3 oQ 186 T i,rw B 2 qD 51 e V]∧xZ U) N ?_ ?_
  ·
   exact⟨[],v3,(-1),x2,d,F.su,H,(show xZ (-1) by decide)⟩
  intro g1 a w ⟨i,T,U,V,d,F,H,i1⟩;obtain⟨ce,t1,cf,d,aq⟩:=zK d;rw[ba] at d;refine xC (xP (xA 2 F rfl fun a F=>oL underlying142 F rfl rfl (H.l 0 rfl) fun a i2 F=>xA 1 F rfl fun a F=>xJ (qP F rfl (fun ae=>?_) (fun ae=>?_))))
  ·
   replace d:=vR ae d;refine xL (xF (xW (xP (xA 1 F rfl fun a F=>oL underlying142 F rfl rfl (H.l 0 rfl) fun a i3 F=>xA 1 F rfl fun a F=>xJ (xC ?_)))));refine xU (xA 1 F rfl fun a F=>xJ ?_);obtain⟨o2,d,bb⟩:=xK d;refine xX (fun a w=>∃ (s7:List PairStep) (v6:Value) (s8:List Rel),o2= .nx (s7,s8)∧Sk a 67 [(0,n),(1,p),(2,e),(7,v6),(8,xG (i.length:Int))]∧Sep j B f w [rl 3 oQ 186 v6 s7,rw B 2 qD 51 e s8]) ?_ ?_
   ·
    refine xW ?_;obtain⟨bc,bd,d⟩:=zG d;refine oU (fun g a w=>∃ (h:Nat) (W:List PairStep) (X:Value) (I:List Rel),h+g=(G.vars - 1).toNat∧zH bc g h (W,I)=some o2∧Sk a 67 [(9,xG (1+(h:Int))),(0,n),(1,p),(2,e),(7,X),(8,xG (i.length:Int))]∧Sep j B f w [rl 3 oQ 186 X W,rw B 2 qD 51 e I]) (G.vars - 1).toNat ?_ ?_
    ·
     exact⟨0,i,T,V,(Nat.zero_add _),d,F.su,H⟩
    intro g2 a w ⟨h,W,X,I,Z,d,F,H⟩
    cases g2 with
    | zero=>
     replace d:=vY d;have l1:=dec_noIO Z;refine xC (xP (xA 2 F rfl fun a F=>oN F rfl rfl D fun a F=>oF (s':=1) kD F rfl rfl D xO.f0 fun a p1 h1 F=>aN isAgg2 F rfl rfl H.sm h1 fun a i4 F=>xA 1 F rfl fun a F=>xJ ?_));refine qT F rfl l1 (oM (oR (oR (vH (xF ?_)))));exact⟨W,X,I,(vE d),F.su,H⟩
    | succ g2=>
     obtain⟨cg,d,be⟩:=vX d;rw[bd] at d;have l1:=dec_yesIO Z;refine xC (xP (xA 2 F rfl fun a F=>oN F rfl rfl D fun a F=>oF (s':=1) kD F rfl rfl D xO.f0 fun a p2 h2 F=>aN isAgg2 F rfl rfl H.sm h2 fun a i5 F=>xA 1 F rfl fun a F=>xJ ?_));refine qV F rfl l1 (xL (xF (xC ?_)));have j1:=k64O Z (show xZ (1) by decide) i5;have m1:=inc64O Z (show xZ (1) by decide) i5;refine xW (xP (xA 1 F rfl fun a F=>xJ ?_));obtain⟨o3,d,bf⟩:=xK d;refine xX (fun a w=>∃ (a0:List PairStep) (v8:Value) (a1:List Rel),o3= .nx (a0,a1)∧Sk a 67 [(0,n),(1,p),(2,e),(7,v8),(8,xG (i.length:Int)),(9,xG (1+(h:Int)))]∧Sep j B f w [rl 3 oQ 186 v8 a0,rw B 2 qD 51 e a1]) ?_ ?_
     ·
      refine xW ?_;obtain⟨bg,bh,d⟩:=zG d;refine oU (fun g a w=>∃ (t:Nat) (J:List PairStep) (Y:Value) (M:List Rel),t+g=(1+(h:Int)).toNat∧zH bg g t (J,M)=some o3∧Sk a 67 [(10,xG (t:Int)),(0,n),(1,p),(2,e),(7,Y),(8,xG (i.length:Int)),(9,xG (1+(h:Int)))]∧Sep j B f w [rl 3 oQ 186 Y J,rw B 2 qD 51 e M]) (1+(h:Int)).toNat ?_ ?_
      ·
       exact⟨0,W,X,I,(Nat.zero_add _),d,F.su,H⟩
      intro g3 a w ⟨t,J,Y,M,a2,d,F,H⟩
      cases g3 with
      | zero=>
       replace d:=vY d;have l2:=kT a2;refine xC (xP (xA 3 F rfl fun a F=>xJ (qT F rfl l2 (oM (oR ?_)))));refine oR (vH (xF ?_));exact⟨J,Y,M,(vE d),F.su,H⟩
      | succ g3=>
       obtain⟨ch,d,bi⟩:=vX d;rw[bh] at d;have l2:=zW a2;refine xC (xP (xA 3 F rfl fun a F=>xJ (qV F rfl l2 (xL (xF ?_)))));refine xC ?_;have j2:=k64I a2 j1;have m2:=bC a2 j1;refine xW (xP (xA 1 F rfl fun a F=>xJ ?_));obtain⟨o4,d,bj⟩:=xK d;refine xX (fun a w=>∃ (a3:List PairStep) (a4:Value) (a5:List Rel),o4= .nx (a3,a5)∧Sk a 67 [(0,n),(1,p),(2,e),(7,a4),(8,xG (i.length:Int)),(9,xG (1+(h:Int))),(10,xG (t:Int))]∧Sep j B f w [rl 3 oQ 186 a4 a3,rw B 2 qD 51 e a5]) ?_ ?_
       ·
        refine xW ?_;obtain⟨bm,bn,d⟩:=zG d;refine oU (fun g a w=>∃ (x:Nat) (C:List PairStep) (A:Value) (E:List Rel),x+g=G.vars.toNat∧zH bm g x (C,E)=some o4∧Sk a 67 [(11,xG (x:Int)),(0,n),(1,p),(2,e),(7,A),(8,xG (i.length:Int)),(9,xG (1+(h:Int))),(10,xG (t:Int))]∧Sep j B f w [rl 3 oQ 186 A C,rw B 2 qD 51 e E]) G.vars.toNat ?_ ?_
        ·
         exact⟨0,J,Y,M,(Nat.zero_add _),d,F.su,H⟩
        intro g4 a w ⟨x,C,A,E,a6,d,F,H⟩
        cases g4 with
        | zero=>
         replace d:=vY d;have l3:=kT a6;refine xC (xP (xA 2 F rfl fun a F=>oN F rfl rfl D fun a F=>oF (s':=1) kD F rfl rfl D xO.f0 fun a p3 h3 F=>aN isAgg2 F rfl rfl H.sm h3 fun a i6 F=>xA 1 F rfl fun a F=>xJ ?_));refine qT F rfl l3 (oM (oR (oR (vH (xF ?_)))));exact⟨C,A,E,(vE d),F.su,H⟩
        | succ g4=>
         obtain⟨ci,d,ar⟩:=vX d;rw[bn] at d;have l3:=zW a6;refine xC (xP (xA 2 F rfl fun a F=>oN F rfl rfl D fun a F=>oF (s':=1) kD F rfl rfl D xO.f0 fun a p4 h4 F=>aN isAgg2 F rfl rfl H.sm h4 fun a i7 F=>xA 1 F rfl fun a F=>xJ ?_));refine qV F rfl l3 (xL (xF (xC ?_)));have j3:=k64I a6 i7;have m3:=bC a6 i7;refine xW (xC ?_);obtain⟨o5,d,bp⟩:=xK d;refine xX (fun a w=>∃ (O:List Rel) (af:Bool),o5= .nx (O,af)∧Sk a 67 [(0,n),(1,p),(2,e),(7,A),(8,xG (i.length:Int)),(9,xG (1+(h:Int))),(10,xG (t:Int)),(11,xG (x:Int)),(58,.bool af)]∧Sep j B f w [rl 3 oQ 186 A C,rw B 2 qD 51 e O]) ?_ ?_
         ·
          refine xU (xA 4 F rfl fun a F=>?_)
          rcases qU ((x:Int) != (t:Int)) with P | P
          ·
           replace d:=vR P d;have F:=F.eb 43 rfl P;refine xA 5 F rfl fun a F=>?_
           rcases qU ((x:Int) != (1+(h:Int))) with Q | Q
           ·
            replace d:=vR Q d;have F:=F.eb 48 rfl Q;refine xA 1 F rfl fun a F=>oN F rfl rfl A0 fun a F=>oF (s':=1) dA F rfl rfl A0 xI.f0 fun a p5 h5 F=>aN isAgg2 F rfl rfl H.sm h5 fun a i8 F=>xA 4 F rfl fun a F=>?_;obtain⟨z1,c1,d⟩:=xB d;obtain⟨X1,K1,bq⟩:=Sep.lend (K:=[rw B 2 qD 51 e E]) (L:=[rl 3 oQ 186 A C]) (H.s [1,0] rfl rfl);refine oG F rfl call173 rfl (spec_l05Through_c z1 c1 _ H.hN K1 i8 j2 j1 j3) (fun a vv w ⟨cj,S⟩ F=>?_);subst vv;have H:Sep j B f w [rw B 2 qD 51 e z1.2,rl 3 oQ 186 A C]:=bq S;refine xA 1 F rfl fun a F=>xJ ?_;exact⟨z1.2,z1.1,(vE d),F.su,(H.s [1,0] rfl rfl)⟩
           replace d:=vQ Q d;have F:=F.eb 48 rfl Q;refine xA 10 F rfl fun a F=>oY ?_;refine xF ?_;exact⟨E,false,(vE d),F.su,H⟩
          replace d:=vQ P d;have F:=F.eb 43 rfl P;refine xA 11 F rfl fun a F=>?_;refine xA 4 F rfl fun a F=>xJ ?_;exact⟨E,false,(vE d),F.su,H⟩
         rintro a w ⟨O,af,rfl,F,H⟩
         have d:=xN bp;refine xF (qP F rfl (fun ag=>?_) (fun ag=>?_))
         ·
          replace d:=vR ag d;refine xU (xA 4 F rfl fun a F=>kV underlying186 zeroValue186 (fun w=>by simp [sizeOf2];rfl) F rfl rfl rfl rfl rfl (oc rfl (oc rfl (oc rfl on))) rfl rfl fun a F=>oR1z (R:=oQ) (y:=(PairStep.mk (t:Int) (1+(h:Int)) (x:Int))) underlying142 sizeOf186 zeroValue186 rfl rfl F rfl rfl H (Eo.agg (oQ.m j2 j1 j3)) (fun a w cl H F=>?_));obtain⟨z2,c2,d⟩:=xB d;refine oPL (sz:=3) (R:=oQ) (z:=(.agg #[xG 0,xG 0,xG 0])) (bytes:=24) underlying142 (by kernel_rfl) rfl rfl F rfl rfl rfl (H.s [1,0,2] rfl rfl) c2 fun a w br H F=>xA 1 F rfl fun a F=>oY (qS (xF (xU (xA 1 F rfl fun a F=>qQ F rfl rfl rfl m3 fun a F=>xA 1 F rfl fun a F=>xJ ?_))));replace d:=qX d ar;exact⟨_,Nat.lt_succ_self _,x+1,z2,br,O,(by omega),d,F.su,H⟩
         replace d:=vQ ag d;refine xL (qS (xF (xU (xA 1 F rfl fun a F=>qQ F rfl rfl rfl m3 fun a F=>xA 1 F rfl fun a F=>xJ ?_))));replace d:=qX d ar;exact⟨_,Nat.lt_succ_self _,x+1,C,A,O,(by omega),d,F.su,H⟩
       rintro a w ⟨a3,a4,a5,rfl,F,H⟩
       have d:=xN bj;refine qS (xF (xU (xA 1 F rfl fun a F=>qQ F rfl rfl rfl m2 fun a F=>xA 1 F rfl fun a F=>xJ ?_)));replace d:=qX d bi;exact⟨_,Nat.lt_succ_self _,t+1,a3,a4,a5,(by omega),d,F.su,H⟩
     rintro a w ⟨a0,v8,a1,rfl,F,H⟩
     have d:=xN bf;refine qS (xF (xU (xA 1 F rfl fun a F=>o_incO F rfl rfl rfl m1 fun a F=>xA 1 F rfl fun a F=>xJ ?_)));replace d:=qX d be;exact⟨_,Nat.lt_succ_self _,h+1,a0,v8,a1,(by omega),d,F.su,H⟩
   rintro a w ⟨s7,v6,s8,rfl,F,H⟩
   have d:=xN bb;refine qS (xF ?_);replace d:=qX d aq;exact⟨t1,(by omega),s7,v6,(i.length:Int),s8,d,F.su,H,i3⟩
  replace d:=vQ ae d;refine oM (oR (oR ?_));replace d:=eL d aq;refine vH (xF ?_);exact⟨i,T,U,V,(vE d),F.su,H,i1⟩
 rintro a w ⟨s1,v4,s2,s3,rfl,F,H,i9⟩
 have d:=xN b8;refine xF (xP (xA 2 F rfl fun a F=>xJ (xT (xS F rfl (oD F rfl) ?_))));obtain rfl:=oj d;exact⟨_,rfl,v4,rfl,H⟩
def gY (N:Nat) (f:Template) (c:Instance):Option ((List Int)×Bool):=
 if (c.vars==1) then
  xY (aR N f c 1) fun j=>
  if ((j.length:Int)==0) then
   some ([],false)
  else
   xY (ix j 0) fun D=>
   some (D,true)
 else
  xY (fO N f c) fun E=>
  xY (fN N f c E) fun h=>
  vT (σ:=Unit) (
   qJ (σ:=Unit) (ρ:=(List Int)×Bool) (fun (P:Nat) (F:Rel) (s:Unit)=>
     match s with
     | _=>
     if ((F.tuples.length:Int)==0) then
      some (.ret ([],false))
     else
      some (.go ())) h.2 0 ()) fun _=>
  xY (ix h.2 0) fun G=>
  xY (ix G.tuples 0) fun H=>
  xY (ix H 0) fun I=>
  vT (σ:=(List Int)) (
   zH (σ:=(List Int)) (ρ:=(List Int)×Bool) (fun (n:Nat) (p:(List Int))=>
    vT (σ:=Int×Bool) (
     cF (σ:=Int×Bool) (ρ:=(Ctl ((List Int)) ((List Int)×Bool))) (fun(s:Int×Bool)=>
       match s with
       | (d,t)=>
       vT (σ:=Bool) (
        if (!t) then  some (.nx (decide (d<f.size))) else  some (.nx false)) fun J=>
       if J then
        vT (σ:=Bool×Int) (
         cF (σ:=Bool×Int) (ρ:=(Ctl (Int×Bool) (Ctl ((List Int)) ((List Int)×Bool)))) (fun(s:Bool×Int)=>
           match s with
           | (x,e)=>
           vT (σ:=Bool) (
            if (decide (e<(1+(n:Int)))) then  some (.nx x) else  some (.nx false)) fun K=>
           if K then
            xY (ix p e) fun L=>
            xY (kM h.2 e (1+(n:Int)) L d) fun M=>
            xY (ck (e+1)) fun y=>
            some (.go (M,y))
           else
            some (.brk (x,e))) N (true,0)) fun(i,Q)=>
        if (!i) then
         xY (ck (d+1)) fun z=>
         some (.go (z,i))
        else
         some (.go (d,i))
       else
        some (.brk (d,t))) N (0,false)) fun(A,O)=>
    xY (ap p ([A])) fun B=>
    some (.go B)) (c.vars - 1).toNat 0 [I]) fun C=>
  some (C,true)
theorem spec_l09Pairs_c {B:Nat→Prop} {N:Nat} {x0:Template} {Z:Instance} (r:(List Int)×Bool) (d:gY N x0 Z=some r) {j:Value} {n:Value} (h:World) (hN:∀ c,B c→c<h.heap.size) (Q:Bo B h (Pt 2 xI) j x0) (D:Bo B h (Pt 2 xO) n Z):Calls Tryz.prog 112 #[j,n] h (Gv (fun v w'=>∃ (af:Value),v= .tuple #[af,.bool r.2]∧Sep [] B h w' [ro B (V:=(Sl 1 xH)) af r.1])):=by
 unfold gY at d
 refine xV (L:=[(0,j),(1,n)]) func112 rfl rfl rfl (sc rfl (sc rfl sn)) (fun a F=>?_);have H:=Sep.start hN;refine xP (xA 2 F rfl fun a F=>xJ (xC (xP (xA 1 F rfl fun a F=>oN F rfl rfl D (fun a F=>?_)))));refine oF (s':=1) kD F rfl rfl D xO.f0 fun a p1 h1 F=>aN isAgg2 F rfl rfl H.sm h1 fun a i1 F=>xA 1 F rfl fun a F=>xJ (qP F rfl (fun a0=>?_) (fun a0=>?_))
 ·
  replace d:=vR a0 d;refine xP (xA 2 F rfl fun a F=>?_);obtain⟨z1,b2,d⟩:=xB d;refine oG F rfl call60 rfl (spec_l05Solutions_c z1 b2 _ aA (H.a Q) (H.a D) (show xZ (1) by decide)) (fun a T w ⟨v2,d4,S⟩ F=>?_);subst T;have H:=H.r1 S n0;refine xA 1 F rfl fun a F=>xJ (xC (xP (xA 1 F rfl fun a F=>oL underlying45 F rfl rfl (H.l 0 rfl) fun a i2 F=>xA 1 F rfl fun a F=>xJ ?_)));refine qP F rfl (fun a1=>?_) (fun a1=>?_)
  ·
   replace d:=vR a1 d;refine xP (oR0 (R:=xH) underlying25 sizeOf2 F rfl H fun a w v3 H F=>xA 2 F rfl fun a F=>xJ (xT (oE (oE ?_))));have H:=(H.s [0] rfl rfl);have H:=H.lw.rwo.rok;refine vV F rfl (oD F rfl) (oD F rfl) ?_;obtain rfl:=oj d;exact⟨_,rfl,v3,rfl,H⟩
  replace d:=vQ a1 d;refine xL (xF (xP (xA 1 F rfl fun a F=>?_)));obtain⟨z2,c1,d⟩:=xB d;obtain⟨w1,rfl⟩:∃ x,x=w:=⟨_,rfl⟩;have d5:=H.sm;obtain⟨X1,N1,g1,e1,H,b1,d6⟩:=H.fza;have h2:=g1.ld;refine oI underlying45 sizeOf25 F rfl rfl rfl h2 c1 fun a p2 h3 F=>aY isAgg25 F rfl rfl H.sm h3 fun a v4 h4 F=>xA 2 F rfl fun a F=>xJ (xT (oE ?_));have H:=H.rob h4;have H:=(b1.2.1 H (Ns.all trivial));refine vV F rfl (oD F rfl) (oD F rfl) ?_;obtain rfl:=oj d;exact⟨_,rfl,v4,rfl,H⟩
 replace d:=vQ a0 d;refine xL (xF (xP (xA 2 F rfl fun a F=>?_)));obtain⟨z3,c2,d⟩:=xB d;refine oG F rfl call142 rfl (spec_l05First_c z3 c2 _ aA (H.a Q) (H.a D)) (fun a T w ⟨e,d7,S⟩ F=>?_);subst T;have H:=H.r1 S n0;refine xA 1 F rfl fun a F=>qO (xA 3 F rfl fun a F=>?_);obtain⟨i,c3,d⟩:=xB d;have H:=H.lw.wk;obtain⟨X2,K1,b3⟩:=Sep.lend (K:=[rw B 2 qD 51 e z3]) (L:=[]) H;refine oG F rfl call143 rfl (spec_l05Pairs_c i c3 _ H.hN K1 (H.u Q) (H.u D)) (fun a T w ⟨v6,d8,S⟩ F=>?_);subst T;have H:Sep [] B h w [rl 3 oQ 186 v6 i.1,rw B 2 qD 51 e i.2]:=b3 S;refine xJ (xC (xP (xA 1 F rfl fun a F=>xJ ?_)));obtain⟨o1,d,ag⟩:=xK d;refine xX (fun a w=>o1= .nx ()∧Sk a 103 [(0,j),(1,n),(7,e)]∧Sep [] B h w [rw B 2 qD 51 e i.2]) ?_ ?_
 ·
  refine xW ?_;obtain⟨b4,b5,d⟩:=qE d;refine oU (fun g a w=>∃ (J:Nat) (G:List Rel),(J≤i.2.length∧i.2.drop J=G)∧G.length=g∧qJ b4 G J ()=some o1∧Sk a 103 [(8,xG (J:Int)),(0,j),(1,n),(7,e)]∧Sep [] B h w [rw B 2 qD 51 e i.2]) i.2.length ?_ ?_
  ·
   exact⟨0,i.2,⟨Nat.zero_le _,rfl⟩,rfl,d,F.su,(H.s [1] rfl rfl)⟩
  intro g2 a w ⟨J,G,A,b6,d,F,H⟩
  cases G with
  | nil=>
   replace d:=qH d;have q1:=qG A.1 A.2;have l1:=vA q1;refine xC (xP (xA 2 F rfl fun a F=>oL underlying29 F rfl rfl (H.r 0 rfl) fun a i3 F=>xA 1 F rfl fun a F=>xJ (qT F rfl l1 (oM ?_))));refine oR (oR (vH (xF ?_)));exact⟨(vE d),F.su,H⟩
  | cons x2 G=>
   subst b6;replace A:=oO A.2;have y1:=oZ A.2.1;obtain⟨d9,d,ah⟩:=oV d;rw[b5] at d;have l1:=qM A.1;refine xC (xP (xA 2 F rfl fun a F=>oL underlying29 F rfl rfl (H.r 0 rfl) fun a i4 F=>xA 1 F rfl fun a F=>xJ (qV F rfl l1 (xL ?_))));refine xF (xC ?_);have j1:=fE (Nat.le_of_lt A.1) i4;have m1:=zC A.1 i4;refine xW (xP (xA 2 F rfl fun a F=>oI underlying29 sizeOf51 F rfl rfl rfl (H.r 0 rfl) y1 fun a p3 h5 F=>oF (s':=1) vW F rfl rfl h5 qD.f1 fun a p4 h6 F=>aY isAgg45 F rfl rfl (Sm.refl _ _) h6 fun a v7 h7 F=>oL underlying45 F rfl rfl h7 fun a i5 F=>xA 1 F rfl fun a F=>oY ?_));refine xF (qP F rfl (fun a2=>?_) (fun a2=>?_))
   ·
    replace d:=vR a2 d;refine xP (oR0 (R:=xH) underlying25 sizeOf2 F rfl H fun a w v8 H F=>xA 2 F rfl fun a F=>xJ (xT (vJ (oE (oE ?_)))));replace d:=zR d ah;refine vJ (oE ?_);replace d:=zQ d ag;refine oE ?_;have H:=(H.s [0] rfl rfl);have H:=H.lw.rwo.rok;refine vV F rfl (oD F rfl) (oD F rfl) ?_;obtain rfl:=oj d;exact⟨_,rfl,v8,rfl,H⟩
   replace d:=vQ a2 d;refine xL (qS (xF (xU (xA 1 F rfl fun a F=>qQ F rfl rfl rfl m1 fun a F=>xA 1 F rfl fun a F=>xJ ?_))));replace d:=qX d ah;exact⟨_,Nat.lt_succ_self _,J+1,G,⟨A.1,A.2.2⟩,rfl,d,F.su,H⟩
 rintro a w ⟨rfl,F,H⟩
 have d:=xN ag;refine xF (xP (xA 1 F rfl fun a F=>?_));obtain⟨z5,c4,d⟩:=xB d;refine oI underlying29 sizeOf51 F rfl rfl rfl (H.r 0 rfl) c4 fun a p5 h8 F=>oF (s':=1) vW F rfl rfl h8 qD.f1 fun a p6 h9 F=>aY isAgg45 F rfl rfl (Sm.refl _ _) h9 (fun a v9 b7 F=>?_);obtain⟨z6,c5,d⟩:=xB d;refine oI underlying45 sizeOf25 F rfl rfl rfl b7 c5 fun a p7 b8 F=>aY isAgg25 F rfl rfl (Sm.refl _ _) b8 (fun a da b9 F=>?_);obtain⟨z7,c6,d⟩:=xB d;refine oI underlying25 sizeOf2 F rfl rfl rfl b9 c6 fun a p8 ba F=>aN isAgg2 F rfl rfl (Sm.refl _ _) ba fun a i6 F=>oR1z (R:=xH) (y:=z7) underlying25 sizeOf2 zeroValue2 rfl rfl F rfl rfl H (Eo.int i6) fun a w bb H F=>xA 1 F rfl fun a F=>xJ (xC (xP (xA 1 F rfl fun a F=>oY ?_)));refine xF ?_;obtain⟨o2,d,bc⟩:=xK d;refine xX (fun a w=>∃ (s1:List Int) (X:Value),o2= .nx s1∧Sk a 103 [(9,X)]∧Sep [] B h w [rl 1 xH 2 X s1]) ?_ ?_
 ·
  refine xW ?_;obtain⟨bd,be,d⟩:=zG d;refine oU (fun g a w=>∃ (p:Nat) (C:List Int) (f:Value),p+g=(Z.vars - 1).toNat∧zH bd g p C=some o2∧Sk a 103 [(10,xG (1+(p:Int))),(0,j),(1,n),(7,e),(9,f)]∧Sep [] B h w [rl 1 xH 2 f C,rw B 2 qD 51 e i.2]) (Z.vars - 1).toNat ?_ ?_
  ·
   exact⟨0,[z7],bb,(Nat.zero_add _),d,F.su,H⟩
  intro g3 a w ⟨p,C,f,Y,d,F,H⟩
  cases g3 with
  | zero=>
   replace d:=vY d;have l2:=dec_noIO Y;refine xC (xP (xA 2 F rfl fun a F=>oN F rfl rfl D fun a F=>oF (s':=1) kD F rfl rfl D xO.f0 fun a p9 bf F=>aN isAgg2 F rfl rfl H.sm bf fun a i7 F=>xA 1 F rfl fun a F=>xJ ?_));refine qT F rfl l2 (oM (oR (oR (vH (xF ?_)))));exact⟨C,f,(vE d),F.su,(H.s [0] rfl rfl)⟩
  | succ g3=>
   obtain⟨db,d,bg⟩:=vX d;rw[be] at d;have l2:=dec_yesIO Y;refine xC (xP (xA 2 F rfl fun a F=>oN F rfl rfl D fun a F=>oF (s':=1) kD F rfl rfl D xO.f0 fun a dc bh F=>aN isAgg2 F rfl rfl H.sm bh fun a i8 F=>xA 1 F rfl fun a F=>xJ ?_));refine qV F rfl l2 (xL (xF (xC ?_)));have j2:=k64O Y (show xZ (1) by decide) i8;have m2:=inc64O Y (show xZ (1) by decide) i8;refine xW (xP (xA 1 F rfl fun a F=>xJ (xC (xP (xA 1 F rfl fun a F=>oY ?_)))));refine xF ?_;obtain⟨o3,d,bi⟩:=xK d;refine xX (fun a w=>∃ (U:Int) (s4:Bool),o3= .nx (U,s4)∧Sk a 103 [(0,j),(1,n),(7,e),(9,f),(10,xG (1+(p:Int))),(11,xG U)]∧Sep [] B h w [rl 1 xH 2 f C,rw B 2 qD 51 e i.2]∧xZ U) ?_ ?_
   ·
    refine xW ?_;obtain⟨bj,bm,d⟩:=kU d;refine oU (fun g a w=>∃ (t:Int) (M:Bool),cF bj g (t,M)=some o3∧Sk a 103 [(0,j),(1,n),(7,e),(9,f),(10,xG (1+(p:Int))),(11,xG t),(12,.bool M)]∧Sep [] B h w [rl 1 xH 2 f C,rw B 2 qD 51 e i.2]∧xZ t) N ?_ ?_
    ·
     exact⟨0,false,d,F.su,H,(show xZ (0) by decide)⟩
    intro g4 a w ⟨t,M,d,F,H,i9⟩;obtain⟨dd,t2,de,d,a3⟩:=zK d;rw[bm] at d;refine xC (xC ?_);obtain⟨o4,d,bn⟩:=xK d;refine xX (fun a w=>∃ (s7:Bool),o4= .nx s7∧Sk a 103 [(0,j),(1,n),(7,e),(9,f),(10,xG (1+(p:Int))),(11,xG t),(12,.bool M),(76,.bool s7)]∧Sep [] B h w [rl 1 xH 2 f C,rw B 2 qD 51 e i.2]) ?_ ?_
    ·
     refine xU (xA 3 F rfl fun a F=>?_)
     rcases qU (!M) with O | O
     ·
      replace d:=vR O d;have F:=F.eb 69 rfl O;refine xA 2 F rfl fun a F=>oN F rfl rfl Q fun a F=>oF (s':=1) dA F rfl rfl Q xI.f0 fun a df bp F=>aN isAgg2 F rfl rfl H.sm bp fun a dg F=>xA 2 F rfl fun a F=>xJ ?_;exact⟨(decide (t<x0.size)),(vE d),F.su,H⟩
     replace d:=vQ O d;have F:=F.eb 69 rfl O;refine xA 7 F rfl fun a F=>xJ ?_;exact⟨false,(vE d),F.su,H⟩
    rintro a w ⟨s7,rfl,F,H⟩
    have d:=xN bn;refine xF (qP F rfl (fun a4=>?_) (fun a4=>?_))
    ·
     replace d:=vR a4 d;refine xL (xF (xW (xP (xA 1 F rfl fun a F=>xJ (xC (xP ?_))))));refine xA 1 F rfl fun a F=>xJ ?_;obtain⟨o5,d,bq⟩:=xK d;refine xX (fun a w=>∃ (W:Bool) (s9:Int),o5= .nx (W,s9)∧Sk a 103 [(0,j),(1,n),(7,e),(9,f),(10,xG (1+(p:Int))),(11,xG t),(12,.bool W)]∧Sep [] B h w [rl 1 xH 2 f C,rw B 2 qD 51 e i.2]∧xZ s9) ?_ ?_
     ·
      refine xW ?_;obtain⟨br,bt,d⟩:=kU d;refine oU (fun g a w=>∃ (I:Bool) (E:Int),cF br g (I,E)=some o5∧Sk a 103 [(0,j),(1,n),(7,e),(9,f),(10,xG (1+(p:Int))),(11,xG t),(12,.bool I),(13,xG E)]∧Sep [] B h w [rl 1 xH 2 f C,rw B 2 qD 51 e i.2]∧xZ E) N ?_ ?_
      ·
       exact⟨true,0,d,F.su,H,(show xZ (0) by decide)⟩
      intro g5 a w ⟨I,E,d,F,H,ai⟩;obtain⟨dh,t3,di,d,aj⟩:=zK d;rw[bt] at d;refine xC (xC ?_);obtain⟨o6,d,bu⟩:=xK d;refine xX (fun a w=>∃ (a5:Bool),o6= .nx a5∧Sk a 103 [(0,j),(1,n),(7,e),(9,f),(10,xG (1+(p:Int))),(11,xG t),(12,.bool I),(13,xG E),(82,.bool a5)]∧Sep [] B h w [rl 1 xH 2 f C,rw B 2 qD 51 e i.2]) ?_ ?_
      ·
       refine xU (xA 4 F rfl fun a F=>?_)
       rcases qU (decide (E<(1+(p:Int)))) with P | P
       ·
        replace d:=vR P d;have F:=F.eb 80 rfl P;refine xA 2 F rfl fun a F=>xJ ?_;exact⟨I,(vE d),F.su,H⟩
       replace d:=vQ P d;have F:=F.eb 80 rfl P;refine xA 2 F rfl fun a F=>xJ ?_;exact⟨false,(vE d),F.su,H⟩
      rintro a w ⟨a5,rfl,F,H⟩
      have d:=xN bu;refine xF (qP F rfl (fun a6=>?_) (fun a6=>?_))
      ·
       replace d:=vR a6 d;refine xL (xF (xC (xW (xU (xA 5 F rfl fun a F=>?_)))));obtain⟨z8,c7,d⟩:=xB d;refine oI underlying25 sizeOf2 F rfl rfl rfl (H.l 0 rfl) c7 fun a dj bv F=>aN isAgg2 F rfl rfl (Sm.refl _ _) bv fun a bw F=>xA 1 F rfl fun a F=>?_;obtain⟨z9,c8,d⟩:=xB d;refine oK F rfl call144 rfl H (spec_l05Left_c z9 c8 _ aA (H.r 1 rfl) ai j2 bw i9) fun a w H F=>xA 1 F rfl fun a F=>oY (qS (xF (xU (xA 1 F rfl fun a F=>?_))));obtain⟨c0,c9,d⟩:=xB d;refine kI F rfl rfl rfl c9 fun a F=>xA 1 F rfl fun a F=>xJ ?_;replace d:=qX d aj;exact⟨t3,(by omega),z9,c0,d,F.su,H,(kG c9)⟩
      replace d:=vQ a6 d;refine oM (oR (oR ?_));replace d:=eL d aj;refine vH (xF ?_);exact⟨I,E,(vE d),F.su,H,ai⟩
     rintro a w ⟨W,s9,rfl,F,H,dk⟩
     have d:=xN bq;refine xF (xP (xA 2 F rfl fun a F=>xJ (qP F rfl (fun a7=>?_) (fun a7=>?_))))
     ·
      replace d:=vR a7 d;refine xU (xA 1 F rfl fun a F=>?_);obtain⟨z11,ak,d⟩:=xB d;refine kI F rfl rfl rfl ak fun a F=>xA 1 F rfl fun a F=>oY (qS (xF ?_));replace d:=qX d a3;exact⟨t2,(by omega),z11,W,d,F.su,H,(kG ak)⟩
     replace d:=vQ a7 d;refine xL (qS (xF ?_));replace d:=qX d a3;exact⟨t2,(by omega),t,W,d,F.su,H,i9⟩
    replace d:=vQ a4 d;refine oM (oR (oR ?_));replace d:=eL d a3;refine vH (xF ?_);exact⟨t,M,(vE d),F.su,H,i9⟩
   rintro a w ⟨U,s4,rfl,F,H,i15⟩
   have d:=xN bi;refine xF (xU (xA 2 F rfl fun a F=>oR1z (R:=xH) (y:=U) underlying25 sizeOf2 zeroValue2 rfl rfl F rfl rfl H (Eo.int i15) (fun a w dl H F=>?_)));obtain⟨z12,c11,d⟩:=xB d;refine oPL (sz:=1) (R:=xH) (z:=(xG 0)) (bytes:=8) underlying25 (by kernel_rfl) rfl rfl F rfl rfl rfl (H.s [1,0,2] rfl rfl) c11 fun a w v15 H F=>xA 1 F rfl fun a F=>oY (qS (xF (xU (xA 1 F rfl fun a F=>o_incO F rfl rfl rfl m2 fun a F=>xA 1 F rfl fun a F=>xJ ?_))));replace d:=qX d bg;exact⟨_,Nat.lt_succ_self _,p+1,z12,v15,(by omega),d,F.su,H⟩
 rintro a w ⟨s1,X,rfl,F,H⟩
 have d:=xN bc;refine xF (xP (xA 3 F rfl fun a F=>xJ (xT ?_)));have H:=H.lw.rwo.rok;refine vV F rfl (oD F rfl) (oD F rfl) ?_;obtain rfl:=oj d;exact⟨_,rfl,X,rfl,H⟩
end Go.Proofs.YtgnfibiaaipibaaGreat
