import Derived.Test.YtgnfibiaaipibaaGreatP2
import Derived.Test.YtgnfibiaaipibaaGreatNK
namespace Go.Proofs.YtgnfibiaaipibaaGreat
open Go.Proofs.Tryz
set_option maxHeartbeats 1000000
set_option linter.unusedVariables false
set_option linter.unusedSimpArgs false
set_option maxRecDepth 100000
open Go.RowKit
def eU (N:Nat) (e f:List Int):Option (List Int):=
 vT (σ:=Int×(List Int)) (
  cF (σ:=Int×(List Int)) (ρ:=(List Int)) (fun(s:Int×(List Int))=>
    match s with
    | (c,d)=>
    if (decide (c<(d.length:Int))) then
     xY (ix d c) fun h=>
     xY (ix f c) fun i=>
     xY (ck (h+i)) fun j=>
     xY (rm j 2) fun n=>
     xY (ck (c+1)) fun p=>
     some (.go (p,(d.set (c).toNat n)))
    else
     some (.brk (c,d))) N (0,e)) fun(x,t)=>
 some t
theorem spec_l09Add_c {B:Nat→Prop} {N:Nat} {x D:List Int} (r:(List Int)) (e:eU N x D=some r) {f:Value} {n:Value} {p:List Nat} (h:World) (hN:∀ c,B c→c<h.heap.size) (Q:Sep p B h h [rl 1 xH 2 f x]) (R:Bo B h (Sl 1 xH) n D):Calls Tryz.prog 145 #[f,n] h (Gv (fun v w'=>v= .tuple #[]∧Sep p B h w' [rl 1 xH 2 f r])):=by
 unfold eU at e
 refine xV (L:=[(0,f),(1,n)]) func145 rfl rfl rfl (sc rfl (sc rfl sn)) (fun a F=>?_);have H:=Q;refine xP (xA 1 F rfl fun a F=>xJ ?_);obtain⟨E,e,K⟩:=xK e;refine xX (fun a w=>∃ (y:Int) (z:List Int),E= .nx (y,z)∧Sk a 24 [(0,f)]∧Sep p B h w [rl 1 xH 2 f z]∧xZ y) ?_ ?_
 ·
  refine xW ?_;obtain⟨M,O,e⟩:=kU e;refine oU (fun g a w=>∃ (i:Int) (j:List Int),cF M g (i,j)=some E∧Sk a 24 [(0,f),(1,n),(4,xG i)]∧Sep p B h w [rl 1 xH 2 f j]∧xZ i) N ?_ ?_
  ·
   exact⟨0,x,e,F.su,H,(show xZ (0) by decide)⟩
  intro g1 a w ⟨i,j,e,F,H,S⟩;obtain⟨Z,T,a0,e,C⟩:=zK e;rw[O] at e;refine xC (xP (xA 2 F rfl fun a F=>oL underlying25 F rfl rfl (H.l 0 rfl) fun a i2 F=>xA 1 F rfl fun a F=>xJ (qP F rfl (fun t=>?_) (fun t=>?_))))
  ·
   replace e:=vR t e;refine xL (xF (xC (xW ?_)));obtain⟨z1,A,e⟩:=xB e;obtain⟨z2,U,e⟩:=xB e;obtain⟨z3,G,e⟩:=xB e;obtain⟨V,I,e⟩:=xB e;refine xD H (by kernel_rfl) fun w H=>vM 0 rfl (by kernel_rfl) (oJ F rfl (fun w l=>xM F rfl) fun a F=>vM 1 rfl (by kernel_rfl) (oJ F rfl (fun w l=>xM F rfl) fun a F=>vM 2 rfl (by kernel_rfl) (oJ F rfl (fun w l=>xM F rfl) fun a F=>vM 3 rfl (by kernel_rfl) (oJ F rfl (fun w l=>xM F rfl) fun a F=>vM 6 rfl (by kernel_rfl) (oJ F rfl (fun w l=>xM F rfl) (fun a F=>?_))))));refine vM 7 rfl (by kernel_rfl) (oJ F rfl (fun w l=>xM F rfl) fun a F=>qY 8 rfl (by kernel_rfl) (vI underlying25 sizeOf2 F rfl rfl rfl R U fun a p1 W F=>qY 9 rfl (by kernel_rfl) (vlI isAgg2 F rfl rfl H.v W fun a i3 F=>xE H 4 rfl (by kernel_rfl) (oI underlying25 sizeOf2 F rfl rfl rfl (H.l 0 rfl) A fun a p2 X F=>xJ ⟨⟨_,H⟩,?_⟩))));refine xE H 5 rfl (by kernel_rfl) (aN isAgg2 F rfl rfl (Sm.refl _ _) X fun a i4 F=>xJ ⟨⟨_,H⟩,?_⟩);refine vM 10 rfl (by kernel_rfl) (oJ F rfl (fun w l=>r_add F rfl rfl G) fun a F=>vM 11 rfl (by kernel_rfl) (oJ F rfl (fun w l=>r_rem F rfl rfl I) fun a F=>xE H 12 rfl (by kernel_rfl) (oRl underlying25 sizeOf2 F rfl rfl rfl H 0 rfl A fun a p3 h3 P F=>xJ ⟨⟨_,H⟩,?_⟩)));refine xE H 13 rfl (by kernel_rfl) ?_;have H:=H.lw;refine oS sizeOf2 F rfl rfl rfl H P (ix_lt A) (Eo.int (rm64 I (kG G) (show xZ (2) by decide))) rfl rfl (fun w H=>?_);have H:=H.tl;refine xJ ⟨⟨_,H⟩,?_⟩;refine bF (by kernel_rfl) (qS (xF (xU (xA 1 F rfl fun a F=>?_))));obtain⟨Y,J,e⟩:=xB e;refine kI F rfl rfl rfl J fun a F=>xA 1 F rfl fun a F=>xJ ?_;replace e:=qX e C;exact⟨T,(by omega),Y,(j.set (i).toNat V),e,F.su,H,(kG J)⟩
  replace e:=vQ t e;refine oM (oR (oR ?_));replace e:=eL e C;refine vH (xF ?_);exact⟨i,j,(vE e),F.su,H,S⟩
 rintro a w ⟨y,z,rfl,F,H,i5⟩
 have e:=xN K;refine x_ends (bodyPost_ret (results_none rfl _ _ _) F.d ?_);obtain rfl:=oj e;exact⟨_,rfl,rfl,H⟩
theorem spec_l09Add_w_c {B:Nat→Prop} {N:Nat} {x D:List Int} (r:(List Int)) (e:eU N x D=some r) {f:Value} {n:Value} {p:List Nat} (h:World) (hN:∀ c,B c→c<h.heap.size) (Q:Sep p B h h [ow (V:=(Sl 1 xH)) f x]) (R:Bo B h (Sl 1 xH) n D):Calls Tryz.prog 145 #[f,n] h (Gv (fun v w'=>v= .tuple #[]∧Sep p B h w' [ow (V:=Sl 1 xH) f r])):=by
 unfold eU at e
 refine xV (L:=[(0,f),(1,n)]) func145 rfl rfl rfl (sc rfl (sc rfl sn)) (fun a F=>?_);have H:=Q;refine xP (xA 1 F rfl fun a F=>xJ ?_);obtain⟨E,e,K⟩:=xK e;refine xX (fun a w=>∃ (y:Int) (z:List Int),E= .nx (y,z)∧Sk a 24 [(0,f)]∧Sep p B h w [ow (V:=(Sl 1 xH)) f z]∧xZ y) ?_ ?_
 ·
  refine xW ?_;obtain⟨M,O,e⟩:=kU e;refine oU (fun g a w=>∃ (i:Int) (j:List Int),cF M g (i,j)=some E∧Sk a 24 [(0,f),(1,n),(4,xG i)]∧Sep p B h w [ow (V:=(Sl 1 xH)) f j]∧xZ i) N ?_ ?_
  ·
   exact⟨0,x,e,F.su,H,(show xZ (0) by decide)⟩
  intro g1 a w ⟨i,j,e,F,H,S⟩;obtain⟨a0,T,a1,e,C⟩:=zK e;rw[O] at e;refine xC (xP (xA 2 F rfl fun a F=>oL underlying25 F rfl rfl (H.o 0 rfl) fun a i2 F=>xA 1 F rfl fun a F=>xJ (qP F rfl (fun t=>?_) (fun t=>?_))))
  ·
   replace e:=vR t e;refine xL (xF (xC (xW ?_)));obtain⟨z1,A,e⟩:=xB e;obtain⟨z2,U,e⟩:=xB e;obtain⟨z3,G,e⟩:=xB e;obtain⟨W,I,e⟩:=xB e;refine xD H (by kernel_rfl) fun w H=>vM 0 rfl (by kernel_rfl) (oJ F rfl (fun w l=>xM F rfl) fun a F=>vM 1 rfl (by kernel_rfl) (oJ F rfl (fun w l=>xM F rfl) fun a F=>vM 2 rfl (by kernel_rfl) (oJ F rfl (fun w l=>xM F rfl) fun a F=>vM 3 rfl (by kernel_rfl) (oJ F rfl (fun w l=>xM F rfl) fun a F=>vM 6 rfl (by kernel_rfl) (oJ F rfl (fun w l=>xM F rfl) (fun a F=>?_))))));refine vM 7 rfl (by kernel_rfl) (oJ F rfl (fun w l=>xM F rfl) fun a F=>qY 8 rfl (by kernel_rfl) (vI underlying25 sizeOf2 F rfl rfl rfl R U fun a p1 X F=>qY 9 rfl (by kernel_rfl) (vlI isAgg2 F rfl rfl H.v X fun a i3 F=>xE H 4 rfl (by kernel_rfl) (oI underlying25 sizeOf2 F rfl rfl rfl (H.o 0 rfl) A fun a p2 Y F=>xJ ⟨⟨_,H⟩,?_⟩))));refine xE H 5 rfl (by kernel_rfl) (aN isAgg2 F rfl rfl (Sm.refl _ _) Y fun a i4 F=>xJ ⟨⟨_,H⟩,?_⟩);refine vM 10 rfl (by kernel_rfl) (oJ F rfl (fun w l=>r_add F rfl rfl G) fun a F=>vM 11 rfl (by kernel_rfl) (oJ F rfl (fun w l=>r_rem F rfl rfl I) fun a F=>xE H 12 rfl (by kernel_rfl) (oRo underlying25 sizeOf2 F rfl rfl rfl H 0 rfl A fun a p3 h3 P F=>xJ ⟨⟨_,H⟩,?_⟩)));refine xE H 13 rfl (by kernel_rfl) (oSo sizeOf2 F rfl rfl rfl H P (ix_lt A) (rm64 I (kG G) (show xZ (2) by decide)) rfl fun w H=>xJ ⟨⟨_,H⟩,?_⟩);refine bF (by kernel_rfl) (qS (xF (xU (xA 1 F rfl fun a F=>?_))));obtain⟨Z,J,e⟩:=xB e;refine kI F rfl rfl rfl J fun a F=>xA 1 F rfl fun a F=>xJ ?_;replace e:=qX e C;exact⟨T,(by omega),Z,(j.set (i).toNat W),e,F.su,H,(kG J)⟩
  replace e:=vQ t e;refine oM (oR (oR ?_));replace e:=eL e C;refine vH (xF ?_);exact⟨i,j,(vE e),F.su,H,S⟩
 rintro a w ⟨y,z,rfl,F,H,i5⟩
 have e:=xN K;refine x_ends (bodyPost_ret (results_none rfl _ _ _) F.d ?_);obtain rfl:=oj e;exact⟨_,rfl,rfl,H⟩
def gT (N:Nat) (x0:Template) (c:Instance):Option ((List Int)×Bool):=
 vT (σ:=(List (List Int))×(List Int)) (
  qJ (σ:=(List (List Int))×(List Int)) (ρ:=(List Int)×Bool) (fun (k1:Nat) (j:Con) (s:(List (List Int))×(List Int))=>
    match s with
    | (s1,s2)=>
    xY (ix x0.rels j.rel) fun z1=>
    xY (aG N z1) fun z2=>
    vT (σ:=(List (List Int))×(List Int)) (
     qJ (σ:=(List (List Int))×(List Int)) (ρ:=(Ctl ((List (List Int))×(List Int)) ((List Int)×Bool))) (fun (k2:Nat) (A:(List Int)) (s:(List (List Int))×(List Int))=>
       match s with
       | (n,p)=>
       xY (ck (c.vars+1)) fun z3=>
       xY (mkz (0:Int) z3) fun z4=>
       vT (σ:=(List Int)) (
        qJ (σ:=(List Int)) (ρ:=(Ctl ((List (List Int))×(List Int)) (Ctl ((List (List Int))×(List Int)) ((List Int)×Bool)))) (fun (k3:Nat) (B:Int) (C:(List Int))=>
         xY (ix C B) fun z5=>
         xY (ix A (k3:Int)) fun z6=>
         xY (ck (z5+z6)) fun z7=>
         xY (rm z7 2) fun z8=>
         some (.go (C.set (B).toNat z8))) j.scope 0 z4) fun D=>
       xY (ix A (j.scope.length:Int)) fun z9=>
       xY (ix D c.vars) fun ah=>
       vT (σ:=(List Int)) (
        qJ (σ:=(List Int)) (ρ:=(Ctl ((List (List Int))×(List Int)) (Ctl ((List (List Int))×(List Int)) ((List Int)×Bool)))) (fun (k4:Nat) (x5 t:(List Int))=>
         xY (ix p (k4:Int)) fun E=>
         xY (ix t E) fun F=>
         if (F==1) then
          xY (eU N t x5) fun G=>
          some (.go G)
         else
          some (.go t)) n 0 (D.set (c.vars).toNat z9)) fun h=>
       vT (σ:=Int) (
        cF (σ:=Int) (ρ:=(Ctl ((List (List Int))×(List Int)) (Ctl ((List (List Int))×(List Int)) ((List Int)×Bool)))) (fun(i:Int)=>
         vT (σ:=Bool) (
          if (decide (i<c.vars)) then  xY (ix h i) fun H=>
           some (.nx (H==0)) else  some (.nx false)) fun I=>
         if I then
          xY (ck (i+1)) fun J=>
          some (.go J)
         else
          some (.brk i)) N 0) fun f=>
       if (f==c.vars) then
        xY (ix h f) fun K=>
        if (K==1) then
         some (.ret (.ret ([],false)))
        else
         some (.go (n,p))
       else
        vT (σ:=Int×(List (List Int))) (
         cF (σ:=Int×(List (List Int))) (ρ:=(Ctl ((List (List Int))×(List Int)) (Ctl ((List (List Int))×(List Int)) ((List Int)×Bool)))) (fun(s:Int×(List (List Int)))=>
           match s with
           | (d,e)=>
           if (decide (d<(e.length:Int))) then
            xY (ix e d) fun x=>
            xY (ix x f) fun L=>
            if (L==1) then
             xY (eU N x h) fun M=>
             xY (ck (d+1)) fun O=>
             some (.go (O,(e.set (d).toNat M)))
            else
             xY (ck (d+1)) fun P=>
             some (.go (P,e))
           else
            some (.brk (d,e))) N (0,n)) fun(ai,Q)=>
        xY (ap Q ([h])) fun R=>
        xY (ap p ([f])) fun S=>
        some (.go (R,S))) z2 0 (s1,s2)) fun(T,U)=>
    some (.go (T,U))) c.cons 0 ([],[])) fun(V,W)=>
 xY (mkz (0:Int) c.vars) fun X=>
 vT (σ:=(List Int)) (
  qJ (σ:=(List Int)) (ρ:=(List Int)×Bool) (fun (k5:Nat) (x6 y:(List Int))=>
   xY (ix W (k5:Int)) fun z=>
   xY (ix x6 c.vars) fun Y=>
   xY (ix y z) fun aj=>
   some (.go (y.set (z).toNat Y))) V 0 X) fun Z=>
 some (Z,true)
theorem spec_l09Solve_c {B:Nat→Prop} {N:Nat} {x0:Template} {X:Instance} (r:(List Int)×Bool) (d:gT N x0 X=some r) {A:Value} {j:Value} (E:World) (hN:∀ c,B c→c<E.heap.size) (A0:Bo B E (Pt 2 xI) A x0) (f:Bo B E (Pt 2 xO) j X):Calls Tryz.prog 113 #[A,j] E (Gv (fun v w'=>∃ (bw:Value),v= .tuple #[bw,.bool r.2]∧Sep [] B E w' [rl 1 xH 2 bw r.1])):=by
 unfold gT at d
 refine xV (L:=[(0,A),(1,j)]) func113 rfl rfl rfl (sc rfl (sc rfl sn)) (fun a F=>?_);have H:=Sep.start hN;refine xP (xA 2 F rfl fun a F=>qO (oR0 (R:=(vO 1 xH)) underlying45 sizeOf25 F rfl H fun a w v2 H F=>xA 1 F rfl fun a F=>oY ?_));refine xF (xP (oR0 (R:=xH) underlying25 sizeOf2 F rfl H fun a w v3 H F=>xA 1 F rfl fun a F=>xJ (xC (xP (xA 1 F rfl fun a F=>?_)))));refine xJ ?_;obtain⟨o1,d,c0⟩:=xK d;refine xX (fun a w=>∃ (Y:List (List Int)) (v4:Value) (s2:List Int) (v5:Value),o1= .nx (Y,s2)∧Sk a 214 [(1,j),(6,v4),(7,v5)]∧Sep [] B E w [rl 1 xH 2 v5 s2,rl 1 (vO 1 xH) 25 v4 Y]) ?_ ?_
 ·
  refine xW ?_;obtain⟨cx,cy,d⟩:=qE d;refine oU (fun g a w=>∃ (n:Nat) (t1:List Con) (s3:List (List Int)) (v6:Value) (s4:List Int) (v7:Value),(n≤X.cons.length∧X.cons.drop n=t1)∧t1.length=g∧qJ cx t1 n (s3,s4)=some o1∧Sk a 214 [(8,xG (n:Int)),(0,A),(1,j),(6,v6),(7,v7)]∧Sep [] B E w [rl 1 xH 2 v7 s4,rl 1 (vO 1 xH) 25 v6 s3]) X.cons.length ?_ ?_
  ·
   exact⟨0,X.cons,[],v2,[],v3,⟨Nat.zero_le _,rfl⟩,rfl,d,F.su,H⟩
  intro g1 a w ⟨n,t1,s3,v6,s4,v7,J,cz,d,F,H⟩
  cases t1 with
  | nil=>
   replace d:=qH d;have q1:=qG J.1 J.2;have l1:=vA q1;refine xC (xP (xA 2 F rfl fun a F=>oN F rfl rfl f fun a F=>oF (s':=1) bU F rfl rfl f xO.f1 fun a p1 h1 F=>aY isAgg33 F rfl rfl H.sm h1 fun a v8 h2 F=>oL underlying33 F rfl rfl h2 fun a i1 F=>xA 1 F rfl fun a F=>oY ?_));refine xF (qT F rfl l1 (oM (oR (oR (vH (xF ?_))))));exact⟨s3,v6,s4,v7,(vE d),F.su,H⟩
  | cons x2 t1=>
   subst cz;replace J:=oO J.2;have y1:=oZ J.2.1;obtain⟨hq,d,hn1⟩:=oV d;rw[cy] at d;have l1:=qM J.1;refine xC (xP (xA 2 F rfl fun a F=>oN F rfl rfl f fun a F=>oF (s':=1) bU F rfl rfl f xO.f1 fun a p2 h3 F=>aY isAgg33 F rfl rfl H.sm h3 fun a v9 h4 F=>oL underlying33 F rfl rfl h4 fun a i2 F=>xA 1 F rfl fun a F=>oY ?_));refine xF (qV F rfl l1 (xL (xF (xC ?_))));have j1:=fE (Nat.le_of_lt J.1) i2;have m1:=zC J.1 i2;refine xW (xC ?_);obtain⟨z1,c1,d⟩:=xB d;obtain⟨Z,c2,d⟩:=xB d;refine xD H (by kernel_rfl) fun w H=>vM 0 rfl (by kernel_rfl) (oJ F rfl (fun w l=>xM F rfl) fun a F=>qY 1 rfl (by kernel_rfl) (vN F rfl rfl A0 fun a F=>qY 2 rfl (by kernel_rfl) (vF (s':=1) kR F rfl rfl A0 xI.f1 fun a p3 h5 F=>qY 3 rfl (by kernel_rfl) (vlS isAgg29 F rfl rfl H.v h5 fun a hr h6 F=>vM 4 rfl (by kernel_rfl) (oJ F rfl (fun w l=>xM F rfl) (fun a F=>?_))))));refine qY 5 rfl (by kernel_rfl) (vN F rfl rfl f fun a F=>qY 6 rfl (by kernel_rfl) (vF (s':=1) bU F rfl rfl f xO.f1 fun a p4 h7 F=>qY 7 rfl (by kernel_rfl) (vlS isAgg33 F rfl rfl H.v h7 fun a hs h8 F=>vM 8 rfl (by kernel_rfl) (oJ F rfl (fun w l=>xM F rfl) fun a F=>qY 9 rfl (by kernel_rfl) (vI underlying33 sizeOf119 F rfl rfl rfl h8 y1 fun a p5 h9 F=>qY 10 rfl (by kernel_rfl) ?_)))));refine vF (s':=1) fR F rfl rfl h9 vU.f0 fun a p6 d0 F=>qY 11 rfl (by kernel_rfl) (vlI isAgg2 F rfl rfl H.v d0 fun a i3 F=>qY 12 rfl (by kernel_rfl) (vI underlying29 sizeOf51 F rfl rfl rfl h6 c1 fun a p7 d1 F=>xE H 13 rfl (by kernel_rfl) (oG F rfl call64 rfl (spec_l09Equations_c Z c2 _ aA (H.a d1)) (fun a vv w ⟨C,ht,S⟩ F=>?_))));subst vv;have H:=H.r1 S n0;refine xJ ⟨⟨_,H⟩,?_⟩;refine vM 14 rfl (by kernel_rfl) (oJ F rfl (fun w l=>zM F rfl) fun a F=>bF (by kernel_rfl) (xF (xP (xA 1 F rfl fun a F=>xJ ?_))));obtain⟨o2,d,hk2⟩:=xK d;refine xX (fun a w=>∃ (s5:List (List Int)) (aw:Value) (s6:List Int) (ax:Value),o2= .nx (s5,s6)∧Sk a 214 [(0,A),(1,j),(6,aw),(7,ax),(8,xG (n:Int))]∧Sep [] B E w [rl 1 xH 2 ax s6,rl 1 (vO 1 xH) 25 aw s5]) ?_ ?_
   ·
    refine xW ?_;obtain⟨d2,d3,d⟩:=qE d;refine oU (fun g a w=>∃ (t:Nat) (t2 p:List (List Int)) (h:Value) (i:List Int) (e:Value),(t≤Z.length∧Z.drop t=t2)∧t2.length=g∧qJ d2 t2 t (p,i)=some o2∧Sk a 214 [(10,xG (t:Int)),(0,A),(1,j),(6,h),(7,e),(8,xG (n:Int)),(9,C)]∧Sep [] B E w [rl 1 (vO 1 xH) 25 C Z,rl 1 xH 2 e i,rl 1 (vO 1 xH) 25 h p]) Z.length ?_ ?_
    ·
     exact⟨0,Z,s3,v6,s4,v7,⟨Nat.zero_le _,rfl⟩,rfl,d,F.su,H⟩
    intro g2 a w ⟨t,t2,p,h,i,e,G,d4,d,F,H⟩
    cases t2 with
    | nil=>
     replace d:=qH d;have q2:=qG G.1 G.2;have l2:=vA q2;refine xC (xP (xA 2 F rfl fun a F=>oL underlying45 F rfl rfl (H.l 0 rfl) fun a i4 F=>xA 1 F rfl fun a F=>xJ (qT F rfl l2 (oM ?_))));refine oR (oR (vH (xF ?_)));exact⟨p,h,i,e,(vE d),F.su,(H.s [1,2] rfl rfl)⟩
    | cons x3 t2=>
     subst d4;replace G:=oO G.2;have y2:=oZ G.2.1;obtain⟨hu,d,b4⟩:=oV d;rw[d3] at d;have l2:=qM G.1;refine xC (xP (xA 2 F rfl fun a F=>oL underlying45 F rfl rfl (H.l 0 rfl) fun a i5 F=>xA 1 F rfl fun a F=>xJ (qV F rfl l2 (xL ?_))));refine xF (xC ?_);have j2:=fE (Nat.le_of_lt G.1) i5;have m2:=zC G.1 i5;refine xW (xP (xA 1 F rfl fun a F=>oN F rfl rfl f fun a F=>oF (s':=1) kD F rfl rfl f xO.f0 fun a p8 d5 F=>aN isAgg2 F rfl rfl H.sm d5 (fun a i6 F=>?_)));obtain⟨z3,c3,d⟩:=xB d;refine kI F rfl rfl rfl c3 (fun a F=>?_);obtain⟨z4,c4,d⟩:=xB d;refine oRM (sz:=1) (R:=xH) (z:=(xG 0)) (bytes:=8) underlying25 (by kernel_rfl) rfl (by decide) (by decide) (fun w=>⟨rfl,by decide,rfl⟩) F rfl rfl rfl c4 H fun a w d6 H F=>xA 1 F rfl fun a F=>qO (xA 1 F rfl fun a F=>oN F rfl rfl f fun a F=>oF (s':=1) bU F rfl rfl f xO.f1 fun a p9 d7 F=>aY isAgg33 F rfl rfl H.sm d7 fun a hv d8 F=>xA 1 F rfl fun a F=>?_);refine oI underlying33 sizeOf119 F rfl rfl rfl d8 y1 fun a hw d9 F=>oF (s':=1) zV F rfl rfl d9 vU.f1 fun a hx da F=>aY isAgg25 F rfl rfl H.sm da fun a hy db F=>oL underlying25 F rfl rfl db fun a i7 F=>xA 1 F rfl fun a F=>xJ (xC (xP (xA 1 F rfl fun a F=>?_)));refine xJ ?_;obtain⟨o3,d,dc⟩:=xK d;refine xX (fun a w=>∃ (s9:List Int) (ay:Value),o3= .nx s9∧Sk a 214 [(0,A),(1,j),(6,h),(7,e),(8,xG (n:Int)),(9,C),(10,xG (t:Int)),(11,ay),(12,xG (x2.scope.length:Int))]∧Sep [] B E w [rl 1 xH 2 ay s9,rl 1 (vO 1 xH) 25 C Z,rl 1 xH 2 e i,rl 1 (vO 1 xH) 25 h p]) ?_ ?_
     ·
      refine xW ?_;obtain⟨dd,de,d⟩:=qE d;refine oU (fun g a w=>∃ (k3:Nat) (t3 ag:List Int) (ah:Value),(k3≤x2.scope.length∧x2.scope.drop k3=t3)∧t3.length=g∧qJ dd t3 k3 ag=some o3∧Sk a 214 [(13,xG (k3:Int)),(0,A),(1,j),(6,h),(7,e),(8,xG (n:Int)),(9,C),(10,xG (t:Int)),(11,ah),(12,xG (x2.scope.length:Int))]∧Sep [] B E w [rl 1 xH 2 ah ag,rl 1 (vO 1 xH) 25 C Z,rl 1 xH 2 e i,rl 1 (vO 1 xH) 25 h p]) x2.scope.length ?_ ?_
      ·
       exact⟨0,x2.scope,z4,d6,⟨Nat.zero_le _,rfl⟩,rfl,d,F.su,H⟩
      intro g3 a w ⟨k3,t3,ag,ah,M,df,d,F,H⟩
      cases t3 with
      | nil=>
       replace d:=qH d;have q3:=qG M.1 M.2;have l3:=vA q3;refine xC (xP (xA 3 F rfl fun a F=>xJ (qT F rfl l3 (oM (oR ?_)))));refine oR (vH (xF ?_));exact⟨ag,ah,(vE d),F.su,H⟩
      | cons x4 t3=>
       subst df;replace M:=oO M.2;have y3:=oZ M.2.1;obtain⟨hz,d,dg⟩:=oV d;rw[de] at d;have l3:=qM M.1;refine xC (xP (xA 3 F rfl fun a F=>xJ (qV F rfl l3 (xL (xF ?_)))));refine xC ?_;have j3:=fE (Nat.le_of_lt M.1) i7;have m3:=zC M.1 i7;refine xW (xP (xA 1 F rfl fun a F=>oN F rfl rfl f fun a F=>oF (s':=1) bU F rfl rfl f xO.f1 fun a hA dh F=>aY isAgg33 F rfl rfl H.sm dh fun a hB di F=>xA 1 F rfl fun a F=>oI underlying33 sizeOf119 F rfl rfl rfl di y1 fun a hC dj F=>oF (s':=1) zV F rfl rfl dj vU.f1 fun a hD dk F=>aY isAgg25 F rfl rfl H.sm dk (fun a hE dl F=>?_)));refine xA 1 F rfl fun a F=>oI underlying25 sizeOf2 F rfl rfl rfl dl y3 fun a hF dm F=>aN isAgg2 F rfl rfl H.sm dm fun a i8 F=>xA 1 F rfl fun a F=>xJ ?_;obtain⟨z5,c5,d⟩:=xB d;obtain⟨z6,c6,d⟩:=xB d;obtain⟨z7,c7,d⟩:=xB d;obtain⟨z8,c8,d⟩:=xB d;obtain⟨w1,rfl⟩:∃ x,x=w:=⟨_,rfl⟩;have hG:=H.sm;obtain⟨X1,N1,g4,e1,H,dq,hH⟩:=(H.s [1,0,2,3] rfl rfl).fza;have dr:=g4.ld;refine xD H (by kernel_rfl) fun w H=>vM 0 rfl (by kernel_rfl) (oJ F rfl (fun w l=>xM F rfl) fun a F=>vM 1 rfl (by kernel_rfl) (oJ F rfl (fun w l=>xM F rfl) fun a F=>vM 2 rfl (by kernel_rfl) (oJ F rfl (fun w l=>xM F rfl) fun a F=>vM 3 rfl (by kernel_rfl) (oJ F rfl (fun w l=>xM F rfl) fun a F=>vM 6 rfl (by kernel_rfl) (oJ F rfl (fun w l=>xM F rfl) (fun a F=>?_))))));refine vM 7 rfl (by kernel_rfl) (oJ F rfl (fun w l=>xM F rfl) fun a F=>qY 8 rfl (by kernel_rfl) (vI underlying45 sizeOf25 F rfl rfl rfl dr y2 fun a hI ds F=>qY 9 rfl (by kernel_rfl) (vlS isAgg25 F rfl rfl H.v ds fun a hK du F=>vM 10 rfl (by kernel_rfl) (oJ F rfl (fun w l=>xM F rfl) fun a F=>qY 11 rfl (by kernel_rfl) (vI underlying25 sizeOf2 F rfl rfl rfl du c6 fun a hL dw F=>qY 12 rfl (by kernel_rfl) ?_)))));refine vlI isAgg2 F rfl rfl H.v dw fun a i9 F=>xE H 4 rfl (by kernel_rfl) (oI underlying25 sizeOf2 F rfl rfl rfl (H.l 0 rfl) c5 fun a hM dx F=>xJ ⟨⟨_,H⟩,?_⟩);refine xE H 5 rfl (by kernel_rfl) (aN isAgg2 F rfl rfl (Sm.refl _ _) dx fun a hO F=>xJ ⟨⟨_,H⟩,?_⟩);refine vM 13 rfl (by kernel_rfl) (oJ F rfl (fun w l=>r_add F rfl rfl c7) fun a F=>vM 14 rfl (by kernel_rfl) (oJ F rfl (fun w l=>r_rem F rfl rfl c8) fun a F=>xE H 15 rfl (by kernel_rfl) (oRl underlying25 sizeOf2 F rfl rfl rfl H 0 rfl c5 fun a hP hQ dy F=>xJ ⟨⟨_,H⟩,?_⟩)));refine xE H 16 rfl (by kernel_rfl) ?_;have H:=H.lw;refine oS sizeOf2 F rfl rfl rfl H dy (ix_lt c5) (Eo.int (rm64 c8 (kG c7) (show xZ (2) by decide))) rfl rfl (fun w H=>?_);have H:=H.tl;refine xJ ⟨⟨_,H⟩,?_⟩;refine bF (by kernel_rfl) (qS (xF (xU (xA 1 F rfl fun a F=>qQ F rfl rfl rfl m3 fun a F=>xA 1 F rfl fun a F=>xJ ?_))));replace d:=qX d dg;exact⟨_,Nat.lt_succ_self _,k3+1,t3,(ag.set (x4).toNat z8),ah,⟨M.1,M.2.2⟩,rfl,d,F.su,((dq.1 H (Ns.all ⟨n0,⟨n0,⟨n0,trivial⟩⟩⟩)).s [1,0,2,3] rfl rfl)⟩
     rintro a w ⟨s9,ay,rfl,F,H⟩
     have d:=xN dc;refine xF (xC ?_);obtain⟨z9,c9,d⟩:=xB d;obtain⟨hR,c10,d⟩:=xB d;obtain⟨w2,rfl⟩:∃ x,x=w:=⟨_,rfl⟩;have b5:=H.sm;obtain⟨X2,N2,g5,e2,H,ab,hS⟩:=(H.s [1,0,2,3] rfl rfl).fza;have dz:=g5.ld;refine xD H (by kernel_rfl) fun w H=>vM 0 rfl (by kernel_rfl) (oJ F rfl (fun w l=>xM F rfl) fun a F=>vM 1 rfl (by kernel_rfl) (oJ F rfl (fun w l=>xM F rfl) fun a F=>qY 2 rfl (by kernel_rfl) (vN F rfl rfl f fun a F=>qY 3 rfl (by kernel_rfl) (vF (s':=1) kD F rfl rfl f xO.f0 fun a hT e0 F=>qY 4 rfl (by kernel_rfl) (vlI isAgg2 F rfl rfl (fun w l=>(b5.trans (Sm.mono (H.v w l) ab.2.2))) e0 (fun a hU F=>?_))))));refine vM 5 rfl (by kernel_rfl) (oJ F rfl (fun w l=>xM F rfl) fun a F=>vM 6 rfl (by kernel_rfl) (oJ F rfl (fun w l=>xM F rfl) fun a F=>qY 7 rfl (by kernel_rfl) (vI underlying45 sizeOf25 F rfl rfl rfl dz y2 fun a hV h32 F=>qY 8 rfl (by kernel_rfl) (vlS isAgg25 F rfl rfl H.v h32 fun a hW h33 F=>vM 9 rfl (by kernel_rfl) (oJ F rfl (fun w l=>xM F rfl) fun a F=>qY 10 rfl (by kernel_rfl) ?_)))));refine vI underlying25 sizeOf2 F rfl rfl rfl h33 c9 fun a hX h34 F=>qY 11 rfl (by kernel_rfl) (vlI isAgg2 F rfl rfl H.v h34 fun a i12 F=>xE H 12 rfl (by kernel_rfl) (oRl underlying25 sizeOf2 F rfl rfl rfl H 0 rfl c10 fun a hY hZ rp2 F=>xJ ⟨⟨_,H⟩,?_⟩));refine xE H 13 rfl (by kernel_rfl) ?_;have H:=H.lw;refine oS sizeOf2 F rfl rfl rfl H rp2 (ix_lt c10) (Eo.int i12) rfl rfl (fun w H=>?_);have H:=H.tl;refine xJ ⟨⟨_,H⟩,?_⟩;refine bF (by kernel_rfl) (xF (xC (xP (xA 1 F rfl fun a F=>xJ ?_))));obtain⟨o4,d,e6⟩:=xK d;refine xX (fun a w=>∃ (P:List Int) (D:Value),o4= .nx P∧Sk a 214 [(0,A),(1,j),(6,h),(7,e),(8,xG (n:Int)),(9,C),(10,xG (t:Int)),(11,D)]∧Sep X2 N2 w2 w [rl 1 xH 2 D P,rl 1 xH 2 e i,rl 1 (vO 1 xH) 25 h p]) ?_ ?_
     ·
      refine xW ?_;obtain⟨e7,e8,d⟩:=qE d;refine oU (fun g a w=>∃ (k4:Nat) (t4:List (List Int)) (ac:List Int) (Q:Value),(k4≤p.length∧p.drop k4=t4)∧t4.length=g∧qJ e7 t4 k4 ac=some o4∧Sk a 214 [(15,xG (k4:Int)),(0,A),(1,j),(6,h),(7,e),(8,xG (n:Int)),(9,C),(10,xG (t:Int)),(11,Q)]∧Sep X2 N2 w2 w [rl 1 xH 2 Q ac,rl 1 xH 2 e i,rl 1 (vO 1 xH) 25 h p]) p.length ?_ ?_
      ·
       exact⟨0,p,(s9.set (X.vars).toNat z9),ay,⟨Nat.zero_le _,rfl⟩,rfl,d,F.su,H⟩
      intro g6 a w ⟨k4,t4,ac,Q,I,e9,d,F,H⟩
      cases t4 with
      | nil=>
       replace d:=qH d;have q4:=qG I.1 I.2;have l4:=vA q4;refine xC (xP (xA 2 F rfl fun a F=>oL underlying45 F rfl rfl (H.l 2 rfl) fun a i0 F=>xA 1 F rfl fun a F=>xJ (qT F rfl l4 (oM ?_))));refine oR (oR (vH (xF ?_)));exact⟨ac,Q,(vE d),F.su,H⟩
      | cons x5 t4=>
       subst e9;replace I:=oO I.2;have y4:=oZ I.2.1;obtain⟨ck4,d,hn4⟩:=oV d;rw[e8] at d;have l4:=qM I.1;refine xC (xP (xA 2 F rfl fun a F=>oL underlying45 F rfl rfl (H.l 2 rfl) fun a i14 F=>xA 1 F rfl fun a F=>xJ (qV F rfl l4 (xL ?_))));refine xF (xC ?_);have j4:=fE (Nat.le_of_lt I.1) i14;have m4:=zC I.1 i14;refine xW (xP (xA 3 F rfl fun a F=>?_));obtain⟨z11,ea,d⟩:=xB d;refine oI underlying25 sizeOf2 F rfl rfl rfl (H.l 1 rfl) ea fun a p24 ec F=>aN isAgg2 F rfl rfl (Sm.refl _ _) ec (fun a i15 F=>?_);obtain⟨z12,ed,d⟩:=xB d;refine oI underlying25 sizeOf2 F rfl rfl rfl (H.l 0 rfl) ed fun a p25 ee F=>aN isAgg2 F rfl rfl (Sm.refl _ _) ee fun a i16 F=>xA 1 F rfl fun a F=>xJ (qP F rfl (fun b6=>?_) (fun b6=>?_))
       ·
        replace d:=vR b6 d;refine xU (xA 3 F rfl fun a F=>?_);obtain⟨w3,rfl⟩:∃ x,x=w:=⟨_,rfl⟩;have sm3:=H.sm;obtain⟨X3,N3,g7,e3,H,ef,ab3⟩:=(H.s [2,0,1] rfl rfl).fza;have eg:=g7.ld;refine oI underlying45 sizeOf25 F rfl rfl rfl eg y4 fun a ia eh F=>aY isAgg25 F rfl rfl H.sm eh (fun a ib ei F=>?_);obtain⟨b7,ej,d⟩:=xB d;obtain⟨X4,K1,ek⟩:=Sep.lend (K:=[rl 1 xH 2 Q ac]) (L:=[rl 1 xH 2 e i]) H;refine oG F rfl call145 rfl (spec_l09Add_c b7 ej _ H.hN K1 (H.u ei)) (fun a vv w ⟨ic,S⟩ F=>?_);subst vv;have H:Sep X3 N3 w3 w [rl 1 xH 2 Q b7,rl 1 xH 2 e i]:=ek S;refine oY (qS (xF (xU (xA 1 F rfl fun a F=>qQ F rfl rfl rfl m4 fun a F=>xA 1 F rfl fun a F=>xJ ?_))));replace d:=qX d hn4;exact⟨_,Nat.lt_succ_self _,k4+1,t4,b7,Q,⟨I.1,I.2.2⟩,rfl,d,F.su,((ef.1 H (Ns.all ⟨n0,⟨n0,trivial⟩⟩)).s [1,2,0] rfl rfl)⟩
       replace d:=vQ b6 d;refine xL (qS (xF (xU (xA 1 F rfl fun a F=>qQ F rfl rfl rfl m4 fun a F=>xA 1 F rfl fun a F=>xJ ?_))));replace d:=qX d hn4;exact⟨_,Nat.lt_succ_self _,k4+1,t4,ac,Q,⟨I.1,I.2.2⟩,rfl,d,F.su,H⟩
     rintro a w ⟨P,D,rfl,F,H⟩
     have d:=xN e6;refine xF (xP (xA 1 F rfl fun a F=>xJ (xC ?_)));obtain⟨o5,d,el⟩:=xK d;refine xX (fun a w=>∃ (a2:Int),o5= .nx a2∧Sk a 214 [(0,A),(1,j),(6,h),(7,e),(8,xG (n:Int)),(9,C),(10,xG (t:Int)),(11,D),(16,xG a2)]∧Sep X2 N2 w2 w [rl 1 xH 2 D P,rl 1 xH 2 e i,rl 1 (vO 1 xH) 25 h p]∧xZ a2) ?_ ?_
     ·
      refine xW ?_;obtain⟨em,en,d⟩:=kU d;refine oU (fun g a w=>∃ (a3:Int),cF em g a3=some o5∧Sk a 214 [(0,A),(1,j),(6,h),(7,e),(8,xG (n:Int)),(9,C),(10,xG (t:Int)),(11,D),(16,xG a3)]∧Sep X2 N2 w2 w [rl 1 xH 2 D P,rl 1 xH 2 e i,rl 1 (vO 1 xH) 25 h p]∧xZ a3) N ?_ ?_
      ·
       exact⟨0,d,F.su,H,(show xZ (0) by decide)⟩
      intro g8 a w ⟨a3,d,F,H,eo⟩;obtain⟨ie,t5,ig,d,hn5⟩:=zK d;rw[en] at d;refine xC (xC ?_);obtain⟨o6,d,ep⟩:=xK d;refine xX (fun a w=>∃ (b8:Bool),o6= .nx b8∧Sk a 214 [(0,A),(1,j),(6,h),(7,e),(8,xG (n:Int)),(9,C),(10,xG (t:Int)),(11,D),(16,xG a3),(143,.bool b8)]∧Sep X2 N2 w2 w [rl 1 xH 2 D P,rl 1 xH 2 e i,rl 1 (vO 1 xH) 25 h p]) ?_ ?_
      ·
       refine xU (xA 2 F rfl fun a F=>oN F rfl rfl f fun a F=>oF (s':=1) kD F rfl rfl f xO.f0 fun a ih er F=>aN isAgg2 F rfl rfl (b5.trans (Sm.mono H.sm ab.2.2)) er fun a ii F=>xA 2 F rfl fun a F=>?_)
       rcases qU (decide (a3<X.vars)) with ai | ai
       ·
        replace d:=vR ai d;have F:=F.eb 137 rfl ai;refine xA 2 F rfl fun a F=>?_;obtain⟨es,et,d⟩:=xB d;refine oI underlying25 sizeOf2 F rfl rfl rfl (H.l 0 rfl) et fun a ij eu F=>aN isAgg2 F rfl rfl (Sm.refl _ _) eu fun a ik F=>xA 2 F rfl fun a F=>xJ ?_;exact⟨(es==0),(vE d),F.su,H⟩
       replace d:=vQ ai d;have F:=F.eb 137 rfl ai;refine xA 6 F rfl fun a F=>xJ ?_;exact⟨false,(vE d),F.su,H⟩
      rintro a w ⟨b8,rfl,F,H⟩
      have d:=xN ep;refine xF (qP F rfl (fun b9=>?_) (fun b9=>?_))
      ·
       replace d:=vR b9 d;refine xL (xF (xW (xU (xA 1 F rfl fun a F=>?_))));obtain⟨ew,c15,d⟩:=xB d;refine kI F rfl rfl rfl c15 fun a F=>xA 1 F rfl fun a F=>oY (qS (xF ?_));replace d:=qX d hn5;exact⟨t5,(by omega),ew,d,F.su,H,(kG c15)⟩
      replace d:=vQ b9 d;refine oM (oR (oR ?_));replace d:=eL d hn5;refine vH (xF ?_);exact⟨a3,(vE d),F.su,H,eo⟩
     rintro a w ⟨a2,rfl,F,H,ex⟩
     have d:=xN el;refine xF (xC (xP (xA 2 F rfl fun a F=>oN F rfl rfl f fun a F=>oF (s':=1) kD F rfl rfl f xO.f0 fun a il ey F=>aN isAgg2 F rfl rfl (b5.trans (Sm.mono H.sm ab.2.2)) ey fun a im F=>xA 1 F rfl fun a F=>oY ?_)));refine xF (qP F rfl (fun ba=>?_) (fun ba=>?_))
     ·
      replace d:=vR ba d;refine xC (xP (xA 2 F rfl fun a F=>?_));obtain⟨io,ez,d⟩:=xB d;refine oI underlying25 sizeOf2 F rfl rfl rfl (H.l 0 rfl) ez fun a ip eI F=>aN isAgg2 F rfl rfl (Sm.refl _ _) eI fun a iq F=>xA 1 F rfl fun a F=>xJ (qP F rfl (fun bb=>?_) (fun bb=>?_))
      ·
       replace d:=vR bb d;refine xP (oR0 (R:=xH) underlying25 sizeOf2 F rfl H fun a w eS H F=>xA 2 F rfl fun a F=>xJ (xT (oE (oE (vJ ?_)))));refine oE (oE ?_);replace d:=zR d b4;refine vJ (oE ?_);replace d:=zQ d hk2;refine vJ (oE (oE ?_));replace d:=zR d hn1;refine vJ (oE ?_);replace d:=zQ d c0;refine oE ?_;have H:=(ab.1 H (Ns.all ⟨n0,⟨n0,⟨n0,⟨n0,trivial⟩⟩⟩⟩));refine vV F rfl (oD F rfl) (oD F rfl) ?_;obtain rfl:=oj d;exact⟨_,rfl,eS,rfl,(H.s [1] rfl rfl)⟩
      replace d:=vQ bb d;refine xL (xF (oM (oR (vH (xF (xU (xA 1 F rfl fun a F=>qQ F rfl rfl rfl m2 fun a F=>xA 1 F rfl fun a F=>oY ?_)))))));refine xF ?_;replace d:=qX d b4;exact⟨_,Nat.lt_succ_self _,t+1,t2,p,h,i,e,⟨G.1,G.2.2⟩,rfl,d,F.su,(ab.1 (H.s [1,2] rfl rfl) (Ns.all ⟨n0,⟨n0,trivial⟩⟩))⟩
     replace d:=vQ ba d;refine xL (xF (xC (xP (xA 1 F rfl fun a F=>xJ ?_))));obtain⟨o7,d,f3⟩:=xK d;refine xX (fun a w=>∃ (bc:Int) (bd:List (List Int)) (be:Value),o7= .nx (bc,bd)∧Sk a 214 [(0,A),(1,j),(6,be),(7,e),(8,xG (n:Int)),(9,C),(10,xG (t:Int)),(11,D),(16,xG a2)]∧Sep X2 N2 w2 w [rl 1 xH 2 D P,rl 1 xH 2 e i,rl 1 (vO 1 xH) 25 be bd]∧xZ bc) ?_ ?_
     ·
      refine xW ?_;obtain⟨f4,f5,d⟩:=kU d;refine oU (fun g a w=>∃ (T:Int) (U:List (List Int)) (W:Value),cF f4 g (T,U)=some o7∧Sk a 214 [(0,A),(1,j),(6,W),(7,e),(8,xG (n:Int)),(9,C),(10,xG (t:Int)),(11,D),(16,xG a2),(17,xG T)]∧Sep X2 N2 w2 w [rl 1 xH 2 D P,rl 1 xH 2 e i,rl 1 (vO 1 xH) 25 W U]∧xZ T) N ?_ ?_
      ·
       exact⟨0,p,h,d,F.su,H,(show xZ (0) by decide)⟩
      intro g9 a w ⟨T,U,W,d,F,H,f6⟩;obtain⟨ir,t6,it,d,bf⟩:=zK d;rw[f5] at d;refine xC (xP (xA 2 F rfl fun a F=>oL underlying45 F rfl rfl (H.l 2 rfl) fun a iu F=>xA 1 F rfl fun a F=>xJ (qP F rfl (fun bg=>?_) (fun bg=>?_))))
      ·
       replace d:=vR bg d;refine xL (xF (xC (xW (xP (xA 2 F rfl fun a F=>?_)))));obtain⟨f7,bh,d⟩:=xB d;refine oI underlying45 sizeOf25 F rfl rfl rfl (H.l 2 rfl) bh fun a iv f8 F=>aY isAgg25 F rfl rfl (Sm.refl _ _) f8 fun a iw f9 F=>xA 1 F rfl fun a F=>?_;obtain⟨iy,fa,d⟩:=xB d;refine oI underlying25 sizeOf2 F rfl rfl rfl f9 fa fun a iz fb F=>aN isAgg2 F rfl rfl (Sm.refl _ _) fb fun a j0 F=>xA 1 F rfl fun a F=>xJ (qP F rfl (fun bi=>?_) (fun bi=>?_))
       ·
        replace d:=vR bi d;refine xU (xA 2 F rfl fun a F=>oRl underlying45 sizeOf25 F rfl rfl rfl H 2 rfl bh fun a p33 h48 fc F=>oFoc isAgg25 F rfl rfl (H.s [2,0,1] rfl rfl) fc (ix_get bh) fun a av H hl2663 F=>xA 1 F rfl fun a F=>?_);obtain⟨w4,rfl⟩:∃ x,x=w:=⟨_,rfl⟩;have sm4:=H.sm;obtain⟨X5,N4,fd,e4,H,fe,ab4⟩:=(H.s [2,0,1,3] rfl rfl).fza;have ff:=fd.ld;obtain⟨bj,fg,d⟩:=xB d;obtain⟨X6,K2,fh⟩:=Sep.lend (K:=[ow (V:=(Sl 1 xH)) av f7]) (L:=[rl 1 (RS 1 xH) 25 W ((U.map .inr).set (T).toNat (.inl av)),rl 1 xH 2 e i]) H;refine oG F rfl call145 rfl (spec_l09Add_w_c bj fg _ H.hN K2 (H.u ff)) (fun a vv w ⟨hv3,S⟩ F=>?_);subst vv;have H:Sep X5 N4 w4 w [ow (V:=(Sl 1 xH)) av bj,rl 1 (RS 1 xH) 25 W ((U.map .inr).set (T).toNat (.inl av)),rl 1 xH 2 e i]:=fh S;have H:=Sep.unfoc hl2663 H;refine oY (qS (xF (xU (xA 1 F rfl fun a F=>?_))));obtain⟨fi,c20,d⟩:=xB d;refine kI F rfl rfl rfl c20 fun a F=>xA 1 F rfl fun a F=>xJ ?_;replace d:=qX d bf;exact⟨t6,(by omega),fi,(U.set (T).toNat bj),W,d,F.su,((fe.1 H (Ns.all ⟨n0,⟨n0,trivial⟩⟩)).s [0,2,1] rfl rfl),(kG c20)⟩
       replace d:=vQ bi d;refine xL (qS (xF (xU (xA 1 F rfl fun a F=>?_))));obtain⟨fj,c21,d⟩:=xB d;refine kI F rfl rfl rfl c21 fun a F=>xA 1 F rfl fun a F=>xJ ?_;replace d:=qX d bf;exact⟨t6,(by omega),fj,U,W,d,F.su,H,(kG c21)⟩
      replace d:=vQ bg d;refine oM (oR (oR ?_));replace d:=eL d bf;refine vH (xF ?_);exact⟨T,U,W,(vE d),F.su,H,f6⟩
     rintro a w ⟨bc,bd,be,rfl,F,H,j6⟩
     have d:=xN f3;refine xF (xP (xA 2 F rfl fun a F=>?_));have H:=H.os;refine oR1L (R:=(vO 1 xH)) (y:=P) underlying45 sizeOf25 zeroValue25 rfl rfl F rfl rfl H El.sl (fun a w j7 H F=>?_);obtain⟨fk,fl,d⟩:=xB d;refine oPL (sz:=1) (R:=(vO 1 xH)) (z:=(aE)) (bytes:=24) underlying45 (by kernel_rfl) rfl rfl F rfl rfl rfl (H.s [2,0,1] rfl rfl) fl fun a w fm H F=>xA 1 F rfl fun a F=>xJ (xU (xA 2 F rfl fun a F=>oR1z (R:=xH) (y:=a2) underlying25 sizeOf2 zeroValue2 rfl rfl F rfl rfl H (Eo.int ex) (fun a w j8 H F=>?_)));obtain⟨fn,fo,d⟩:=xB d;refine oPL (sz:=1) (R:=xH) (z:=(xG 0)) (bytes:=8) underlying25 (by kernel_rfl) rfl rfl F rfl rfl rfl (H.s [2,0,1] rfl rfl) fo fun a w fp H F=>xA 1 F rfl fun a F=>oY (qS (xF (xU (xA 1 F rfl fun a F=>qQ F rfl rfl rfl m2 fun a F=>xA 1 F rfl fun a F=>xJ ?_))));replace d:=qX d b4;exact⟨_,Nat.lt_succ_self _,t+1,t2,fk,fm,fn,fp,⟨G.1,G.2.2⟩,rfl,d,F.su,(ab.1 H (Ns.all ⟨n0,⟨n0,trivial⟩⟩))⟩
   rintro a w ⟨s5,aw,s6,ax,rfl,F,H⟩
   have d:=xN hk2;refine qS (xF (xU (xA 1 F rfl fun a F=>qQ F rfl rfl rfl m1 fun a F=>xA 1 F rfl fun a F=>xJ ?_)));replace d:=qX d hn1;exact⟨_,Nat.lt_succ_self _,n+1,t1,s5,aw,s6,ax,⟨J.1,J.2.2⟩,rfl,d,F.su,H⟩
 rintro a w ⟨Y,v4,s2,v5,rfl,F,H⟩
 have d:=xN c0;refine xF (xP (xA 1 F rfl fun a F=>oN F rfl rfl f fun a F=>oF (s':=1) kD F rfl rfl f xO.f0 fun a j9 fq F=>aN isAgg2 F rfl rfl H.sm fq (fun a ja F=>?_)));obtain⟨fs,ft,d⟩:=xB d;refine oRM (sz:=1) (R:=xH) (z:=(xG 0)) (bytes:=8) underlying25 (by kernel_rfl) rfl (by decide) (by decide) (fun w=>⟨rfl,by decide,rfl⟩) F rfl rfl rfl ft H fun a w fu H F=>xA 1 F rfl fun a F=>xJ (xC (xP (xA 1 F rfl fun a F=>xJ ?_)));obtain⟨o8,d,fv⟩:=xK d;refine xX (fun a w=>∃ (bm:List Int) (az:Value),o8= .nx bm∧Sk a 214 [(18,az)]∧Sep [] B E w [rl 1 xH 2 az bm]) ?_ ?_
 ·
  refine xW ?_;obtain⟨fw,fx,d⟩:=qE d;refine oU (fun g a w=>∃ (k5:Nat) (t7:List (List Int)) (aj:List Int) (ak:Value),(k5≤Y.length∧Y.drop k5=t7)∧t7.length=g∧qJ fw t7 k5 aj=some o8∧Sk a 214 [(19,xG (k5:Int)),(1,j),(6,v4),(7,v5),(18,ak)]∧Sep [] B E w [rl 1 xH 2 ak aj,rl 1 xH 2 v5 s2,rl 1 (vO 1 xH) 25 v4 Y]) Y.length ?_ ?_
  ·
   exact⟨0,Y,fs,fu,⟨Nat.zero_le _,rfl⟩,rfl,d,F.su,H⟩
  intro jb a w ⟨k5,t7,aj,ak,O,fy,d,F,H⟩
  cases t7 with
  | nil=>
   replace d:=qH d;have q5:=qG O.1 O.2;have l5:=vA q5;refine xC (xP (xA 2 F rfl fun a F=>oL underlying45 F rfl rfl (H.l 2 rfl) fun a jc F=>xA 1 F rfl fun a F=>xJ (qT F rfl l5 (oM ?_))));refine oR (oR (vH (xF ?_)));exact⟨aj,ak,(vE d),F.su,(H.s [0] rfl rfl)⟩
  | cons x6 t7=>
   subst fy;replace O:=oO O.2;have y5:=oZ O.2.1;obtain⟨jd,d,g0⟩:=oV d;rw[fx] at d;have l5:=qM O.1;refine xC (xP (xA 2 F rfl fun a F=>oL underlying45 F rfl rfl (H.l 2 rfl) fun a ca F=>xA 1 F rfl fun a F=>xJ (qV F rfl l5 (xL ?_))));refine xF (xC ?_);have j5:=fE (Nat.le_of_lt O.1) ca;have m5:=zC O.1 ca;refine xW ?_;obtain⟨z25,c25,d⟩:=xB d;obtain⟨z26,c26,d⟩:=xB d;obtain⟨je,cb,d⟩:=xB d;obtain⟨w5,rfl⟩:∃ x,x=w:=⟨_,rfl⟩;have sm5:=H.sm;obtain⟨X7,N5,cc,e5,H,cd,jf⟩:=(H.s [1,2,0] rfl rfl).mg.fza;have h51:=cc.l.ld;have h52:=cc.r.ld;refine xD H (by kernel_rfl) fun w H=>vM 0 rfl (by kernel_rfl) (oJ F rfl (fun w l=>xM F rfl) fun a F=>vM 1 rfl (by kernel_rfl) (oJ F rfl (fun w l=>xM F rfl) fun a F=>vM 2 rfl (by kernel_rfl) (oJ F rfl (fun w l=>xM F rfl) fun a F=>qY 3 rfl (by kernel_rfl) (vI underlying25 sizeOf2 F rfl rfl rfl h51 c25 fun a jg h53 F=>qY 4 rfl (by kernel_rfl) (vlI isAgg2 F rfl rfl H.v h53 (fun a jh F=>?_))))));refine vM 5 rfl (by kernel_rfl) (oJ F rfl (fun w l=>xM F rfl) fun a F=>vM 6 rfl (by kernel_rfl) (oJ F rfl (fun w l=>xM F rfl) fun a F=>qY 7 rfl (by kernel_rfl) (vI underlying45 sizeOf25 F rfl rfl rfl h52 y5 fun a ji h54 F=>qY 8 rfl (by kernel_rfl) (vlS isAgg25 F rfl rfl H.v h54 fun a jj ga F=>vM 9 rfl (by kernel_rfl) (oJ F rfl (fun w l=>xM F rfl) fun a F=>qY 10 rfl (by kernel_rfl) ?_)))));refine vN F rfl rfl f fun a F=>qY 11 rfl (by kernel_rfl) (vF (s':=1) kD F rfl rfl f xO.f0 fun a jk gb F=>qY 12 rfl (by kernel_rfl) (vlI isAgg2 F rfl rfl (fun w l=>(sm5.trans (Sm.mono (H.v w l) cd.2.2))) gb fun a jl F=>qY 13 rfl (by kernel_rfl) (vI underlying25 sizeOf2 F rfl rfl rfl ga c26 fun a jm gc F=>qY 14 rfl (by kernel_rfl) (vlI isAgg2 F rfl rfl H.v gc fun a gd F=>xE H 15 rfl (by kernel_rfl) (oRl underlying25 sizeOf2 F rfl rfl rfl H 0 rfl cb (fun a jn jo ge F=>?_))))));refine xJ ⟨⟨_,H⟩,?_⟩;refine xE H 16 rfl (by kernel_rfl) ?_;have H:=H.lw;refine oS sizeOf2 F rfl rfl rfl H ge (ix_lt cb) (Eo.int gd) rfl rfl (fun w H=>?_);have H:=H.tl;refine xJ ⟨⟨_,H⟩,?_⟩;refine bF (by kernel_rfl) (qS (xF (xU (xA 1 F rfl fun a F=>qQ F rfl rfl rfl m5 fun a F=>xA 1 F rfl fun a F=>xJ ?_))));replace d:=qX d g0;exact⟨_,Nat.lt_succ_self _,k5+1,t7,(aj.set (z25).toNat z26),ak,⟨O.1,O.2.2⟩,rfl,d,F.su,((cd.1 H (Ns.all ⟨n0,trivial⟩)).um.s [2,0,1] rfl rfl)⟩
 rintro a w ⟨bm,az,rfl,F,H⟩
 have d:=xN fv;refine xF (xP (xA 3 F rfl fun a F=>xJ (xT (vV F rfl (oD F rfl) (oD F rfl) ?_))));obtain rfl:=oj d;exact⟨_,rfl,az,rfl,H⟩
def spec_l09By (N:Nat) (e:Template) (c:Instance) (d:Int):Option ((List Int)×Bool):=
 if (d==1) then
  xY (mkz (0:Int) c.vars) fun n=>
  some (n,true)
 else
  if (d==2) then
   vT (σ:=(List Int)) (
    zH (σ:=(List Int)) (ρ:=(List Int)×Bool) (fun (y:Nat) (p:(List Int))=>
     xY (ap p ([1])) fun t=>
     some (.go t)) c.vars.toNat 0 []) fun x=>
   some (x,true)
  else
   if (d==3) then
    xY (fL N e c false) fun f=>
    some (f.1,f.2)
   else
    if (d==4) then
     xY (fL N e c true) fun h=>
     some (h.1,h.2)
    else
     if (d==5) then
      xY (gY N e c) fun i=>
      some (i.1,i.2)
     else
      xY (gT N e c) fun j=>
      some (j.1,j.2)
theorem spec_l09By_c {B:Nat→Prop} {N:Nat} {T:Template} {n:Instance} {p:Int} (r:(List Int)×Bool) (d:spec_l09By N T n p=some r) {M:Value} {t:Value} (f:World) (hN:∀ c,B c→c<f.heap.size) (x:Bo B f (Pt 2 xI) M T) (e:Bo B f (Pt 2 xO) t n) (aq:xZ p):Calls Tryz.prog 59 #[M,t,xG p] f (Gv (fun v w'=>∃ (Q:Value),v= .tuple #[Q,.bool r.2]∧Sep [] B f w' [ro B (V:=(Sl 1 xH)) Q r.1])):=by
 unfold spec_l09By at d
 refine xV (L:=[(0,M),(1,t),(2,xG p)]) func59 rfl rfl rfl (sc rfl (sc rfl (sc rfl sn))) (fun a F=>?_);have H:=Sep.start hN;refine xP (xA 2 F rfl fun a F=>xJ (xC (xP (xA 1 F rfl fun a F=>oY ?_))));refine xF (xW (xP (xA 2 F rfl fun a F=>xJ (qP F rfl (fun E=>?_) (fun E=>?_)))))
 ·
  replace d:=vR E d;refine xP (xA 1 F rfl fun a F=>oN F rfl rfl e fun a F=>oF (s':=1) kD F rfl rfl e xO.f0 fun a p1 h1 F=>aN isAgg2 F rfl rfl H.sm h1 (fun a i1 F=>?_));obtain⟨z1,Y,d⟩:=xB d;refine oRM (sz:=1) (R:=xH) (z:=(xG 0)) (bytes:=8) underlying25 (by kernel_rfl) rfl (by decide) (by decide) (fun w=>⟨rfl,by decide,rfl⟩) F rfl rfl rfl Y H fun a w v2 H F=>xA 2 F rfl fun a F=>xJ (xT (vJ (oE ?_)));have H:=H.lw.rwo.rok;refine vV F rfl (oD F rfl) (oD F rfl) ?_;obtain rfl:=oj d;exact⟨_,rfl,v2,rfl,H⟩
 replace d:=vQ E d;refine xP (xA 2 F rfl fun a F=>xJ (qP F rfl (fun G=>?_) (fun G=>?_)))
 ·
  replace d:=vR G d;refine xP (oR0 (R:=xH) underlying25 sizeOf2 F rfl H fun a w v3 H F=>xA 1 F rfl fun a F=>xJ (xC (xP (xA 1 F rfl fun a F=>oY ?_))));refine xF ?_;obtain⟨U,d,Z⟩:=xK d;refine xX (fun a w=>∃ (O:List Int) (A:Value),U= .nx O∧Sk a 59 [(8,A)]∧Sep [] B f w [rl 1 xH 2 A O]) ?_ ?_
  ·
   refine xW ?_;obtain⟨a0,a1,d⟩:=zG d;refine oU (fun g a w=>∃ (i:Nat) (C:List Int) (D:Value),i+g=n.vars.toNat∧zH a0 g i C=some U∧Sk a 59 [(9,xG (i:Int)),(1,t),(8,D)]∧Sep [] B f w [rl 1 xH 2 D C]) n.vars.toNat ?_ ?_
   ·
    exact⟨0,[],v3,(Nat.zero_add _),d,F.su,H⟩
   intro W a w ⟨i,C,D,j,d,F,H⟩
   cases W with
   | zero=>
    replace d:=vY d;have P:=kT j;refine xC (xP (xA 2 F rfl fun a F=>oN F rfl rfl e fun a F=>oF (s':=1) kD F rfl rfl e xO.f0 fun a ar h2 F=>aN isAgg2 F rfl rfl H.sm h2 fun a i2 F=>xA 1 F rfl fun a F=>xJ ?_));refine qT F rfl P (oM (oR (oR (vH (xF ?_)))));exact⟨C,D,(vE d),F.su,H⟩
   | succ W=>
    obtain⟨au,d,a2⟩:=vX d;rw[a1] at d;have P:=zW j;refine xC (xP (xA 2 F rfl fun a F=>oN F rfl rfl e fun a F=>oF (s':=1) kD F rfl rfl e xO.f0 fun a p2 h3 F=>aN isAgg2 F rfl rfl H.sm h3 fun a X F=>xA 1 F rfl fun a F=>xJ ?_));refine qV F rfl P (xL (xF (xC ?_)));have j1:=k64I j X;have m1:=bC j X;refine xW (xU (xA 1 F rfl fun a F=>oR1z (R:=xH) (y:=1) underlying25 sizeOf2 zeroValue2 rfl rfl F rfl rfl H (Eo.int (show xZ (1) by decide)) (fun a w v6 H F=>?_)));obtain⟨z2,c1,d⟩:=xB d;refine oPL (sz:=1) (R:=xH) (z:=(xG 0)) (bytes:=8) underlying25 (by kernel_rfl) rfl rfl F rfl rfl rfl (H.s [1,0] rfl rfl) c1 fun a w v7 H F=>xA 1 F rfl fun a F=>oY (qS (xF (xU (xA 1 F rfl fun a F=>qQ F rfl rfl rfl m1 fun a F=>xA 1 F rfl fun a F=>xJ ?_))));replace d:=qX d a2;exact⟨_,Nat.lt_succ_self _,i+1,z2,v7,(by omega),d,F.su,H⟩
  rintro a w ⟨O,A,rfl,F,H⟩
  have d:=xN Z;refine xF (xP (xA 3 F rfl fun a F=>xJ (xT (vJ (oE ?_)))));have H:=H.lw.rwo.rok;refine vV F rfl (oD F rfl) (oD F rfl) ?_;obtain rfl:=oj d;exact⟨_,rfl,A,rfl,H⟩
 replace d:=vQ G d;refine xP (xA 2 F rfl fun a F=>xJ (qP F rfl (fun I=>?_) (fun I=>?_)))
 ·
  replace d:=vR I d;refine xP (xA 2 F rfl fun a F=>?_);obtain⟨z3,c2,d⟩:=xB d;refine oG F rfl call111 rfl (spec_l09Least_c z3 c2 _ aA (H.a x) (H.a e)) (fun a h w ⟨v8,av,S⟩ F=>?_);subst h;have H:=H.r1 S n0;refine xA 4 F rfl fun a F=>xJ (xT (vJ (oE ?_)));have H:=H.lw.rwo.rok;refine vV F rfl (oD F rfl) (oD F rfl) ?_;obtain rfl:=oj d;exact⟨_,rfl,v8,rfl,H⟩
 replace d:=vQ I d;refine xP (xA 2 F rfl fun a F=>xJ (qP F rfl (fun J=>?_) (fun J=>?_)))
 ·
  replace d:=vR J d;refine xP (xA 2 F rfl fun a F=>?_);obtain⟨z4,c3,d⟩:=xB d;refine oG F rfl call111 rfl (spec_l09Least_c z4 c3 _ aA (H.a x) (H.a e)) (fun a h w ⟨v9,aw,S⟩ F=>?_);subst h;have H:=H.r1 S n0;refine xA 4 F rfl fun a F=>xJ (xT (vJ (oE ?_)));have H:=H.lw.rwo.rok;refine vV F rfl (oD F rfl) (oD F rfl) ?_;obtain rfl:=oj d;exact⟨_,rfl,v9,rfl,H⟩
 replace d:=vQ J d;refine xP (xA 2 F rfl fun a F=>xJ (qP F rfl (fun K=>?_) (fun K=>?_)))
 ·
  replace d:=vR K d;refine xP (xA 2 F rfl fun a F=>?_);obtain⟨z5,c4,d⟩:=xB d;refine oG F rfl call112 rfl (spec_l09Pairs_c z5 c4 _ H.hN (H.u x) (H.u e)) (fun a h w ⟨a3,ax,S⟩ F=>?_);subst h;have H:=H.r1 S n1;refine xA 4 F rfl fun a F=>xJ (xT (vJ (oE (vV F rfl (oD F rfl) (oD F rfl) ?_))));obtain rfl:=oj d;exact⟨_,rfl,a3,rfl,H⟩
 replace d:=vQ K d;refine xL (qS (xF (xP (xA 2 F rfl fun a F=>?_))));obtain⟨z6,c5,d⟩:=xB d;refine oG F rfl call113 rfl (spec_l09Solve_c z6 c5 _ aA (H.a x) (H.a e)) (fun a h w ⟨a4,ay,S⟩ F=>?_);subst h;have H:=H.r1 S n0;refine xA 4 F rfl fun a F=>xJ (xT ?_);have H:=H.lw.rwo.rok;refine vV F rfl (oD F rfl) (oD F rfl) ?_;obtain rfl:=oj d;exact⟨_,rfl,a4,rfl,H⟩
def bW (N:Nat) (c:Template) (e:Instance) (d:Int):Option ((List Int)×Int):=
 xY (gE (Template.mk c.size c.rels) (Instance.mk e.vars e.cons)) fun i=>
 if (!i) then
  some ([],1)
 else
  xY (iG (Template.mk c.size c.rels) d) fun h=>
  if (h != 0) then
   some ([],h)
  else
   vT (σ:=Bool) (
    xY (spec_l09Is N (Template.mk c.size c.rels) d) fun j=>
    if (!j) then  some (.nx true) else  if (d==1) then  xY (eD (Template.mk c.size c.rels)) fun n=>
      some (.nx n) else  if (d==2) then  xY (eD (Template.mk c.size c.rels)) fun p=>
       some (.nx p) else  some (.nx false)) fun t=>
   if t then
    some ([],4)
   else
    xY (spec_l09By N (Template.mk c.size c.rels) (Instance.mk e.vars e.cons) d) fun f=>
    if (!f.2) then
     some ([],6)
    else
     some (f.1,0)
theorem spec_SolveByClass_c {B:Nat→Prop} {N:Nat} {D:Template} {E:Instance} {e:Int} (r:(List Int)×Int) (d:bW N D E e=some r) {G:Value} {I:Value} (f:World) (hN:∀ c,B c→c<f.heap.size) (A0:Bo B f (zX 2 xI) G D) (A1:Bo B f (zX 2 xO) I E) (t:xZ e):Calls Tryz.prog 19 #[G,I,xG e] f (Gv (fun v w'=>∃ (K:Value),v= .tuple #[K,xG r.2]∧Sep [] B f w' [ro B (V:=(Sl 1 xH)) K r.1]∧xZ r.2)):=by
 unfold bW at d
 refine xV (L:=[(0,G),(1,I),(2,xG e)]) func19 rfl rfl rfl (sc rfl (sc rfl (sc rfl sn))) (fun a F=>?_);have H:=Sep.start hN;refine xP ?_;obtain⟨v2,rfl,h,i⟩:=xI.o A0;refine oX F rfl rfl rfl H (fun a w O H F=>?_);obtain⟨a0,rfl,P,Q⟩:=xO.o A1;refine oX F rfl rfl rfl H fun a w T H F=>xA 2 F rfl fun a F=>xJ (xC (xP ?_));obtain⟨z1,c1,d⟩:=xB d;refine oK F rfl call55 rfl H (spec_l05Ok_c z1 c1 _ aA (xI.b (H.g 1 rfl).bk h (H.a i)) (xO.b (H.g 0 rfl).bk P (H.a Q))) fun a w H F=>xA 1 F rfl fun a F=>xJ (qP F rfl (fun y=>?_) (fun y=>?_))
 ·
  replace d:=vR y d;refine xP (oR0 (R:=xH) underlying25 sizeOf2 F rfl H fun a w v3 H F=>xA 2 F rfl fun a F=>xJ (xT (oE ?_)));have H:=(H.s [0] rfl rfl);have H:=H.lw.rwo.rok;refine vV F rfl (oD F rfl) (oD F rfl) ?_;obtain rfl:=oj d;exact⟨_,rfl,v3,rfl,H,(show xZ (1) by decide)⟩
 replace d:=vQ y d;refine xL (xF (xC (xP (xA 1 F rfl fun a F=>?_))));obtain⟨z2,c2,d⟩:=xB d;refine oKI F rfl call56 rfl H (spec_l09Two_c z2 c2 _ aA (xI.b (H.g 1 rfl).bk h (H.a i)) t) fun a w H a1 F=>xA 1 F rfl fun a F=>qO (xA 2 F rfl fun a F=>xJ (qP F rfl (fun z=>?_) (fun z=>?_)))
 ·
  replace d:=vR z d;refine xP (oR0 (R:=xH) underlying25 sizeOf2 F rfl H fun a w v4 H F=>xA 3 F rfl fun a F=>xJ (xT (oE ?_)));have H:=(H.s [0] rfl rfl);have H:=H.lw.rwo.rok;refine vV F rfl (oD F rfl) (oD F rfl) ?_;obtain rfl:=oj d;exact⟨_,rfl,v4,rfl,H,a1⟩
 replace d:=vQ z d;refine xL (xF (xC (xC ?_)));obtain⟨o1,d,a2⟩:=xK d;refine xX (fun a w=>∃ (J:Bool),o1= .nx J∧Sk a 44 [(2,xG e),(3,vK O),(4,vK T),(33,.bool J)]∧Sep [] B f w [bx T [xG E.vars,a0] 35,bx O [xG D.size,v2] 31]) ?_ ?_
 ·
  refine xU (xA 1 F rfl fun a F=>?_);obtain⟨U,c3,d⟩:=xB d;refine oK F rfl call57 rfl H (spec_l09Is_c U c3 _ aA (xI.b (H.g 1 rfl).bk h (H.a i)) t) fun a w H F=>xA 2 F rfl fun a F=>?_
  rcases qU (!U) with j | j
  ·
   replace d:=vR j d;have F:=F.eb 23 rfl j;refine xA 10 F rfl fun a F=>oY ?_;refine xF ?_;exact⟨true,(vE d),F.su,H⟩
  replace d:=vQ j d;have F:=F.eb 23 rfl j;refine xA 3 F rfl fun a F=>?_
  rcases qU (e==1) with n | n
  ·
   replace d:=vR n d;have F:=F.eb 26 rfl n;refine xA 4 F rfl fun a F=>?_;obtain⟨W,c4,d⟩:=xB d;refine oK F rfl call58 rfl H (spec_l09Empty_c W c4 _ aA (xI.b (H.g 1 rfl).bk h (H.a i))) fun a w H F=>xA 2 F rfl fun a F=>xJ ?_;exact⟨W,(vE d),F.su,H⟩
  replace d:=vQ n d;have F:=F.eb 26 rfl n;refine xA 4 F rfl fun a F=>?_
  rcases qU (e==2) with p | p
  ·
   replace d:=vR p d;have F:=F.eb 30 rfl p;obtain⟨X,c5,d⟩:=xB d;refine oK F rfl call58 rfl H (spec_l09Empty_c X c5 _ aA (xI.b (H.g 1 rfl).bk h (H.a i))) fun a w H F=>xA 2 F rfl fun a F=>xJ ?_;exact⟨X,(vE d),F.su,H⟩
  replace d:=vQ p d;have F:=F.eb 30 rfl p;refine xA 3 F rfl fun a F=>xJ ?_;exact⟨false,(vE d),F.su,H⟩
 rintro a w ⟨J,rfl,F,H⟩
 have d:=xN a2;refine xF (qP F rfl (fun A=>?_) (fun A=>?_))
 ·
  replace d:=vR A d;refine xP (oR0 (R:=xH) underlying25 sizeOf2 F rfl H fun a w v5 H F=>xA 2 F rfl fun a F=>xJ (xT (oE ?_)));have H:=(H.s [0] rfl rfl);have H:=H.lw.rwo.rok;refine vV F rfl (oD F rfl) (oD F rfl) ?_;obtain rfl:=oj d;exact⟨_,rfl,v5,rfl,H,(show xZ (4) by decide)⟩
 replace d:=vQ A d;refine xL (xF (xP (xA 1 F rfl fun a F=>?_)));obtain⟨w1,rfl⟩:∃ x,x=w:=⟨_,rfl⟩;have ao:=H.sm;obtain⟨X1,N1,Y,Z,H,M,aq⟩:=(H.s [1,0] rfl rfl).mg.fza;have K1:=Y.l.bk;have K2:=Y.r.bk;obtain⟨a3,c6,d⟩:=xB d;refine oG F rfl call59 rfl (spec_l09By_c a3 c6 _ H.hN (xI.b (K1.to H.sm) h (H.u (Z i))) (xO.b (K2.to H.sm) P (H.u (Z Q))) t) (fun a vv w ⟨v6,ar,S⟩ F=>?_);subst vv;have H:=H.r1 S n1;refine xA 5 F rfl fun a F=>xJ (xC (xP (xA 1 F rfl fun a F=>?_)));refine xA 1 F rfl fun a F=>xJ (qP F rfl (fun C=>?_) (fun C=>?_))
 ·
  replace d:=vR C d;refine xP (oR0 (R:=xH) underlying25 sizeOf2 F rfl H fun a w v7 H F=>xA 2 F rfl fun a F=>xJ (xT (oE ?_)));have H:=(M.1 (H.s [0] rfl rfl) (Ns.all ⟨n0,trivial⟩)).um;have H:=(H.s [2,0,1] rfl rfl).lw.rwo.rok;refine vV F rfl (oD F rfl) (oD F rfl) ?_;obtain rfl:=oj d;exact⟨_,rfl,v7,rfl,(H.s [0] rfl rfl),(show xZ (6) by decide)⟩
 replace d:=vQ C d;refine xL (xF (xP (xA 3 F rfl fun a F=>xJ (xT ?_))));have H:=(M.2.1 H (Ns.all trivial));refine vV F rfl (oD F rfl) (oD F rfl) ?_;obtain rfl:=oj d;exact⟨_,rfl,v6,rfl,H,(show xZ (0) by decide)⟩
def bN (N:Nat) (c:Template) (d:Instance):Option ((List Int)×Int):=
 xY (gE (Template.mk c.size c.rels) (Instance.mk d.vars d.cons)) fun f=>
 if (!f) then
  some ([],1)
 else
  xY (aR N (Template.mk c.size c.rels) (Instance.mk d.vars d.cons) 1) fun e=>
  if ((e.length:Int)==0) then
   some ([],6)
  else
   xY (ix e 0) fun h=>
   some (h,0)
theorem spec_FirstSolution_c {B:Nat→Prop} {N:Nat} {p:Template} {t:Instance} (r:(List Int)×Int) (d:bN N p t=some r) {i:Value} {j:Value} (e:World) (E:∀ c,B c→c<e.heap.size) (G:Bo B e (zX 2 xI) i p) (I:Bo B e (zX 2 xO) j t):Calls Tryz.prog 20 #[i,j] e (Gv (fun v w'=>∃ (n:Value),v= .tuple #[n,xG r.2]∧Sep [] B e w' [ro B (V:=(Sl 1 xH)) n r.1]∧xZ r.2)):=by
 unfold bN at d
 refine xV (L:=[(0,i),(1,j)]) func20 rfl rfl rfl (sc rfl (sc rfl sn)) (fun a F=>?_);have H:=Sep.start E;refine xP ?_;obtain⟨v2,rfl,y,z⟩:=xI.o G;refine oX F rfl rfl rfl H (fun a w b1 H F=>?_);obtain⟨a1,rfl,A,C⟩:=xO.o I;refine oX F rfl rfl rfl H fun a w b2 H F=>xA 2 F rfl fun a F=>xJ (xC (xP ?_));obtain⟨J,K,d⟩:=xB d;refine oK F rfl call55 rfl H (spec_l05Ok_c J K _ aA (xI.b (H.g 1 rfl).bk y (H.a z)) (xO.b (H.g 0 rfl).bk A (H.a C))) fun a w H F=>xA 1 F rfl fun a F=>xJ (qP F rfl (fun f=>?_) (fun f=>?_))
 ·
  replace d:=vR f d;refine xP (oR0 (R:=xH) underlying25 sizeOf2 F rfl H fun a w M H F=>xA 2 F rfl fun a F=>xJ (xT (oE ?_)));have H:=(H.s [0] rfl rfl);have H:=H.lw.rwo.rok;refine vV F rfl (oD F rfl) (oD F rfl) ?_;obtain rfl:=oj d;exact⟨_,rfl,M,rfl,H,(show xZ (1) by decide)⟩
 replace d:=vQ f d;refine xL (xF (xP ?_));obtain⟨O,P,d⟩:=xB d;refine oG F rfl call60 rfl (spec_l05Solutions_c O P _ aA (xI.b (H.g 1 rfl).bk y (H.a z)) (xO.b (H.g 0 rfl).bk A (H.a C)) (show xZ (1) by decide)) (fun a Q w ⟨v4,a2,S⟩ F=>?_);subst Q;have H:=H.r1 S n0;refine xA 1 F rfl fun a F=>xJ (xC (xP (xA 1 F rfl fun a F=>oL underlying45 F rfl rfl (H.l 0 rfl) fun a i3 F=>xA 1 F rfl fun a F=>xJ ?_)));refine qP F rfl (fun h=>?_) (fun h=>?_)
 ·
  replace d:=vR h d;refine xP (oR0 (R:=xH) underlying25 sizeOf2 F rfl H fun a w T H F=>xA 2 F rfl fun a F=>xJ (xT (oE ?_)));have H:=(H.s [0] rfl rfl);have H:=H.lw.rwo.rok;refine vV F rfl (oD F rfl) (oD F rfl) ?_;obtain rfl:=oj d;exact⟨_,rfl,T,rfl,H,(show xZ (6) by decide)⟩
 replace d:=vQ h d;refine xL (xF (xP (xA 1 F rfl fun a F=>?_)));obtain⟨z3,U,d⟩:=xB d;obtain⟨w1,rfl⟩:∃ x,x=w:=⟨_,rfl⟩;have a3:=H.sm;obtain⟨X1,N1,W,e1,H,D,a4⟩:=H.fza;have X:=W.ld;refine oI underlying45 sizeOf25 F rfl rfl rfl X U fun a p1 Y F=>aY isAgg25 F rfl rfl H.sm Y fun a Z h5 F=>xA 2 F rfl fun a F=>xJ (xT ?_);have H:=H.rob h5;have H:=(D.2.1 (H.s [0] rfl rfl) (Ns.all trivial));refine vV F rfl (oD F rfl) (oD F rfl) ?_;obtain rfl:=oj d;exact⟨_,rfl,Z,rfl,H,(show xZ (0) by decide)⟩
def cV (c:List Int) (d:Int):Option Bool:=
 xY (bR c d) fun e=>
 some e
theorem spec_HasNumber_c {B:Nat→Prop} {i:List Int} {d:Int} (r:Bool) (e:cV i d=some r) {h:Value} (f:World) (n:∀ c,B c→c<f.heap.size) (p:Bo B f (Sl 1 xH) h i) (j:xZ d):Calls Tryz.prog 12 #[h,xG d] f (zO (.bool r) f):=by
 unfold cV at e
 refine xV (L:=[(0,h),(1,xG d)]) func12 rfl rfl rfl (sc rfl (sc rfl sn)) (fun a F=>?_);have H:=Sep.start n;refine xP (xA 1 F rfl fun a F=>qO (xA 2 F rfl fun a F=>?_));obtain⟨t,x,e⟩:=xB e;refine oK F rfl call37 rfl H (spec_l00Has_c t x _ aA (H.a p) j) fun a w H F=>xA 1 F rfl fun a F=>xJ (xT (xS F rfl (oD F rfl) ?_));obtain rfl:=oj e;exact⟨rfl,H.bl⟩
def spec_l02Same (c d:Op):Option Bool:=
 vT (σ:=Bool) (
  if (c.arity==d.arity) then  xY (dV c.table d.table) fun e=>
   some (.nx e) else  some (.nx false)) fun f=>
 some f
theorem spec_l02Same_c {B:Nat→Prop} {n p:Op} (r:Bool) (d:spec_l02Same n p=some r) {t:Value} {x:Value} (e:World) (C:∀ c,B c→c<e.heap.size) (i:Bo B e (Pt 2 cS) t n) (j:Bo B e (Pt 2 cS) x p):Calls Tryz.prog 38 #[t,x] e (zO (.bool r) e):=by
 unfold spec_l02Same at d
 refine xV (L:=[(0,t),(1,x)]) func38 rfl rfl rfl (sc rfl (sc rfl sn)) (fun a F=>?_);have H:=Sep.start C;refine xP (xA 1 F rfl fun a F=>xJ (xC ?_));obtain⟨D,d,A⟩:=xK d;refine xX (fun a w=>∃ (y:Bool),D= .nx y∧Sk a 25 [(4,.bool y)]∧Sep [] B e w []) ?_ ?_
 ·
  refine xQ H (by kernel_rfl) (by kernel_rfl) (xR F rfl (fun w l=>xM F rfl) fun a F=>qN F rfl rfl i fun a F=>qF (s':=1) fa27_0 F rfl rfl i cS.f0 fun a O E F=>iB isAgg2 F rfl rfl H.q E fun a P F=>xR F rfl (fun w l=>xM F rfl) fun a F=>qN F rfl rfl j fun a F=>qF (s':=1) fa27_0 F rfl rfl j cS.f0 fun a Q G F=>iB isAgg2 F rfl rfl H.q G fun a R F=>xR F rfl (fun w l=>r_eql F rfl rfl) fun a F=>xR F rfl (fun w l=>xM F rfl) (fun a F=>?_))
  rcases qU (n.arity==p.arity) with f | f
  ·
   replace d:=vR f d;have F:=F.eb 14 rfl f;refine xR F rfl (fun w l=>xM F rfl) fun a F=>qN F rfl rfl i fun a F=>qF (s':=1) fa27_1 F rfl rfl i cS.f1 fun a S I F=>qlS isAgg25 F rfl rfl H.q I fun a T J F=>xR F rfl (fun w l=>xM F rfl) fun a F=>qN F rfl rfl j fun a F=>qF (s':=1) fa27_1 F rfl rfl j cS.f1 fun a U K F=>qlS isAgg25 F rfl rfl H.q K (fun a V M F=>?_);obtain⟨z,N,d⟩:=xB d;refine dD F rfl call47 rfl (fun w w' h l=>l.through h) (fun w l=>iQ z N w aA ((H.go l).a J) ((H.go l).a M)) fun a F=>xR F rfl (fun w l=>aU F rfl rfl) fun a F=>xR F rfl (fun w l=>zM F rfl) fun a F=>kA fun w H=>xF ?_;exact⟨z,(vE d),F.su,H⟩
  replace d:=vQ f d;have F:=F.eb 14 rfl f;refine qK F rfl rfl fun a F=>qK F rfl rfl fun a F=>qK F rfl rfl fun a F=>qK F rfl rfl fun a F=>qK F rfl rfl fun a F=>qK F rfl rfl fun a F=>qK F rfl rfl fun a F=>qK F rfl rfl fun a F=>qK F rfl rfl fun a F=>xR F rfl (fun w l=>aF F rfl rfl) fun a F=>xR F rfl (fun w l=>zM F rfl) (fun a F=>?_);refine kA fun w H=>xF ?_;exact⟨false,(vE d),F.su,H⟩
 rintro a w ⟨y,rfl,F,H⟩
 have d:=xN A;refine xF (xT (xS F rfl (oD F rfl) ?_));obtain rfl:=oj d;exact⟨rfl,H.bl⟩
def iK (c d:Op):Option Bool:=
 xY (spec_l02Same (Op.mk c.arity c.table) (Op.mk d.arity d.table)) fun e=>
 some e
theorem spec_SameOp_c {B:Nat→Prop} {i j:Op} (r:Bool) (e:iK i j=some r) {f:Value} {h:Value} (d:World) (n:∀ c,B c→c<d.heap.size) (p:Bo B d (zX 2 cS) f i) (t:Bo B d (zX 2 cS) h j):Calls Tryz.prog 13 #[f,h] d (zO (.bool r) d):=by
 unfold iK at e
 refine xV (L:=[(0,f),(1,h)]) func13 rfl rfl rfl (sc rfl (sc rfl sn)) (fun a F=>?_);have H:=Sep.start n;refine xP ?_;obtain⟨G,rfl,x,y⟩:=cS.o p;refine oX F rfl rfl rfl H (fun a w I H F=>?_);obtain⟨E,rfl,z,A⟩:=cS.o t;refine oX F rfl rfl rfl H fun a w J H F=>xA 1 F rfl fun a F=>qO ?_;obtain⟨C,D,e⟩:=xB e;refine oK F rfl call38 rfl H (spec_l02Same_c C D _ aA (cS.b (H.g 1 rfl).bk x (H.a y)) (cS.b (H.g 0 rfl).bk z (H.a A))) fun a w H F=>xA 1 F rfl fun a F=>xJ (xT (xS F rfl (oD F rfl) ?_));obtain rfl:=oj e;exact⟨rfl,H.bl⟩
def spec_l02Arity (c:Int):Option Bool:=
 xY (cC c 1 3) fun d=>
 some d
theorem spec_l02Arity_c {B:Nat→Prop} {d:Int} (r:Bool) (e:spec_l02Arity d=some r)  (f:World) (i:∀ c,B c→c<f.heap.size) (h:xZ d):Calls Tryz.prog 85 #[xG d] f (zO (.bool r) f):=by
 unfold spec_l02Arity at e
 refine xV (L:=[(0,xG d)]) func85 rfl rfl rfl (sc rfl sn) (fun a F=>?_);have H:=Sep.start i;refine xP (xA 1 F rfl fun a F=>qO (xA 1 F rfl fun a F=>?_));obtain⟨j,n,e⟩:=xB e;refine oK F rfl call86 rfl H (cG j n _ aA h (show xZ (1) by decide) (show xZ (3) by decide)) fun a w H F=>xA 1 F rfl fun a F=>xJ (xT (xS F rfl (oD F rfl) ?_));obtain rfl:=oj e;exact⟨rfl,H.bl⟩
def spec_l02Ok (N:Nat) (d:Int) (c:Op):Option Bool:=
 vT (σ:=Bool) (
  xY (fB d) fun e=>
  if (!e) then  some (.nx true) else  xY (spec_l02Arity c.arity) fun f=>
   if (!f) then  some (.nx true) else  xY (kC N d c.arity) fun h=>
    some (.nx ((c.table.length:Int) != h))) fun i=>
 if i then
  some false
 else
  vT (σ:=Unit) (
   qJ (σ:=Unit) (ρ:=Bool) (fun (t:Nat) (j:Int) (s:Unit)=>
     match s with
     | _=>
     xY (ck (d - 1)) fun n=>
     xY (cC j 0 n) fun p=>
     if (!p) then
      some (.ret false)
     else
      some (.go ())) c.table 0 ()) fun _=>
  some true
theorem spec_l02Ok_c {B:Nat→Prop} {N:Nat} {p:Int} {i:Op} (r:Bool) (d:spec_l02Ok N p i=some r) {z:Value} (j:World) (Y:∀ c,B c→c<j.heap.size) (G:xZ p) (e:Bo B j (Pt 2 cS) z i):Calls Tryz.prog 42 #[xG p,z] j (zO (.bool r) j):=by
 unfold spec_l02Ok at d
 refine xV (L:=[(0,xG p),(1,z)]) func42 rfl rfl rfl (sc rfl (sc rfl sn)) (fun a F=>?_);have H:=Sep.start Y;refine xP (xA 1 F rfl fun a F=>xJ (xC (xC ?_)));obtain⟨Z,d,S⟩:=xK d;refine xX (fun a w=>∃ (D:Bool),Z= .nx D∧Sk a 51 [(0,xG p),(1,z),(30,.bool D)]∧Sep [] B j w []) ?_ ?_
 ·
  refine xQ H (by kernel_rfl) (by kernel_rfl) (xR F rfl (fun w l=>xM F rfl) (fun a F=>?_));obtain⟨K,c1,d⟩:=xB d;refine dD F rfl call84 rfl (fun w w' h l=>l.through h) (fun w l=>spec_l01Size_c K c1 w aA G) fun a F=>xR F rfl (fun w l=>fW F rfl) fun a F=>xR F rfl (fun w l=>xM F rfl) (fun a F=>?_)
  rcases qU (!K) with x | x
  ·
   replace d:=vR x d;have F:=F.eb 9 rfl x;refine qK F rfl rfl fun a F=>qK F rfl rfl fun a F=>qK F rfl rfl fun a F=>qK F rfl rfl fun a F=>qK F rfl rfl fun a F=>qK F rfl rfl fun a F=>xR F rfl (fun w l=>aU F rfl rfl) fun a F=>xR F rfl (fun w l=>xM F rfl) fun a F=>qK F rfl rfl fun a F=>qK F rfl rfl fun a F=>qK F rfl rfl (fun a F=>?_);refine qK F rfl rfl fun a F=>qK F rfl rfl fun a F=>qK F rfl rfl fun a F=>qK F rfl rfl fun a F=>qK F rfl rfl fun a F=>qK F rfl rfl fun a F=>qK F rfl rfl fun a F=>qK F rfl rfl fun a F=>qK F rfl rfl fun a F=>xR F rfl (fun w l=>aU F rfl rfl) fun a F=>kA (fun w H=>?_);refine xF ?_;exact⟨true,(vE d),F.su,H⟩
  replace d:=vQ x d;have F:=F.eb 9 rfl x;refine xR F rfl (fun w l=>xM F rfl) fun a F=>qN F rfl rfl e fun a F=>qF (s':=1) fa27_0 F rfl rfl e cS.f0 fun a p1 h1 F=>iB isAgg2 F rfl rfl H.q h1 (fun a i1 F=>?_);obtain⟨M,c2,d⟩:=xB d;refine dD F rfl call85 rfl (fun w w' h l=>l.through h) (fun w l=>spec_l02Arity_c M c2 w aA i1) fun a F=>xR F rfl (fun w l=>fW F rfl) fun a F=>xR F rfl (fun w l=>aF F rfl rfl) fun a F=>xR F rfl (fun w l=>xM F rfl) (fun a F=>?_)
  rcases qU (!M) with y | y
  ·
   replace d:=vR y d;have F:=F.eb 17 rfl y;refine qK F rfl rfl fun a F=>qK F rfl rfl fun a F=>qK F rfl rfl fun a F=>qK F rfl rfl fun a F=>qK F rfl rfl fun a F=>qK F rfl rfl fun a F=>qK F rfl rfl fun a F=>qK F rfl rfl fun a F=>qK F rfl rfl fun a F=>qK F rfl rfl fun a F=>qK F rfl rfl (fun a F=>?_);refine qK F rfl rfl fun a F=>xR F rfl (fun w l=>aU F rfl rfl) fun a F=>kA fun w H=>xF ?_;exact⟨true,(vE d),F.su,H⟩
  replace d:=vQ y d;have F:=F.eb 17 rfl y;refine xR F rfl (fun w l=>xM F rfl) fun a F=>qN F rfl rfl e fun a F=>qF (s':=1) fa27_1 F rfl rfl e cS.f1 fun a p2 h2 F=>qlS isAgg25 F rfl rfl H.q h2 fun a v2 h3 F=>qL underlying25 F rfl rfl h3 fun a i2 F=>xR F rfl (fun w l=>xM F rfl) fun a F=>xR F rfl (fun w l=>xM F rfl) fun a F=>qN F rfl rfl e fun a F=>qF (s':=1) fa27_0 F rfl rfl e cS.f0 fun a p3 h4 F=>iB isAgg2 F rfl rfl H.q h4 (fun a i3 F=>?_);obtain⟨O,c3,d⟩:=xB d;refine q_saysI F rfl call66 rfl (fun w w' h l=>l.through h) _ (Below.refl _ _) (fun w l=>cE O c3 w aA G i3) fun a ak F=>xR F rfl (fun w l=>r_neq F rfl rfl) fun a F=>xR F rfl (fun w l=>aF F rfl rfl) fun a F=>kA fun w H=>xF ?_;exact⟨((i.table.length:Int) != O),(vE d),F.su,H⟩
 rintro a w ⟨D,rfl,F,H⟩
 have d:=xN S;refine xF (qP F rfl (fun A=>?_) (fun A=>?_))
 ·
  replace d:=vR A d;refine xP (xA 1 F rfl fun a F=>xJ (xT (oE (xS F rfl (oD F rfl) ?_))));obtain rfl:=oj d;exact⟨rfl,H.bl⟩
 replace d:=vQ A d;refine xL (xF (xC (xP (xA 1 F rfl fun a F=>xJ ?_))));obtain⟨P,d,I⟩:=xK d;refine xX (fun a w=>P= .nx ()∧Sk a 51 []∧Sep [] B j w []) ?_ ?_
 ·
  refine xW ?_;obtain⟨T,U,d⟩:=qE d;refine oU (fun g a w=>∃ (t:Nat) (n:List Int),(t≤i.table.length∧i.table.drop t=n)∧n.length=g∧qJ T n t ()=some P∧Sk a 51 [(5,xG (t:Int)),(0,xG p),(1,z)]∧Sep [] B j w []) i.table.length ?_ ?_
  ·
   exact⟨0,i.table,⟨Nat.zero_le _,rfl⟩,rfl,d,F.su,H⟩
  intro g1 a w ⟨t,n,f,V,d,F,H⟩
  cases n with
  | nil=>
   replace d:=qH d;have q1:=qG f.1 f.2;have E:=vA q1;refine xC (xP (xA 2 F rfl fun a F=>oN F rfl rfl e fun a F=>oF (s':=1) fa27_1 F rfl rfl e cS.f1 fun a p4 h5 F=>aY isAgg25 F rfl rfl H.sm h5 fun a v3 h6 F=>oL underlying25 F rfl rfl h6 fun a i4 F=>xA 1 F rfl fun a F=>oY ?_));refine xF (qT F rfl E (oM (oR (oR (vH (xF ?_))))));exact⟨(vE d),F.sub sn,H⟩
  | cons x2 n=>
   subst V;replace f:=oO f.2;have y1:=oZ f.2.1;obtain⟨al,d,J⟩:=oV d;rw[U] at d;have E:=qM f.1;refine xC (xP (xA 2 F rfl fun a F=>oN F rfl rfl e fun a F=>oF (s':=1) fa27_1 F rfl rfl e cS.f1 fun a p5 h7 F=>aY isAgg25 F rfl rfl H.sm h7 fun a v4 h8 F=>oL underlying25 F rfl rfl h8 fun a Q F=>xA 1 F rfl fun a F=>oY ?_));refine xF (qV F rfl E (xL (xF (xC ?_))));have j1:=fE (Nat.le_of_lt f.1) Q;have m1:=zC f.1 Q;refine xW (xP (xA 1 F rfl fun a F=>oN F rfl rfl e fun a F=>oF (s':=1) fa27_1 F rfl rfl e cS.f1 fun a p6 h9 F=>aY isAgg25 F rfl rfl H.sm h9 fun a v5 W F=>xA 1 F rfl fun a F=>oI underlying25 sizeOf2 F rfl rfl rfl W y1 fun a p7 X F=>aN isAgg2 F rfl rfl H.sm X fun a i6 F=>xA 1 F rfl fun a F=>?_));obtain⟨z4,R,d⟩:=xB d;refine iS F rfl rfl rfl R (fun a F=>?_);obtain⟨z5,c5,d⟩:=xB d;refine oK F rfl call86 rfl H (cG z5 c5 _ aA i6 (show xZ (0) by decide) (kG R)) fun a w H F=>xA 1 F rfl fun a F=>xJ (qP F rfl (fun C=>?_) (fun C=>?_))
   ·
    replace d:=vR C d;refine xP (xA 1 F rfl fun a F=>xJ (xT (vJ (oE (oE ?_)))));replace d:=zR d J;refine vJ (oE ?_);replace d:=zQ d I;refine oE (xS F rfl (oD F rfl) ?_);obtain rfl:=oj d;exact⟨rfl,H.bl⟩
   replace d:=vQ C d;refine xL (qS (xF (xU (xA 1 F rfl fun a F=>qQ F rfl rfl rfl m1 fun a F=>xA 1 F rfl fun a F=>xJ ?_))));replace d:=qX d J;exact⟨_,Nat.lt_succ_self _,t+1,n,⟨f.1,f.2.2⟩,rfl,d,F.su,H⟩
 rintro a w ⟨rfl,F,H⟩
 have d:=xN I;refine xF (xP (xA 1 F rfl fun a F=>xJ (xT (xS F rfl (oD F rfl) ?_))));obtain rfl:=oj d;exact⟨rfl,H.bl⟩
def eW (N:Nat) (e:Int) (c:Op) (d:List (List Int)):Option ((List Int)×Int):=
 xY (spec_l02Ok N e (Op.mk c.arity c.table)) fun f=>
 if (!f) then
  some ([],1)
 else
  if ((d.length:Int) != c.arity) then
   some ([],2)
  else
   vT (σ:=Unit) (
    qJ (σ:=Unit) (ρ:=(List Int)×Int) (fun (p:Nat) (h:(List Int)) (s:Unit)=>
      match s with
      | _=>
      xY (ix d 0) fun i=>
      xY (dZ e (i.length:Int) h) fun j=>
      if (!j) then
       some (.ret ([],2))
      else
       some (.go ())) d 0 ()) fun _=>
   xY (iY e (Op.mk c.arity c.table) d) fun n=>
   some (n,0)
theorem spec_ApplyToTuples_c {B:Nat→Prop} {N:Nat} {j:Int} {y:Op} {n:List (List Int)} (r:(List Int)×Int) (d:eW N j y n=some r) {G:Value} {x:Value} (f:World) (Z:∀ c,B c→c<f.heap.size) (A:xZ j) (A1:Bo B f (zX 2 cS) G y) (p:Bo B f (Sl 1 (vO 1 xH)) x n):Calls Tryz.prog 15 #[xG j,G,x] f (Gv (fun v w'=>∃ (J:Value),v= .tuple #[J,xG r.2]∧Sep [] B f w' [rl 1 xH 2 J r.1]∧xZ r.2)):=by
 unfold eW at d
 refine xV (L:=[(0,xG j),(1,G),(2,x)]) func15 rfl rfl rfl (sc rfl (sc rfl (sc rfl sn))) (fun a F=>?_);have H:=Sep.start Z;refine xP ?_;obtain⟨O,rfl,P,Q⟩:=cS.o A1;refine oX F rfl rfl rfl H fun a w z H F=>xA 2 F rfl fun a F=>xJ (xC (xP (xA 1 F rfl fun a F=>?_)));obtain⟨z1,V,d⟩:=xB d;refine oK F rfl call42 rfl H (spec_l02Ok_c z1 V _ aA A (cS.b (H.g 0 rfl).bk P (H.a Q))) fun a w H F=>xA 1 F rfl fun a F=>xJ (qP F rfl (fun C=>?_) (fun C=>?_))
 ·
  replace d:=vR C d;refine xP (oR0 (R:=xH) underlying25 sizeOf2 F rfl H fun a w v4 H F=>xA 2 F rfl fun a F=>xJ (xT (oE (vV F rfl (oD F rfl) (oD F rfl) ?_))));obtain rfl:=oj d;exact⟨_,rfl,v4,rfl,(H.s [0] rfl rfl),(show xZ (1) by decide)⟩
 replace d:=vQ C d;refine xL (xF (xC (xP (xA 1 F rfl fun a F=>oL underlying45 F rfl rfl p fun a i2 F=>oH fa27_0 F rfl rfl rfl fun a F=>oB isAgg2 F rfl rfl (H.b 0 rfl) rfl fun a F=>xA 1 F rfl fun a F=>oY ?_))));refine xF (qP F rfl (fun D=>?_) (fun D=>?_))
 ·
  replace d:=vR D d;refine xP (oR0 (R:=xH) underlying25 sizeOf2 F rfl H fun a w v5 H F=>xA 2 F rfl fun a F=>xJ (xT (oE (vV F rfl (oD F rfl) (oD F rfl) ?_))));obtain rfl:=oj d;exact⟨_,rfl,v5,rfl,(H.s [0] rfl rfl),(show xZ (2) by decide)⟩
 replace d:=vQ D d;refine xL (xF (xC (xP (xA 1 F rfl fun a F=>xJ ?_))));obtain⟨T,d,K⟩:=xK d;refine xX (fun a w=>T= .nx ()∧Sk a 40 [(0,xG j),(2,x),(4,vK z)]∧Sep [] B f w [bx z [xG y.arity,O] 27]) ?_ ?_
 ·
  refine xW ?_;obtain⟨W,X,d⟩:=qE d;refine oU (fun g a w=>∃ (t:Nat) (i:List (List Int)),(t≤n.length∧n.drop t=i)∧i.length=g∧qJ W i t ()=some T∧Sk a 40 [(8,xG (t:Int)),(0,xG j),(2,x),(4,vK z)]∧Sep [] B f w [bx z [xG y.arity,O] 27]) n.length ?_ ?_
  ·
   exact⟨0,n,⟨Nat.zero_le _,rfl⟩,rfl,d,F.su,H⟩
  intro g1 a w ⟨t,i,e,Y,d,F,H⟩
  cases i with
  | nil=>
   replace d:=qH d;have q1:=qG e.1 e.2;have I:=vA q1;refine xC (xP (xA 2 F rfl fun a F=>oL underlying45 F rfl rfl p fun a i3 F=>xA 1 F rfl fun a F=>xJ (qT F rfl I (oM ?_))));refine oR (oR (vH (xF ?_)));exact⟨(vE d),F.su,H⟩
  | cons x3 i=>
   subst Y;replace e:=oO e.2;have y1:=oZ e.2.1;obtain⟨ak,d,M⟩:=oV d;rw[X] at d;have I:=qM e.1;refine xC (xP (xA 2 F rfl fun a F=>oL underlying45 F rfl rfl p fun a U F=>xA 1 F rfl fun a F=>xJ (qV F rfl I (xL ?_))));refine xF (xC ?_);have j1:=fE (Nat.le_of_lt e.1) U;have m1:=zC e.1 U;refine xW (xC (xQ H (by kernel_rfl) (by kernel_rfl) (xR F rfl (fun w l=>xM F rfl) fun a F=>xR F rfl (fun w l=>xM F rfl) (fun a F=>?_))));obtain⟨z2,c1,d⟩:=xB d;refine qI underlying45 sizeOf25 F rfl rfl rfl p c1 fun a p1 h2 F=>qlS isAgg25 F rfl rfl H.q h2 fun a v6 h3 F=>qL underlying25 F rfl rfl h3 fun a i5 F=>xR F rfl (fun w l=>xM F rfl) fun a F=>xR F rfl (fun w l=>xM F rfl) fun a F=>qI underlying45 sizeOf25 F rfl rfl rfl p y1 fun a p2 h4 F=>qlS isAgg25 F rfl rfl H.q h4 (fun a al h5 F=>?_);obtain⟨z3,c2,d⟩:=xB d;refine dD F rfl call43 rfl (fun w w' h l=>l.through h) (fun w l=>spec_l01Tuple_c z3 c2 w aA A i5 ((H.go l).a h5)) fun a F=>xR F rfl (fun w l=>fW F rfl) fun a F=>kA fun w H=>xF (qP F rfl (fun E=>?_) (fun E=>?_))
   ·
    replace d:=vR E d;refine xP (oR0 (R:=xH) underlying25 sizeOf2 F rfl H fun a w v7 H F=>xA 2 F rfl fun a F=>xJ (xT (vJ (oE (oE ?_)))));replace d:=zR d M;refine vJ (oE ?_);replace d:=zQ d K;refine oE (vV F rfl (oD F rfl) (oD F rfl) ?_);obtain rfl:=oj d;exact⟨_,rfl,v7,rfl,(H.s [0] rfl rfl),(show xZ (2) by decide)⟩
   replace d:=vQ E d;refine xL (qS (xF (xU (xA 1 F rfl fun a F=>qQ F rfl rfl rfl m1 fun a F=>xA 1 F rfl fun a F=>xJ ?_))));replace d:=qX d M;exact⟨_,Nat.lt_succ_self _,t+1,i,⟨e.1,e.2.2⟩,rfl,d,F.su,H⟩
 rintro a w ⟨rfl,F,H⟩
 have d:=xN K;refine xF (xP (xA 2 F rfl fun a F=>?_));obtain⟨z4,c3,d⟩:=xB d;refine oG F rfl call44 rfl (spec_l02Make_c z4 c3 _ aA A (cS.b (H.g 0 rfl).bk P (H.a Q)) (H.a p)) (fun a vv w ⟨v8,am,S⟩ F=>?_);subst vv;have H:=H.r1 S n0;refine xA 2 F rfl fun a F=>xJ (xT (vV F rfl (oD F rfl) (oD F rfl) ?_));obtain rfl:=oj d;exact⟨_,rfl,v8,rfl,(H.s [0] rfl rfl),(show xZ (0) by decide)⟩
def cN (d:Int) (c:Rel) (e:List Int):Option (Bool×Int):=
 xY (fA d (Rel.mk c.arity c.tuples)) fun f=>
 if (!f) then
  some (false,1)
 else
  xY (eV (Rel.mk c.arity c.tuples) e) fun h=>
  some (h,0)
theorem spec_HasTuple_c {B:Nat→Prop} {f:Int} {n:Rel} {p:List Int} (r:Bool×Int) (d:cN f n p=some r) {i:Value} {j:Value} (e:World) (A:∀ c,B c→c<e.heap.size) (y:xZ f) (C:Bo B e (zX 2 qD) i n) (D:Bo B e (Sl 1 xH) j p):Calls Tryz.prog 16 #[xG f,i,j] e (Gv (fun v w'=>v= .tuple #[.bool r.1,xG r.2]∧Sep [] B e w' []∧xZ r.2)):=by
 unfold cN at d
 refine xV (L:=[(0,xG f),(1,i),(2,j)]) func16 rfl rfl rfl (sc rfl (sc rfl (sc rfl sn))) (fun a F=>?_);have H:=Sep.start A;refine xP ?_;obtain⟨J,rfl,t,x⟩:=qD.o C;refine oX F rfl rfl rfl H fun a w K H F=>xA 2 F rfl fun a F=>xJ (xC (xP (xA 1 F rfl fun a F=>?_)));obtain⟨E,z,d⟩:=xB d;refine oK F rfl call45 rfl H (spec_l01Ok_c E z _ aA y (qD.b (H.g 0 rfl).bk t (H.a x))) fun a w H F=>xA 1 F rfl fun a F=>xJ (qP F rfl (fun h=>?_) (fun h=>?_))
 ·
  replace d:=vR h d;refine xP (xA 2 F rfl fun a F=>xJ (xT (oE (vV F rfl (oD F rfl) (oD F rfl) ?_))));obtain rfl:=oj d;exact⟨_,rfl,rfl,(H.s [] rfl rfl),(show xZ (1) by decide)⟩
 replace d:=vQ h d;refine xL (xF (xP (xA 1 F rfl fun a F=>?_)));obtain⟨G,I,d⟩:=xB d;refine oK F rfl call46 rfl H (spec_l01Has_c G I _ aA (qD.b (H.g 0 rfl).bk t (H.a x)) (H.a D)) fun a w H F=>xA 2 F rfl fun a F=>xJ (xT (vV F rfl (oD F rfl) (oD F rfl) ?_));obtain rfl:=oj d;exact⟨_,rfl,rfl,(H.s [] rfl rfl),(show xZ (0) by decide)⟩
def bL (c d:List Int):Option Bool:=
 xY (dV c d) fun e=>
 some e
theorem spec_SameNumbers_c {B:Nat→Prop} {i j:List Int} (r:Bool) (e:bL i j=some r) {f:Value} {h:Value} (d:World) (n:∀ c,B c→c<d.heap.size) (p:Bo B d (Sl 1 xH) f i) (t:Bo B d (Sl 1 xH) h j):Calls Tryz.prog 17 #[f,h] d (zO (.bool r) d):=by
 unfold bL at e
 refine xV (L:=[(0,f),(1,h)]) func17 rfl rfl rfl (sc rfl (sc rfl sn)) (fun a F=>?_);have H:=Sep.start n;refine xP (xA 1 F rfl fun a F=>qO (xA 2 F rfl fun a F=>?_));obtain⟨x,y,e⟩:=xB e;refine oK F rfl call47 rfl H (iQ x y _ aA (H.a p) (H.a t)) fun a w H F=>xA 1 F rfl fun a F=>xJ (xT (xS F rfl (oD F rfl) ?_));obtain rfl:=oj e;exact⟨rfl,H.bl⟩
def bM (N:Nat) (c:Rel):Option ((List (List Int))×Int):=
 xY (fA 2 (Rel.mk c.arity c.tuples)) fun d=>
 if (!d) then
  some ([],1)
 else
  xY (aG N (Rel.mk c.arity c.tuples)) fun e=>
  some (e,0)
theorem spec_EquationsOver_c {B:Nat→Prop} {N:Nat} {j:Rel} (r:(List (List Int))×Int) (d:bM N j=some r) {h:Value} (e:World) (x:∀ c,B c→c<e.heap.size) (y:Bo B e (zX 2 qD) h j):Calls Tryz.prog 23 #[h] e (Gv (fun v w'=>∃ (i:Value),v= .tuple #[i,xG r.2]∧Sep [] B e w' [rl 1 (vO 1 xH) 25 i r.1]∧xZ r.2)):=by
 unfold bM at d
 refine xV (L:=[(0,h)]) func23 rfl rfl rfl (sc rfl sn) (fun a F=>?_);have H:=Sep.start x;refine xP ?_;obtain⟨J,rfl,n,p⟩:=qD.o y;refine oX F rfl rfl rfl H fun a w K H F=>xA 2 F rfl fun a F=>xJ (xC (xP ?_));obtain⟨z,t,d⟩:=xB d;refine oK F rfl call45 rfl H (spec_l01Ok_c z t _ aA (show xZ (2) by decide) (qD.b (H.g 0 rfl).bk n (H.a p))) fun a w H F=>xA 1 F rfl fun a F=>xJ (qP F rfl (fun f=>?_) (fun f=>?_))
 ·
  replace d:=vR f d;refine xP (oR0 (R:=(vO 1 xH)) underlying45 sizeOf25 F rfl H fun a w A H F=>xA 2 F rfl fun a F=>xJ (xT (oE (vV F rfl (oD F rfl) (oD F rfl) ?_))));obtain rfl:=oj d;exact⟨_,rfl,A,rfl,(H.s [0] rfl rfl),(show xZ (1) by decide)⟩
 replace d:=vQ f d;refine xL (xF (xP ?_));obtain⟨C,D,d⟩:=xB d;refine oG F rfl call64 rfl (spec_l09Equations_c C D _ aA (qD.b (H.g 0 rfl).bk n (H.a p))) (fun a E w ⟨G,I,S⟩ F=>?_);subst E;have H:=H.r1 S n0;refine xA 2 F rfl fun a F=>xJ (xT (vV F rfl (oD F rfl) (oD F rfl) ?_));obtain rfl:=oj d;exact⟨_,rfl,G,rfl,(H.s [0] rfl rfl),(show xZ (0) by decide)⟩
def gF (c d:List (List Int)):Option Bool:=
 if ((c.length:Int) != (d.length:Int)) then
  some false
 else
  vT (σ:=Unit) (
   qJ (σ:=Unit) (ρ:=Bool) (fun (e:Nat) (f:(List Int)) (s:Unit)=>
     match s with
     | _=>
     xY (ix d (e:Int)) fun h=>
     xY (dV f h) fun i=>
     if (!i) then
      some (.ret false)
     else
      some (.go ())) c 0 ()) fun _=>
  some true
theorem spec_SameLists_c {B:Nat→Prop} {j E:List (List Int)} (r:Bool) (d:gF j E=some r) {p:Value} {t:Value} (f:World) (O:∀ c,B c→c<f.heap.size) (x:Bo B f (Sl 1 (vO 1 xH)) p j) (G:Bo B f (Sl 1 (vO 1 xH)) t E):Calls Tryz.prog 24 #[p,t] f (zO (.bool r) f):=by
 unfold gF at d
 refine xV (L:=[(0,p),(1,t)]) func24 rfl rfl rfl (sc rfl (sc rfl sn)) (fun a F=>?_);have H:=Sep.start O;refine xP (xA 1 F rfl fun a F=>xJ (xC (xP (xA 1 F rfl fun a F=>oL underlying45 F rfl rfl x fun a i1 F=>xA 1 F rfl fun a F=>?_))));refine oL underlying45 F rfl rfl G fun a i2 F=>xA 1 F rfl fun a F=>xJ (qP F rfl (fun y=>?_) (fun y=>?_))
 ·
  replace d:=vR y d;refine xP (xA 1 F rfl fun a F=>xJ (xT (oE (xS F rfl (oD F rfl) ?_))));obtain rfl:=oj d;exact⟨rfl,H.bl⟩
 replace d:=vQ y d;refine xL (xF (xC (xP (xA 1 F rfl fun a F=>xJ ?_))));obtain⟨I,d,D⟩:=xK d;refine xX (fun a w=>I= .nx ()∧Sk a 27 []∧Sep [] B f w []) ?_ ?_
 ·
  refine xW ?_;obtain⟨K,M,d⟩:=qE d;refine oU (fun g a w=>∃ (n:Nat) (i:List (List Int)),(n≤j.length∧j.drop n=i)∧i.length=g∧qJ K i n ()=some I∧Sk a 27 [(5,xG (n:Int)),(0,p),(1,t)]∧Sep [] B f w []) j.length ?_ ?_
  ·
   exact⟨0,j,⟨Nat.zero_le _,rfl⟩,rfl,d,F.su,H⟩
  intro g1 a w ⟨n,i,e,N,d,F,H⟩
  cases i with
  | nil=>
   replace d:=qH d;have P:=qG e.1 e.2;have A:=vA P;refine xC (xP (xA 2 F rfl fun a F=>oL underlying45 F rfl rfl x fun a i3 F=>xA 1 F rfl fun a F=>xJ (qT F rfl A (oM ?_))));refine oR (oR (vH (xF ?_)));exact⟨(vE d),F.sub sn,H⟩
  | cons x2 i=>
   subst N;replace e:=oO e.2;have Q:=oZ e.2.1;obtain⟨Z,d,C⟩:=oV d;rw[M] at d;have A:=qM e.1;refine xC (xP (xA 2 F rfl fun a F=>oL underlying45 F rfl rfl x fun a J F=>xA 1 F rfl fun a F=>xJ (qV F rfl A (xL ?_))));refine xF (xC ?_);have j1:=fE (Nat.le_of_lt e.1) J;have R:=zC e.1 J;refine xW (xC (xQ H (by kernel_rfl) (by kernel_rfl) (xR F rfl (fun w l=>xM F rfl) fun a F=>xR F rfl (fun w l=>xM F rfl) fun a F=>qI underlying45 sizeOf25 F rfl rfl rfl x Q fun a p1 S F=>qlS isAgg25 F rfl rfl H.q S fun a v2 T F=>xR F rfl (fun w l=>xM F rfl) fun a F=>xR F rfl (fun w l=>xM F rfl) (fun a F=>?_))));obtain⟨z1,U,d⟩:=xB d;refine qI underlying45 sizeOf25 F rfl rfl rfl G U fun a p2 V F=>qlS isAgg25 F rfl rfl H.q V (fun a v3 W F=>?_);obtain⟨X,Y,d⟩:=xB d;refine dD F rfl call47 rfl (fun w w' h l=>l.through h) (fun w l=>iQ X Y w aA ((H.go l).a T) ((H.go l).a W)) fun a F=>xR F rfl (fun w l=>fW F rfl) fun a F=>kA fun w H=>xF (qP F rfl (fun z=>?_) (fun z=>?_))
   ·
    replace d:=vR z d;refine xP (xA 1 F rfl fun a F=>xJ (xT (vJ (oE (oE ?_)))));replace d:=zR d C;refine vJ (oE ?_);replace d:=zQ d D;refine oE (xS F rfl (oD F rfl) ?_);obtain rfl:=oj d;exact⟨rfl,H.bl⟩
   replace d:=vQ z d;refine xL (qS (xF (xU (xA 1 F rfl fun a F=>qQ F rfl rfl rfl R fun a F=>xA 1 F rfl fun a F=>xJ ?_))));replace d:=qX d C;exact⟨_,Nat.lt_succ_self _,n+1,i,⟨e.1,e.2.2⟩,rfl,d,F.su,H⟩
 rintro a w ⟨rfl,F,H⟩
 have d:=xN D;refine xF (xP (xA 1 F rfl fun a F=>xJ (xT (xS F rfl (oD F rfl) ?_))));obtain rfl:=oj d;exact⟨rfl,H.bl⟩
end Go.Proofs.YtgnfibiaaipibaaGreat
