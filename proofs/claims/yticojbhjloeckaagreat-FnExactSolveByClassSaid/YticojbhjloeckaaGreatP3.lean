import Derived.Test.YticojbhjloeckaaGreatP2
import Derived.Test.YticojbhjloeckaaGreatNK
namespace Go.Proofs.YticojbhjloeckaaGreat
open Go.Proofs.Tryz
set_option maxHeartbeats 1000000
set_option linter.unusedVariables false
set_option linter.unusedSimpArgs false
set_option maxRecDepth 100000
open Go.RowKit
def spec_l09Add (N:Nat) (x0:List Int) (x1:List Int):Option (List Int):=
 vO (σ:=Int×(List Int)) (
  whl (σ:=Int×(List Int)) (ρ:=(List Int)) (fun(s:Int×(List Int))=>
    match s with
    | (s1,s2)=>
    if (decide (s1<(s2.length:Int))) then
     xX (ix s2 s1) fun z1=>
     xX (ix x1 s1) fun z2=>
     xX (ck (z1+z2)) fun z3=>
     xX (rm z3 2) fun z4=>
     xX (ck (s1+1)) fun z5=>
     some (.go (z5,(s2.set (s1).toNat z4)))
    else
     some (.brk (s1,s2))) N (0,x0)) fun(s3,s4)=>
 some s4
theorem spec_l09Add_c {B:Nat→Prop} {N:Nat} {x0:List Int} {x1:List Int} (r:(List Int)) (hR:spec_l09Add N x0 x1=some r) {v0:Value} {v1:Value} {X0:List Nat} (w0:World) (hN:∀ c,B c→c<w0.heap.size) (S0:Sep X0 B w0 w0 [rl 1 xH 2 v0 x0]) (A1:Bo B w0 (Sl 1 xH) v1 x1):Calls Tryz.prog 92 #[v0,v1] w0 (Gv (fun v w'=>v= .tuple #[]∧Sep X0 B w0 w' [rl 1 xH 2 v0 r])):=by
 unfold spec_l09Add at hR
 refine xV (L:=[(0,v0),(1,v1)]) func92 rfl rfl rfl (sc rfl (sc rfl sn)) (fun a F=>?_);have H:=S0;refine xP (xA 1 F rfl fun a F=>xJ ?_);obtain⟨o1,hR,hk1⟩:=xK hR;refine xW (fun a w=>∃ (s1:Int) (s2:List Int),o1= .nx (s1,s2)∧Sk a 24 [(0,v0)]∧Sep X0 B w0 w [rl 1 xH 2 v0 s2]∧xY s1) ?_ ?_
 ·
  refine xS ?_;obtain⟨fl1,hf1,hR⟩:=whl_gen hR;refine oR (fun g a w=>∃ (s3:Int) (s4:List Int),whl fl1 g (s3,s4)=some o1∧Sk a 24 [(0,v0),(1,v1),(4,.int .i64 s3)]∧Sep X0 B w0 w [rl 1 xH 2 v0 s4]∧xY s3) N ?_ ?_
  ·
   exact⟨0,x0,hR,F.su,H,(show xY (0) by decide)⟩
  intro g1 a w ⟨s3,s4,hR,F,H,i1⟩;obtain⟨ck1,t1,hg1,hR,hn1⟩:=zU hR;rw[hf1] at hR;refine xC (xP (xA 2 F rfl fun a F=>oL underlying30 F rfl rfl (H.l 0 rfl) fun a i2 F=>xA 1 F rfl fun a F=>xJ (qT F rfl (fun hb1=>?_) (fun hb1=>?_))))
  ·
   replace hR:=vS hb1 hR;refine xL (xF (xC (xS ?_)));obtain⟨z1,c1,hR⟩:=xB hR;obtain⟨z2,c2,hR⟩:=xB hR;obtain⟨z3,c3,hR⟩:=xB hR;obtain⟨z4,c4,hR⟩:=xB hR;refine xD H (by kernel_rfl) fun w H=>vD 0 rfl (by kernel_rfl) (by kernel_rfl) (by kernel_rfl) (oJ F rfl (fun w l=>xM F rfl) fun a F=>vD 1 rfl (by kernel_rfl) (by kernel_rfl) (by kernel_rfl) (oJ F rfl (fun w l=>xM F rfl) fun a F=>vD 2 rfl (by kernel_rfl) (by kernel_rfl) (by kernel_rfl) (oJ F rfl (fun w l=>xM F rfl) fun a F=>vD 3 rfl (by kernel_rfl) (by kernel_rfl) (by kernel_rfl) (oJ F rfl (fun w l=>xM F rfl) fun a F=>vD 6 rfl (by kernel_rfl) (by kernel_rfl) (by kernel_rfl) (oJ F rfl (fun w l=>xM F rfl) (fun a F=>?_))))));refine vD 7 rfl (by kernel_rfl) (by kernel_rfl) (by kernel_rfl) (oJ F rfl (fun w l=>xM F rfl) fun a F=>kO 8 (by kernel_rfl) rfl (by kernel_rfl) (by kernel_rfl) (by kernel_rfl) (by kernel_rfl) (vI underlying30 sizeOf2 F rfl rfl rfl A1 c2 fun a p1 h1 F=>kO 9 (by kernel_rfl) rfl (by kernel_rfl) (by kernel_rfl) (by kernel_rfl) (by kernel_rfl) (vlI isAgg2 F rfl rfl H.v h1 fun a i3 F=>xE H 4 rfl (by kernel_rfl) (oI underlying30 sizeOf2 F rfl rfl rfl (H.l 0 rfl) c1 fun a p2 h2 F=>xJ ⟨⟨_,H⟩,?_⟩))));refine xE H 5 rfl (by kernel_rfl) (olI isAgg2 F rfl rfl (Sm.refl _ _) h2 fun a i4 F=>xJ ⟨⟨_,H⟩,?_⟩);refine vD 10 rfl (by kernel_rfl) (by kernel_rfl) (by kernel_rfl) (oJ F rfl (fun w l=>r_add F rfl rfl c3) fun a F=>vD 11 rfl (by kernel_rfl) (by kernel_rfl) (by kernel_rfl) (oJ F rfl (fun w l=>r_rem F rfl rfl c4) fun a F=>xE H 12 rfl (by kernel_rfl) (oRl underlying30 sizeOf2 F rfl rfl rfl H 0 rfl c1 fun a p3 h3 rp1 F=>xJ ⟨⟨_,H⟩,?_⟩)));refine xE H 13 rfl (by kernel_rfl) ?_;have H:=H.lw;refine oS sizeOf2 F rfl rfl rfl H rp1 (ix_lt c1) (Eo.int (rm64 c4 (ck64 c3) (show xY (2) by decide))) rfl rfl (fun w H=>?_);have H:=H.tl;refine xJ ⟨⟨_,H⟩,?_⟩;refine b_end (by kernel_rfl) (qW (xF (xR (xA 1 F rfl fun a F=>?_))));obtain⟨z5,c5,hR⟩:=xB hR;refine kX F rfl rfl rfl c5 fun a F=>xA 1 F rfl fun a F=>xJ ?_;replace hR:=qZ hR hn1;exact⟨t1,(by omega),z5,(s4.set (s3).toNat z4),hR,F.su,H,(ck64 c5)⟩
  replace hR:=vR hb1 hR;refine oO (oQ (oQ ?_));replace hR:=l_brk hR hn1;refine vJ (xF ?_);exact⟨s3,s4,(Option.some.inj hR).symm,F.su,H,i1⟩
 intro a w ⟨s1,s2,ho1,F,H,i5⟩;subst ho1;have hR:=xN hk1;refine x_ends (bodyPost_ret (results_none rfl _ _ _) F.d ?_);obtain rfl:=Option.some.inj hR;exact⟨_,rfl,rfl,H⟩
theorem spec_l09Add_w_c {B:Nat→Prop} {N:Nat} {x0:List Int} {x1:List Int} (r:(List Int)) (hR:spec_l09Add N x0 x1=some r) {v0:Value} {v1:Value} {X0:List Nat} (w0:World) (hN:∀ c,B c→c<w0.heap.size) (S0:Sep X0 B w0 w0 [ow (V:=(Sl 1 xH)) v0 x0]) (A1:Bo B w0 (Sl 1 xH) v1 x1):Calls Tryz.prog 92 #[v0,v1] w0 (Gv (fun v w'=>v= .tuple #[]∧Sep X0 B w0 w' [ow (V:=Sl 1 xH) v0 r])):=by
 unfold spec_l09Add at hR
 refine xV (L:=[(0,v0),(1,v1)]) func92 rfl rfl rfl (sc rfl (sc rfl sn)) (fun a F=>?_);have H:=S0;refine xP (xA 1 F rfl fun a F=>xJ ?_);obtain⟨o1,hR,hk1⟩:=xK hR;refine xW (fun a w=>∃ (s1:Int) (s2:List Int),o1= .nx (s1,s2)∧Sk a 24 [(0,v0)]∧Sep X0 B w0 w [ow (V:=(Sl 1 xH)) v0 s2]∧xY s1) ?_ ?_
 ·
  refine xS ?_;obtain⟨fl1,hf1,hR⟩:=whl_gen hR;refine oR (fun g a w=>∃ (s3:Int) (s4:List Int),whl fl1 g (s3,s4)=some o1∧Sk a 24 [(0,v0),(1,v1),(4,.int .i64 s3)]∧Sep X0 B w0 w [ow (V:=(Sl 1 xH)) v0 s4]∧xY s3) N ?_ ?_
  ·
   exact⟨0,x0,hR,F.su,H,(show xY (0) by decide)⟩
  intro g1 a w ⟨s3,s4,hR,F,H,i1⟩;obtain⟨ck1,t1,hg1,hR,hn1⟩:=zU hR;rw[hf1] at hR;refine xC (xP (xA 2 F rfl fun a F=>oL underlying30 F rfl rfl (H.o 0 rfl) fun a i2 F=>xA 1 F rfl fun a F=>xJ (qT F rfl (fun hb1=>?_) (fun hb1=>?_))))
  ·
   replace hR:=vS hb1 hR;refine xL (xF (xC (xS ?_)));obtain⟨z1,c1,hR⟩:=xB hR;obtain⟨z2,c2,hR⟩:=xB hR;obtain⟨z3,c3,hR⟩:=xB hR;obtain⟨z4,c4,hR⟩:=xB hR;refine xD H (by kernel_rfl) fun w H=>vD 0 rfl (by kernel_rfl) (by kernel_rfl) (by kernel_rfl) (oJ F rfl (fun w l=>xM F rfl) fun a F=>vD 1 rfl (by kernel_rfl) (by kernel_rfl) (by kernel_rfl) (oJ F rfl (fun w l=>xM F rfl) fun a F=>vD 2 rfl (by kernel_rfl) (by kernel_rfl) (by kernel_rfl) (oJ F rfl (fun w l=>xM F rfl) fun a F=>vD 3 rfl (by kernel_rfl) (by kernel_rfl) (by kernel_rfl) (oJ F rfl (fun w l=>xM F rfl) fun a F=>vD 6 rfl (by kernel_rfl) (by kernel_rfl) (by kernel_rfl) (oJ F rfl (fun w l=>xM F rfl) (fun a F=>?_))))));refine vD 7 rfl (by kernel_rfl) (by kernel_rfl) (by kernel_rfl) (oJ F rfl (fun w l=>xM F rfl) fun a F=>kO 8 (by kernel_rfl) rfl (by kernel_rfl) (by kernel_rfl) (by kernel_rfl) (by kernel_rfl) (vI underlying30 sizeOf2 F rfl rfl rfl A1 c2 fun a p1 h1 F=>kO 9 (by kernel_rfl) rfl (by kernel_rfl) (by kernel_rfl) (by kernel_rfl) (by kernel_rfl) (vlI isAgg2 F rfl rfl H.v h1 fun a i3 F=>xE H 4 rfl (by kernel_rfl) (oI underlying30 sizeOf2 F rfl rfl rfl (H.o 0 rfl) c1 fun a p2 h2 F=>xJ ⟨⟨_,H⟩,?_⟩))));refine xE H 5 rfl (by kernel_rfl) (olI isAgg2 F rfl rfl (Sm.refl _ _) h2 fun a i4 F=>xJ ⟨⟨_,H⟩,?_⟩);refine vD 10 rfl (by kernel_rfl) (by kernel_rfl) (by kernel_rfl) (oJ F rfl (fun w l=>r_add F rfl rfl c3) fun a F=>vD 11 rfl (by kernel_rfl) (by kernel_rfl) (by kernel_rfl) (oJ F rfl (fun w l=>r_rem F rfl rfl c4) fun a F=>xE H 12 rfl (by kernel_rfl) (oRo underlying30 sizeOf2 F rfl rfl rfl H 0 rfl c1 fun a p3 h3 rp1 F=>xJ ⟨⟨_,H⟩,?_⟩)));refine xE H 13 rfl (by kernel_rfl) (oSo sizeOf2 F rfl rfl rfl H rp1 (ix_lt c1) (rm64 c4 (ck64 c3) (show xY (2) by decide)) rfl fun w H=>xJ ⟨⟨_,H⟩,?_⟩);refine b_end (by kernel_rfl) (qW (xF (xR (xA 1 F rfl fun a F=>?_))));obtain⟨z5,c5,hR⟩:=xB hR;refine kX F rfl rfl rfl c5 fun a F=>xA 1 F rfl fun a F=>xJ ?_;replace hR:=qZ hR hn1;exact⟨t1,(by omega),z5,(s4.set (s3).toNat z4),hR,F.su,H,(ck64 c5)⟩
  replace hR:=vR hb1 hR;refine oO (oQ (oQ ?_));replace hR:=l_brk hR hn1;refine vJ (xF ?_);exact⟨s3,s4,(Option.some.inj hR).symm,F.su,H,i1⟩
 intro a w ⟨s1,s2,ho1,F,H,i5⟩;subst ho1;have hR:=xN hk1;refine x_ends (bodyPost_ret (results_none rfl _ _ _) F.d ?_);obtain rfl:=Option.some.inj hR;exact⟨_,rfl,rfl,H⟩
def spec_l09Solve (N:Nat) (x0:Template) (x1:Instance):Option ((List Int)×Bool):=
 vO (σ:=(List (List Int))×(List Int)) (
  qK (σ:=(List (List Int))×(List Int)) (ρ:=(List Int)×Bool) (fun(k1:Nat) (x2:Con) (s:(List (List Int))×(List Int))=>
    match s with
    | (s1,s2)=>
    xX (ix x0.rels x2.rel) fun z1=>
    xX (spec_l09Equations N z1) fun z2=>
    vO (σ:=(List (List Int))×(List Int)) (
     qK (σ:=(List (List Int))×(List Int)) (ρ:=(Ctl ((List (List Int))×(List Int)) ((List Int)×Bool))) (fun(k2:Nat) (x3:(List Int)) (s:(List (List Int))×(List Int))=>
       match s with
       | (s3,s4)=>
       xX (ck (x1.vars+1)) fun z3=>
       xX (mkz (0:Int) z3) fun z4=>
       vO (σ:=(List Int)) (
        qK (σ:=(List Int)) (ρ:=(Ctl ((List (List Int))×(List Int)) (Ctl ((List (List Int))×(List Int)) ((List Int)×Bool)))) (fun(k3:Nat) (x4:Int) (s5:(List Int))=>
         xX (ix s5 x4) fun z5=>
         xX (ix x3 (k3:Int)) fun z6=>
         xX (ck (z5+z6)) fun z7=>
         xX (rm z7 2) fun z8=>
         some (.go (s5.set (x4).toNat z8))) x2.scope 0 z4) fun s6=>
       xX (ix x3 (x2.scope.length:Int)) fun z9=>
       xX (ix s6 x1.vars) fun z10=>
       vO (σ:=(List Int)) (
        qK (σ:=(List Int)) (ρ:=(Ctl ((List (List Int))×(List Int)) (Ctl ((List (List Int))×(List Int)) ((List Int)×Bool)))) (fun(k4:Nat) (x5:(List Int)) (s7:(List Int))=>
         xX (ix s4 (k4:Int)) fun z11=>
         xX (ix s7 z11) fun z12=>
         if (z12==1) then
          xX (spec_l09Add N s7 x5) fun z13=>
          some (.go z13)
         else
          some (.go s7)) s3 0 (s6.set (x1.vars).toNat z9)) fun s8=>
       vO (σ:=Int) (
        whl (σ:=Int) (ρ:=(Ctl ((List (List Int))×(List Int)) (Ctl ((List (List Int))×(List Int)) ((List Int)×Bool)))) (fun(s9:Int)=>
         vO (σ:=Bool) (
          if (decide (s9<x1.vars)) then  xX (ix s8 s9) fun z14=>
           some (.nx (z14==0)) else  some (.nx false)) fun s10=>
         if s10 then
          xX (ck (s9+1)) fun z15=>
          some (.go z15)
         else
          some (.brk s9)) N 0) fun s11=>
       if (s11==x1.vars) then
        xX (ix s8 s11) fun z16=>
        if (z16==1) then
         some (.ret (.ret ([],false)))
        else
         some (.go (s3,s4))
       else
        vO (σ:=Int×(List (List Int))) (
         whl (σ:=Int×(List (List Int))) (ρ:=(Ctl ((List (List Int))×(List Int)) (Ctl ((List (List Int))×(List Int)) ((List Int)×Bool)))) (fun(s:Int×(List (List Int)))=>
           match s with
           | (s12,s13)=>
           if (decide (s12<(s13.length:Int))) then
            xX (ix s13 s12) fun z17=>
            xX (ix z17 s11) fun z18=>
            if (z18==1) then
             xX (spec_l09Add N z17 s8) fun z19=>
             xX (ck (s12+1)) fun z20=>
             some (.go (z20,(s13.set (s12).toNat z19)))
            else
             xX (ck (s12+1)) fun z21=>
             some (.go (z21,s13))
           else
            some (.brk (s12,s13))) N (0,s3)) fun(s14,s15)=>
        xX (ap s15 ([s8])) fun z22=>
        xX (ap s4 ([s11])) fun z23=>
        some (.go (z22,z23))) z2 0 (s1,s2)) fun(s16,s17)=>
    some (.go (s16,s17))) x1.cons 0 ([],[])) fun(s18,s19)=>
 xX (mkz (0:Int) x1.vars) fun z24=>
 vO (σ:=(List Int)) (
  qK (σ:=(List Int)) (ρ:=(List Int)×Bool) (fun(k5:Nat) (x6:(List Int)) (s20:(List Int))=>
   xX (ix s19 (k5:Int)) fun z25=>
   xX (ix x6 x1.vars) fun z26=>
   xX (ix s20 z25) fun z27=>
   some (.go (s20.set (z25).toNat z26))) s18 0 z24) fun s21=>
 some (s21,true)
theorem spec_l09Solve_c {B:Nat→Prop} {N:Nat} {x0:Template} {x1:Instance} (r:(List Int)×Bool) (hR:spec_l09Solve N x0 x1=some r) {v0:Value} {v1:Value} (w0:World) (hN:∀ c,B c→c<w0.heap.size) (A0:Bo B w0 (Pt 2 xG) v0 x0) (A1:Bo B w0 (Pt 2 xI) v1 x1):Calls Tryz.prog 50 #[v0,v1] w0 (Gv (fun v w'=>∃ (v1':Value),v= .tuple #[v1',.bool r.2]∧Sep [] B w0 w' [rl 1 xH 2 v1' r.1])):=by
 unfold spec_l09Solve at hR
 refine xV (L:=[(0,v0),(1,v1)]) func50 rfl rfl rfl (sc rfl (sc rfl sn)) (fun a F=>?_);have H:=Sep.start hN;refine xP (xA 2 F rfl fun a F=>qU (oR0 (R:=(vY 1 xH)) underlying67 sizeOf30 F rfl H fun a w v2 H F=>xA 1 F rfl fun a F=>qD ?_));refine xF (xP (oR0 (R:=xH) underlying30 sizeOf2 F rfl H fun a w v3 H F=>xA 1 F rfl fun a F=>xJ (xC (xP (xA 1 F rfl fun a F=>?_)))));refine xJ ?_;obtain⟨o1,hR,hk1⟩:=xK hR;refine xW (fun a w=>∃ (s1:List (List Int)) (v4:Value) (s2:List Int) (v5:Value),o1= .nx (s1,s2)∧Sk a 214 [(1,v1),(6,v4),(7,v5)]∧Sep [] B w0 w [rl 1 xH 2 v5 s2,rl 1 (vY 1 xH) 30 v4 s1]) ?_ ?_
 ·
  refine xS ?_;obtain⟨fl1,hf1,hR⟩:=qE hR;refine oR (fun g a w=>∃ (k1:Nat) (t1:List Con) (s3:List (List Int)) (v6:Value) (s4:List Int) (v7:Value),(k1≤x1.cons.length∧x1.cons.drop k1=t1)∧t1.length=g∧qK fl1 t1 k1 (s3,s4)=some o1∧Sk a 214 [(8,.int .i64 (k1:Int)),(0,v0),(1,v1),(6,v6),(7,v7)]∧Sep [] B w0 w [rl 1 xH 2 v7 s4,rl 1 (vY 1 xH) 30 v6 s3]) x1.cons.length ?_ ?_
  ·
   exact⟨0,x1.cons,[],v2,[],v3,⟨Nat.zero_le _,rfl⟩,rfl,hR,F.su,H⟩
  intro g1 a w ⟨k1,t1,s3,v6,s4,v7,hd1,hg1,hR,F,H⟩
  cases t1 with
  | nil=>
   replace hR:=qG hR;have q1:=qH hd1.1 hd1.2;have l1:=vA q1;refine xC (xP (xA 2 F rfl fun a F=>oN F rfl rfl A1 fun a F=>oF (s':=1) fa39_1 F rfl rfl A1 xI.f1 fun a p1 h1 F=>olS isAgg37 F rfl rfl H.sm h1 fun a v8 h2 F=>oL underlying37 F rfl rfl h2 fun a i1 F=>xA 1 F rfl fun a F=>qD ?_));refine xF (qV F rfl l1 (oO (oQ (oQ (vJ (xF ?_))))));exact⟨s3,v6,s4,v7,(Option.some.inj hR).symm,F.su,H⟩
  | cons x2 t1=>
   subst hg1;replace hd1:=oH hd1.2;have y1:=oV hd1.2.1;obtain⟨ck1,hR,hn1⟩:=oU hR;rw[hf1] at hR;have l1:=qP hd1.1;refine xC (xP (xA 2 F rfl fun a F=>oN F rfl rfl A1 fun a F=>oF (s':=1) fa39_1 F rfl rfl A1 xI.f1 fun a p2 h3 F=>olS isAgg37 F rfl rfl H.sm h3 fun a v9 h4 F=>oL underlying37 F rfl rfl h4 fun a i2 F=>xA 1 F rfl fun a F=>qD ?_));refine xF (qY F rfl l1 (xL (xF (xC ?_))));have j1:=k64 (Nat.le_of_lt hd1.1) i2;have m1:=zA hd1.1 i2;refine xS (xC ?_);obtain⟨z1,c1,hR⟩:=xB hR;obtain⟨z2,c2,hR⟩:=xB hR;refine xD H (by kernel_rfl) fun w H=>vD 0 rfl (by kernel_rfl) (by kernel_rfl) (by kernel_rfl) (oJ F rfl (fun w l=>xM F rfl) fun a F=>kO 1 (by kernel_rfl) rfl (by kernel_rfl) (by kernel_rfl) (by kernel_rfl) (by kernel_rfl) (vN F rfl rfl A0 fun a F=>kO 2 (by kernel_rfl) rfl (by kernel_rfl) (by kernel_rfl) (by kernel_rfl) (by kernel_rfl) (vF (s':=1) fa35_1 F rfl rfl A0 xG.f1 fun a p3 h5 F=>kO 3 (by kernel_rfl) rfl (by kernel_rfl) (by kernel_rfl) (by kernel_rfl) (by kernel_rfl) (vlS isAgg33 F rfl rfl H.v h5 fun a v10 h6 F=>vD 4 rfl (by kernel_rfl) (by kernel_rfl) (by kernel_rfl) (oJ F rfl (fun w l=>xM F rfl) (fun a F=>?_))))));refine kO 5 (by kernel_rfl) rfl (by kernel_rfl) (by kernel_rfl) (by kernel_rfl) (by kernel_rfl) (vN F rfl rfl A1 fun a F=>kO 6 (by kernel_rfl) rfl (by kernel_rfl) (by kernel_rfl) (by kernel_rfl) (by kernel_rfl) (vF (s':=1) fa39_1 F rfl rfl A1 xI.f1 fun a p4 h7 F=>kO 7 (by kernel_rfl) rfl (by kernel_rfl) (by kernel_rfl) (by kernel_rfl) (by kernel_rfl) (vlS isAgg37 F rfl rfl H.v h7 fun a v12 h8 F=>vD 8 rfl (by kernel_rfl) (by kernel_rfl) (by kernel_rfl) (oJ F rfl (fun w l=>xM F rfl) fun a F=>kO 9 (by kernel_rfl) rfl (by kernel_rfl) (by kernel_rfl) (by kernel_rfl) (by kernel_rfl) (vI underlying37 sizeOf85 F rfl rfl rfl h8 y1 fun a p5 h9 F=>kO 10 (by kernel_rfl) rfl (by kernel_rfl) (by kernel_rfl) (by kernel_rfl) (by kernel_rfl) ?_)))));refine vF (s':=1) fa85_0 F rfl rfl h9 qX.f0 fun a p6 h10 F=>kO 11 (by kernel_rfl) rfl (by kernel_rfl) (by kernel_rfl) (by kernel_rfl) (by kernel_rfl) (vlI isAgg2 F rfl rfl H.v h10 fun a i3 F=>kO 12 (by kernel_rfl) rfl (by kernel_rfl) (by kernel_rfl) (by kernel_rfl) (by kernel_rfl) (vI underlying33 sizeOf69 F rfl rfl rfl h6 c1 fun a p7 h11 F=>xE H 13 rfl (by kernel_rfl) (oG F rfl call91 rfl (spec_l09Equations_c z2 c2 _ aA (H.a h11)) (fun a vv w ⟨v14,hv1,S⟩ F=>?_))));subst vv;have H:=H.r1 S n0;refine xJ ⟨⟨_,H⟩,?_⟩;refine vD 14 rfl (by kernel_rfl) (by kernel_rfl) (by kernel_rfl) (oJ F rfl (fun w l=>kL F rfl) fun a F=>b_end (by kernel_rfl) (xF (xP (xA 1 F rfl fun a F=>xJ ?_))));obtain⟨o2,hR,hk2⟩:=xK hR;refine xW (fun a w=>∃ (s5:List (List Int)) (v15:Value) (s6:List Int) (v16:Value),o2= .nx (s5,s6)∧Sk a 214 [(0,v0),(1,v1),(6,v15),(7,v16),(8,.int .i64 (k1:Int))]∧Sep [] B w0 w [rl 1 xH 2 v16 s6,rl 1 (vY 1 xH) 30 v15 s5]) ?_ ?_
   ·
    refine xS ?_;obtain⟨fl2,hf2,hR⟩:=qE hR;refine oR (fun g a w=>∃ (k2:Nat) (t2:List (List Int)) (s7:List (List Int)) (v17:Value) (s8:List Int) (v18:Value),(k2≤z2.length∧z2.drop k2=t2)∧t2.length=g∧qK fl2 t2 k2 (s7,s8)=some o2∧Sk a 214 [(10,.int .i64 (k2:Int)),(0,v0),(1,v1),(6,v17),(7,v18),(8,.int .i64 (k1:Int)),(9,v14)]∧Sep [] B w0 w [rl 1 (vY 1 xH) 30 v14 z2,rl 1 xH 2 v18 s8,rl 1 (vY 1 xH) 30 v17 s7]) z2.length ?_ ?_
    ·
     exact⟨0,z2,s3,v6,s4,v7,⟨Nat.zero_le _,rfl⟩,rfl,hR,F.su,H⟩
    intro g2 a w ⟨k2,t2,s7,v17,s8,v18,hd2,hg2,hR,F,H⟩
    cases t2 with
    | nil=>
     replace hR:=qG hR;have q2:=qH hd2.1 hd2.2;have l2:=vA q2;refine xC (xP (xA 2 F rfl fun a F=>oL underlying67 F rfl rfl (H.l 0 rfl) fun a i4 F=>xA 1 F rfl fun a F=>xJ (qV F rfl l2 (oO ?_))));refine oQ (oQ (vJ (xF ?_)));exact⟨s7,v17,s8,v18,(Option.some.inj hR).symm,F.su,(H.s [1,2] rfl rfl)⟩
    | cons x3 t2=>
     subst hg2;replace hd2:=oH hd2.2;have y2:=oV hd2.2.1;obtain⟨ck2,hR,hn2⟩:=oU hR;rw[hf2] at hR;have l2:=qP hd2.1;refine xC (xP (xA 2 F rfl fun a F=>oL underlying67 F rfl rfl (H.l 0 rfl) fun a i5 F=>xA 1 F rfl fun a F=>xJ (qY F rfl l2 (xL ?_))));refine xF (xC ?_);have j2:=k64 (Nat.le_of_lt hd2.1) i5;have m2:=zA hd2.1 i5;refine xS (xP (xA 1 F rfl fun a F=>oN F rfl rfl A1 fun a F=>oF (s':=1) zY F rfl rfl A1 xI.f0 fun a p8 h12 F=>olI isAgg2 F rfl rfl H.sm h12 (fun a i6 F=>?_)));obtain⟨z3,c3,hR⟩:=xB hR;refine kX F rfl rfl rfl c3 (fun a F=>?_);obtain⟨z4,c4,hR⟩:=xB hR;refine oRM (sz:=1) (R:=xH) (z:=(.int .i64 0)) (bytes:=8) underlying30 (by kernel_rfl) rfl (by decide) (by decide) (fun w=>⟨rfl,by decide,rfl⟩) F rfl rfl rfl c4 H fun a w v19 H F=>xA 1 F rfl fun a F=>qU (xA 1 F rfl fun a F=>oN F rfl rfl A1 fun a F=>oF (s':=1) fa39_1 F rfl rfl A1 xI.f1 fun a p9 h13 F=>olS isAgg37 F rfl rfl H.sm h13 fun a v20 h14 F=>xA 1 F rfl fun a F=>?_);refine oI underlying37 sizeOf85 F rfl rfl rfl h14 y1 fun a p10 h15 F=>oF (s':=1) kV F rfl rfl h15 qX.f1 fun a p11 h16 F=>olS isAgg30 F rfl rfl H.sm h16 fun a v21 h17 F=>oL underlying30 F rfl rfl h17 fun a i7 F=>xA 1 F rfl fun a F=>xJ (xC (xP (xA 1 F rfl fun a F=>?_)));refine xJ ?_;obtain⟨o3,hR,hk3⟩:=xK hR;refine xW (fun a w=>∃ (s9:List Int) (v22:Value),o3= .nx s9∧Sk a 214 [(0,v0),(1,v1),(6,v17),(7,v18),(8,.int .i64 (k1:Int)),(9,v14),(10,.int .i64 (k2:Int)),(11,v22),(12,.int .i64 (x2.scope.length:Int))]∧Sep [] B w0 w [rl 1 xH 2 v22 s9,rl 1 (vY 1 xH) 30 v14 z2,rl 1 xH 2 v18 s8,rl 1 (vY 1 xH) 30 v17 s7]) ?_ ?_
     ·
      refine xS ?_;obtain⟨fl3,hf3,hR⟩:=qE hR;refine oR (fun g a w=>∃ (k3:Nat) (t3:List Int) (s10:List Int) (v23:Value),(k3≤x2.scope.length∧x2.scope.drop k3=t3)∧t3.length=g∧qK fl3 t3 k3 s10=some o3∧Sk a 214 [(13,.int .i64 (k3:Int)),(0,v0),(1,v1),(6,v17),(7,v18),(8,.int .i64 (k1:Int)),(9,v14),(10,.int .i64 (k2:Int)),(11,v23),(12,.int .i64 (x2.scope.length:Int))]∧Sep [] B w0 w [rl 1 xH 2 v23 s10,rl 1 (vY 1 xH) 30 v14 z2,rl 1 xH 2 v18 s8,rl 1 (vY 1 xH) 30 v17 s7]) x2.scope.length ?_ ?_
      ·
       exact⟨0,x2.scope,z4,v19,⟨Nat.zero_le _,rfl⟩,rfl,hR,F.su,H⟩
      intro g3 a w ⟨k3,t3,s10,v23,hd3,hg3,hR,F,H⟩
      cases t3 with
      | nil=>
       replace hR:=qG hR;have q3:=qH hd3.1 hd3.2;have l3:=vA q3;refine xC (xP (xA 3 F rfl fun a F=>xJ (qV F rfl l3 (oO (oQ ?_)))));refine oQ (vJ (xF ?_));exact⟨s10,v23,(Option.some.inj hR).symm,F.su,H⟩
      | cons x4 t3=>
       subst hg3;replace hd3:=oH hd3.2;have y3:=oV hd3.2.1;obtain⟨ck3,hR,hn3⟩:=oU hR;rw[hf3] at hR;have l3:=qP hd3.1;refine xC (xP (xA 3 F rfl fun a F=>xJ (qY F rfl l3 (xL (xF ?_)))));refine xC ?_;have j3:=k64 (Nat.le_of_lt hd3.1) i7;have m3:=zA hd3.1 i7;refine xS (xP (xA 1 F rfl fun a F=>oN F rfl rfl A1 fun a F=>oF (s':=1) fa39_1 F rfl rfl A1 xI.f1 fun a p12 h18 F=>olS isAgg37 F rfl rfl H.sm h18 fun a v24 h19 F=>xA 1 F rfl fun a F=>oI underlying37 sizeOf85 F rfl rfl rfl h19 y1 fun a p13 h20 F=>oF (s':=1) kV F rfl rfl h20 qX.f1 fun a p14 h21 F=>olS isAgg30 F rfl rfl H.sm h21 (fun a v25 h22 F=>?_)));refine xA 1 F rfl fun a F=>oI underlying30 sizeOf2 F rfl rfl rfl h22 y3 fun a p15 h23 F=>olI isAgg2 F rfl rfl H.sm h23 fun a i8 F=>xA 1 F rfl fun a F=>xJ ?_;obtain⟨z5,c5,hR⟩:=xB hR;obtain⟨z6,c6,hR⟩:=xB hR;obtain⟨z7,c7,hR⟩:=xB hR;obtain⟨z8,c8,hR⟩:=xB hR;obtain⟨w1,rfl⟩:∃ x,x=w:=⟨_,rfl⟩;have sm1:=H.sm;obtain⟨X1,N1,g4,e1,H,th1,ab1⟩:=(H.s [1,0,2,3] rfl rfl).fza;have h24:=g4.ld;refine xD H (by kernel_rfl) fun w H=>vD 0 rfl (by kernel_rfl) (by kernel_rfl) (by kernel_rfl) (oJ F rfl (fun w l=>xM F rfl) fun a F=>vD 1 rfl (by kernel_rfl) (by kernel_rfl) (by kernel_rfl) (oJ F rfl (fun w l=>xM F rfl) fun a F=>vD 2 rfl (by kernel_rfl) (by kernel_rfl) (by kernel_rfl) (oJ F rfl (fun w l=>xM F rfl) fun a F=>vD 3 rfl (by kernel_rfl) (by kernel_rfl) (by kernel_rfl) (oJ F rfl (fun w l=>xM F rfl) fun a F=>vD 6 rfl (by kernel_rfl) (by kernel_rfl) (by kernel_rfl) (oJ F rfl (fun w l=>xM F rfl) (fun a F=>?_))))));refine vD 7 rfl (by kernel_rfl) (by kernel_rfl) (by kernel_rfl) (oJ F rfl (fun w l=>xM F rfl) fun a F=>kO 8 (by kernel_rfl) rfl (by kernel_rfl) (by kernel_rfl) (by kernel_rfl) (by kernel_rfl) (vI underlying67 sizeOf30 F rfl rfl rfl h24 y2 fun a p16 h25 F=>kO 9 (by kernel_rfl) rfl (by kernel_rfl) (by kernel_rfl) (by kernel_rfl) (by kernel_rfl) (vlS isAgg30 F rfl rfl H.v h25 fun a v26 h26 F=>vD 10 rfl (by kernel_rfl) (by kernel_rfl) (by kernel_rfl) (oJ F rfl (fun w l=>xM F rfl) fun a F=>kO 11 (by kernel_rfl) rfl (by kernel_rfl) (by kernel_rfl) (by kernel_rfl) (by kernel_rfl) (vI underlying30 sizeOf2 F rfl rfl rfl h26 c6 fun a p17 h27 F=>kO 12 (by kernel_rfl) rfl (by kernel_rfl) (by kernel_rfl) (by kernel_rfl) (by kernel_rfl) ?_)))));refine vlI isAgg2 F rfl rfl H.v h27 fun a i9 F=>xE H 4 rfl (by kernel_rfl) (oI underlying30 sizeOf2 F rfl rfl rfl (H.l 0 rfl) c5 fun a p18 h28 F=>xJ ⟨⟨_,H⟩,?_⟩);refine xE H 5 rfl (by kernel_rfl) (olI isAgg2 F rfl rfl (Sm.refl _ _) h28 fun a i10 F=>xJ ⟨⟨_,H⟩,?_⟩);refine vD 13 rfl (by kernel_rfl) (by kernel_rfl) (by kernel_rfl) (oJ F rfl (fun w l=>r_add F rfl rfl c7) fun a F=>vD 14 rfl (by kernel_rfl) (by kernel_rfl) (by kernel_rfl) (oJ F rfl (fun w l=>r_rem F rfl rfl c8) fun a F=>xE H 15 rfl (by kernel_rfl) (oRl underlying30 sizeOf2 F rfl rfl rfl H 0 rfl c5 fun a p19 h29 rp1 F=>xJ ⟨⟨_,H⟩,?_⟩)));refine xE H 16 rfl (by kernel_rfl) ?_;have H:=H.lw;refine oS sizeOf2 F rfl rfl rfl H rp1 (ix_lt c5) (Eo.int (rm64 c8 (ck64 c7) (show xY (2) by decide))) rfl rfl (fun w H=>?_)
       have H:=H.tl;refine xJ ⟨⟨_,H⟩,?_⟩;refine b_end (by kernel_rfl) (qW (xF (xR (xA 1 F rfl fun a F=>qR F rfl rfl rfl m3 fun a F=>xA 1 F rfl fun a F=>xJ ?_))));replace hR:=qZ hR hn3;exact⟨_,Nat.lt_succ_self _,k3+1,t3,(s10.set (x4).toNat z8),v23,⟨hd3.1,hd3.2.2⟩,rfl,hR,F.su,((th1.1 H (Ns.all ⟨n0,⟨n0,⟨n0,trivial⟩⟩⟩)).s [1,0,2,3] rfl rfl)⟩
     intro a w ⟨s9,v22,ho1,F,H⟩;subst ho1;have hR:=xN hk3;refine xF (xC ?_);obtain⟨z9,c9,hR⟩:=xB hR;obtain⟨z10,c10,hR⟩:=xB hR;obtain⟨w2,rfl⟩:∃ x,x=w:=⟨_,rfl⟩;have sm2:=H.sm;obtain⟨X2,N2,g5,e2,H,th2,ab2⟩:=(H.s [1,0,2,3] rfl rfl).fza;have h30:=g5.ld;refine xD H (by kernel_rfl) fun w H=>vD 0 rfl (by kernel_rfl) (by kernel_rfl) (by kernel_rfl) (oJ F rfl (fun w l=>xM F rfl) fun a F=>vD 1 rfl (by kernel_rfl) (by kernel_rfl) (by kernel_rfl) (oJ F rfl (fun w l=>xM F rfl) fun a F=>kO 2 (by kernel_rfl) rfl (by kernel_rfl) (by kernel_rfl) (by kernel_rfl) (by kernel_rfl) (vN F rfl rfl A1 fun a F=>kO 3 (by kernel_rfl) rfl (by kernel_rfl) (by kernel_rfl) (by kernel_rfl) (by kernel_rfl) (vF (s':=1) zY F rfl rfl A1 xI.f0 fun a p20 h31 F=>kO 4 (by kernel_rfl) rfl (by kernel_rfl) (by kernel_rfl) (by kernel_rfl) (by kernel_rfl) (vlI isAgg2 F rfl rfl (fun w l=>(sm2.trans (Sm.mono (H.v w l) th2.2.2))) h31 (fun a i11 F=>?_))))));refine vD 5 rfl (by kernel_rfl) (by kernel_rfl) (by kernel_rfl) (oJ F rfl (fun w l=>xM F rfl) fun a F=>vD 6 rfl (by kernel_rfl) (by kernel_rfl) (by kernel_rfl) (oJ F rfl (fun w l=>xM F rfl) fun a F=>kO 7 (by kernel_rfl) rfl (by kernel_rfl) (by kernel_rfl) (by kernel_rfl) (by kernel_rfl) (vI underlying67 sizeOf30 F rfl rfl rfl h30 y2 fun a p21 h32 F=>kO 8 (by kernel_rfl) rfl (by kernel_rfl) (by kernel_rfl) (by kernel_rfl) (by kernel_rfl) (vlS isAgg30 F rfl rfl H.v h32 fun a v27 h33 F=>vD 9 rfl (by kernel_rfl) (by kernel_rfl) (by kernel_rfl) (oJ F rfl (fun w l=>xM F rfl) fun a F=>kO 10 (by kernel_rfl) rfl (by kernel_rfl) (by kernel_rfl) (by kernel_rfl) (by kernel_rfl) ?_)))));refine vI underlying30 sizeOf2 F rfl rfl rfl h33 c9 fun a p22 h34 F=>kO 11 (by kernel_rfl) rfl (by kernel_rfl) (by kernel_rfl) (by kernel_rfl) (by kernel_rfl) (vlI isAgg2 F rfl rfl H.v h34 fun a i12 F=>xE H 12 rfl (by kernel_rfl) (oRl underlying30 sizeOf2 F rfl rfl rfl H 0 rfl c10 fun a p23 h35 rp2 F=>xJ ⟨⟨_,H⟩,?_⟩));refine xE H 13 rfl (by kernel_rfl) ?_;have H:=H.lw;refine oS sizeOf2 F rfl rfl rfl H rp2 (ix_lt c10) (Eo.int i12) rfl rfl (fun w H=>?_);have H:=H.tl;refine xJ ⟨⟨_,H⟩,?_⟩;refine b_end (by kernel_rfl) (xF (xC (xP (xA 1 F rfl fun a F=>xJ ?_))));obtain⟨o4,hR,hk4⟩:=xK hR;refine xW (fun a w=>∃ (s11:List Int) (v28:Value),o4= .nx s11∧Sk a 214 [(0,v0),(1,v1),(6,v17),(7,v18),(8,.int .i64 (k1:Int)),(9,v14),(10,.int .i64 (k2:Int)),(11,v28)]∧Sep X2 N2 w2 w [rl 1 xH 2 v28 s11,rl 1 xH 2 v18 s8,rl 1 (vY 1 xH) 30 v17 s7]) ?_ ?_
     ·
      refine xS ?_;obtain⟨fl4,hf4,hR⟩:=qE hR;refine oR (fun g a w=>∃ (k4:Nat) (t4:List (List Int)) (s12:List Int) (v29:Value),(k4≤s7.length∧s7.drop k4=t4)∧t4.length=g∧qK fl4 t4 k4 s12=some o4∧Sk a 214 [(15,.int .i64 (k4:Int)),(0,v0),(1,v1),(6,v17),(7,v18),(8,.int .i64 (k1:Int)),(9,v14),(10,.int .i64 (k2:Int)),(11,v29)]∧Sep X2 N2 w2 w [rl 1 xH 2 v29 s12,rl 1 xH 2 v18 s8,rl 1 (vY 1 xH) 30 v17 s7]) s7.length ?_ ?_
      ·
       exact⟨0,s7,(s9.set (x1.vars).toNat z9),v22,⟨Nat.zero_le _,rfl⟩,rfl,hR,F.su,H⟩
      intro g6 a w ⟨k4,t4,s12,v29,hd4,hg4,hR,F,H⟩
      cases t4 with
      | nil=>
       replace hR:=qG hR;have q4:=qH hd4.1 hd4.2;have l4:=vA q4;refine xC (xP (xA 2 F rfl fun a F=>oL underlying67 F rfl rfl (H.l 2 rfl) fun a i13 F=>xA 1 F rfl fun a F=>xJ (qV F rfl l4 (oO ?_))));refine oQ (oQ (vJ (xF ?_)));exact⟨s12,v29,(Option.some.inj hR).symm,F.su,H⟩
      | cons x5 t4=>
       subst hg4;replace hd4:=oH hd4.2;have y4:=oV hd4.2.1;obtain⟨ck4,hR,hn4⟩:=oU hR;rw[hf4] at hR;have l4:=qP hd4.1;refine xC (xP (xA 2 F rfl fun a F=>oL underlying67 F rfl rfl (H.l 2 rfl) fun a i14 F=>xA 1 F rfl fun a F=>xJ (qY F rfl l4 (xL ?_))));refine xF (xC ?_);have j4:=k64 (Nat.le_of_lt hd4.1) i14;have m4:=zA hd4.1 i14;refine xS (xP (xA 3 F rfl fun a F=>?_));obtain⟨z11,c11,hR⟩:=xB hR;refine oI underlying30 sizeOf2 F rfl rfl rfl (H.l 1 rfl) c11 fun a p24 h36 F=>olI isAgg2 F rfl rfl (Sm.refl _ _) h36 (fun a i15 F=>?_);obtain⟨z12,c12,hR⟩:=xB hR;refine oI underlying30 sizeOf2 F rfl rfl rfl (H.l 0 rfl) c12 fun a p25 h37 F=>olI isAgg2 F rfl rfl (Sm.refl _ _) h37 fun a i16 F=>xA 1 F rfl fun a F=>xJ (qT F rfl (fun hb1=>?_) (fun hb1=>?_))
       ·
        replace hR:=vS hb1 hR;refine xR (xA 3 F rfl fun a F=>?_);obtain⟨w3,rfl⟩:∃ x,x=w:=⟨_,rfl⟩;have sm3:=H.sm;obtain⟨X3,N3,g7,e3,H,th3,ab3⟩:=(H.s [2,0,1] rfl rfl).fza;have h38:=g7.ld;refine oI underlying67 sizeOf30 F rfl rfl rfl h38 y4 fun a p26 h39 F=>olS isAgg30 F rfl rfl H.sm h39 (fun a v30 h40 F=>?_);obtain⟨z13,c13,hR⟩:=xB hR;obtain⟨X4,K1,bk1⟩:=Sep.lend (K:=[rl 1 xH 2 v29 s12]) (L:=[rl 1 xH 2 v18 s8]) H;refine oG F rfl call92 rfl (spec_l09Add_c z13 c13 _ H.hN K1 (H.u h40)) (fun a vv w ⟨hv2,S⟩ F=>?_);subst vv;have H:Sep X3 N3 w3 w [rl 1 xH 2 v29 z13,rl 1 xH 2 v18 s8]:=bk1 S;refine qD (qW (xF (xR (xA 1 F rfl fun a F=>qR F rfl rfl rfl m4 fun a F=>xA 1 F rfl fun a F=>xJ ?_))));replace hR:=qZ hR hn4;exact⟨_,Nat.lt_succ_self _,k4+1,t4,z13,v29,⟨hd4.1,hd4.2.2⟩,rfl,hR,F.su,((th3.1 H (Ns.all ⟨n0,⟨n0,trivial⟩⟩)).s [1,2,0] rfl rfl)⟩
       replace hR:=vR hb1 hR;refine xL (qW (xF (xR (xA 1 F rfl fun a F=>qR F rfl rfl rfl m4 fun a F=>xA 1 F rfl fun a F=>xJ ?_))));replace hR:=qZ hR hn4;exact⟨_,Nat.lt_succ_self _,k4+1,t4,s12,v29,⟨hd4.1,hd4.2.2⟩,rfl,hR,F.su,H⟩
     intro a w ⟨s11,v28,ho2,F,H⟩;subst ho2;have hR:=xN hk4;refine xF (xP (xA 1 F rfl fun a F=>xJ (xC ?_)));obtain⟨o5,hR,hk5⟩:=xK hR;refine xW (fun a w=>∃ (s13:Int),o5= .nx s13∧Sk a 214 [(0,v0),(1,v1),(6,v17),(7,v18),(8,.int .i64 (k1:Int)),(9,v14),(10,.int .i64 (k2:Int)),(11,v28),(16,.int .i64 s13)]∧Sep X2 N2 w2 w [rl 1 xH 2 v28 s11,rl 1 xH 2 v18 s8,rl 1 (vY 1 xH) 30 v17 s7]∧xY s13) ?_ ?_
     ·
      refine xS ?_;obtain⟨fl5,hf5,hR⟩:=whl_gen hR;refine oR (fun g a w=>∃ (s14:Int),whl fl5 g s14=some o5∧Sk a 214 [(0,v0),(1,v1),(6,v17),(7,v18),(8,.int .i64 (k1:Int)),(9,v14),(10,.int .i64 (k2:Int)),(11,v28),(16,.int .i64 s14)]∧Sep X2 N2 w2 w [rl 1 xH 2 v28 s11,rl 1 xH 2 v18 s8,rl 1 (vY 1 xH) 30 v17 s7]∧xY s14) N ?_ ?_
      ·
       exact⟨0,hR,F.su,H,(show xY (0) by decide)⟩
      intro g8 a w ⟨s14,hR,F,H,i17⟩;obtain⟨ck5,t5,hg5,hR,hn5⟩:=zU hR;rw[hf5] at hR;refine xC (xC ?_);obtain⟨o6,hR,hk6⟩:=xK hR;refine xW (fun a w=>∃ (s15:Bool),o6= .nx s15∧Sk a 214 [(0,v0),(1,v1),(6,v17),(7,v18),(8,.int .i64 (k1:Int)),(9,v14),(10,.int .i64 (k2:Int)),(11,v28),(16,.int .i64 s14),(143,.bool s15)]∧Sep X2 N2 w2 w [rl 1 xH 2 v28 s11,rl 1 xH 2 v18 s8,rl 1 (vY 1 xH) 30 v17 s7]) ?_ ?_
      ·
       refine xR (xA 2 F rfl fun a F=>oN F rfl rfl A1 fun a F=>oF (s':=1) zY F rfl rfl A1 xI.f0 fun a p27 h41 F=>olI isAgg2 F rfl rfl (sm2.trans (Sm.mono H.sm th2.2.2)) h41 fun a i18 F=>xA 2 F rfl fun a F=>?_)
       rcases vG (decide (s14<x1.vars)) with hb2 | hb2
       ·
        replace hR:=vS hb2 hR;have F:=F.eq (t:=137) rfl (congrArg Value.bool hb2);refine xA 2 F rfl fun a F=>?_;obtain⟨z14,c14,hR⟩:=xB hR;refine oI underlying30 sizeOf2 F rfl rfl rfl (H.l 0 rfl) c14 fun a p28 h42 F=>olI isAgg2 F rfl rfl (Sm.refl _ _) h42 fun a i19 F=>xA 2 F rfl fun a F=>xJ ?_;exact⟨(z14==0),(Option.some.inj hR).symm,F.su,H⟩
       replace hR:=vR hb2 hR;have F:=F.eq (t:=137) rfl (congrArg Value.bool hb2);refine xA 6 F rfl fun a F=>xJ ?_;exact⟨false,(Option.some.inj hR).symm,F.su,H⟩
      intro a w ⟨s15,ho3,F,H⟩;subst ho3;have hR:=xN hk6;refine xF (qT F rfl (fun hb3=>?_) (fun hb3=>?_))
      ·
       replace hR:=vS hb3 hR;refine xL (xF (xS (xR (xA 1 F rfl fun a F=>?_))));obtain⟨z15,c15,hR⟩:=xB hR;refine kX F rfl rfl rfl c15 fun a F=>xA 1 F rfl fun a F=>qD (qW (xF ?_));replace hR:=qZ hR hn5;exact⟨t5,(by omega),z15,hR,F.su,H,(ck64 c15)⟩
      replace hR:=vR hb3 hR;refine oO (oQ (oQ ?_));replace hR:=l_brk hR hn5;refine vJ (xF ?_);exact⟨s14,(Option.some.inj hR).symm,F.su,H,i17⟩
     intro a w ⟨s13,ho4,F,H,i20⟩;subst ho4;have hR:=xN hk5;refine xF (xC (xP (xA 2 F rfl fun a F=>oN F rfl rfl A1 fun a F=>oF (s':=1) zY F rfl rfl A1 xI.f0 fun a p29 h43 F=>olI isAgg2 F rfl rfl (sm2.trans (Sm.mono H.sm th2.2.2)) h43 fun a i21 F=>xA 1 F rfl fun a F=>qD ?_)));refine xF (qT F rfl (fun hb4=>?_) (fun hb4=>?_))
     ·
      replace hR:=vS hb4 hR;refine xC (xP (xA 2 F rfl fun a F=>?_));obtain⟨z16,c16,hR⟩:=xB hR;refine oI underlying30 sizeOf2 F rfl rfl rfl (H.l 0 rfl) c16 fun a p30 h44 F=>olI isAgg2 F rfl rfl (Sm.refl _ _) h44 fun a i22 F=>xA 1 F rfl fun a F=>xJ (qT F rfl (fun hb5=>?_) (fun hb5=>?_))
      ·
       replace hR:=vS hb5 hR;refine xP (oR0 (R:=xH) underlying30 sizeOf2 F rfl H fun a w v31 H F=>xA 2 F rfl fun a F=>xJ (xT (oE (oE (vH ?_)))));refine oE (oE ?_);replace hR:=zS hR hn2;refine vH (oE ?_);replace hR:=zR hR hk2;refine vH (oE (oE ?_));replace hR:=zS hR hn1;refine vH (oE ?_);replace hR:=zR hR hk1;refine oE ?_;have H:=(th2.1 H (Ns.all ⟨n0,⟨n0,⟨n0,⟨n0,trivial⟩⟩⟩⟩));refine zV F rfl (oD F rfl) (oD F rfl) ?_;obtain rfl:=Option.some.inj hR;exact⟨_,rfl,v31,rfl,(H.s [1] rfl rfl)⟩
      replace hR:=vR hb5 hR;refine xL (xF (oO (oQ (vJ (xF (xR (xA 1 F rfl fun a F=>qR F rfl rfl rfl m2 fun a F=>xA 1 F rfl fun a F=>qD ?_)))))));refine xF ?_;replace hR:=qZ hR hn2;exact⟨_,Nat.lt_succ_self _,k2+1,t2,s7,v17,s8,v18,⟨hd2.1,hd2.2.2⟩,rfl,hR,F.su,(th2.1 (H.s [1,2] rfl rfl) (Ns.all ⟨n0,⟨n0,trivial⟩⟩))⟩
     replace hR:=vR hb4 hR;refine xL (xF (xC (xP (xA 1 F rfl fun a F=>xJ ?_))));obtain⟨o7,hR,hk7⟩:=xK hR;refine xW (fun a w=>∃ (s16:Int) (s17:List (List Int)) (v32:Value),o7= .nx (s16,s17)∧Sk a 214 [(0,v0),(1,v1),(6,v32),(7,v18),(8,.int .i64 (k1:Int)),(9,v14),(10,.int .i64 (k2:Int)),(11,v28),(16,.int .i64 s13)]∧Sep X2 N2 w2 w [rl 1 xH 2 v28 s11,rl 1 xH 2 v18 s8,rl 1 (vY 1 xH) 30 v32 s17]∧xY s16) ?_ ?_
     ·
      refine xS ?_;obtain⟨fl6,hf6,hR⟩:=whl_gen hR;refine oR (fun g a w=>∃ (s18:Int) (s19:List (List Int)) (v33:Value),whl fl6 g (s18,s19)=some o7∧Sk a 214 [(0,v0),(1,v1),(6,v33),(7,v18),(8,.int .i64 (k1:Int)),(9,v14),(10,.int .i64 (k2:Int)),(11,v28),(16,.int .i64 s13),(17,.int .i64 s18)]∧Sep X2 N2 w2 w [rl 1 xH 2 v28 s11,rl 1 xH 2 v18 s8,rl 1 (vY 1 xH) 30 v33 s19]∧xY s18) N ?_ ?_
      ·
       exact⟨0,s7,v17,hR,F.su,H,(show xY (0) by decide)⟩
      intro g9 a w ⟨s18,s19,v33,hR,F,H,i23⟩;obtain⟨ck6,t6,hg6,hR,hn6⟩:=zU hR;rw[hf6] at hR;refine xC (xP (xA 2 F rfl fun a F=>oL underlying67 F rfl rfl (H.l 2 rfl) fun a i24 F=>xA 1 F rfl fun a F=>xJ (qT F rfl (fun hb6=>?_) (fun hb6=>?_))))
      ·
       replace hR:=vS hb6 hR;refine xL (xF (xC (xS (xP (xA 2 F rfl fun a F=>?_)))));obtain⟨z17,c17,hR⟩:=xB hR;refine oI underlying67 sizeOf30 F rfl rfl rfl (H.l 2 rfl) c17 fun a p31 h45 F=>olS isAgg30 F rfl rfl (Sm.refl _ _) h45 fun a v34 h46 F=>xA 1 F rfl fun a F=>?_;obtain⟨z18,c18,hR⟩:=xB hR;refine oI underlying30 sizeOf2 F rfl rfl rfl h46 c18 fun a p32 h47 F=>olI isAgg2 F rfl rfl (Sm.refl _ _) h47 fun a i25 F=>xA 1 F rfl fun a F=>xJ (qT F rfl (fun hb7=>?_) (fun hb7=>?_))
       ·
        replace hR:=vS hb7 hR;refine xR (xA 2 F rfl fun a F=>oRl underlying67 sizeOf30 F rfl rfl rfl H 2 rfl c17 fun a p33 h48 rp3 F=>oFoc isAgg30 F rfl rfl (H.s [2,0,1] rfl rfl) rp3 (ix_get c17) fun a u2662 H hl2663 F=>xA 1 F rfl fun a F=>?_);obtain⟨w4,rfl⟩:∃ x,x=w:=⟨_,rfl⟩;have sm4:=H.sm;obtain⟨X5,N4,g10,e4,H,th4,ab4⟩:=(H.s [2,0,1,3] rfl rfl).fza;have h49:=g10.ld;obtain⟨z19,c19,hR⟩:=xB hR;obtain⟨X6,K2,bk2⟩:=Sep.lend (K:=[ow (V:=(Sl 1 xH)) u2662 z17]) (L:=[rl 1 (RS 1 xH) 30 v33 ((s19.map .inr).set (s18).toNat (.inl u2662)),rl 1 xH 2 v18 s8]) H;refine oG F rfl call92 rfl (spec_l09Add_w_c z19 c19 _ H.hN K2 (H.u h49)) (fun a vv w ⟨hv3,S⟩ F=>?_);subst vv;have H:Sep X5 N4 w4 w [ow (V:=(Sl 1 xH)) u2662 z19,rl 1 (RS 1 xH) 30 v33 ((s19.map .inr).set (s18).toNat (.inl u2662)),rl 1 xH 2 v18 s8]:=bk2 S;have H:=Sep.unfoc hl2663 H;refine qD (qW (xF (xR (xA 1 F rfl fun a F=>?_))));obtain⟨z20,c20,hR⟩:=xB hR;refine kX F rfl rfl rfl c20 fun a F=>xA 1 F rfl fun a F=>xJ ?_;replace hR:=qZ hR hn6;exact⟨t6,(by omega),z20,(s19.set (s18).toNat z19),v33,hR,F.su,((th4.1 H (Ns.all ⟨n0,⟨n0,trivial⟩⟩)).s [0,2,1] rfl rfl),(ck64 c20)⟩
       replace hR:=vR hb7 hR;refine xL (qW (xF (xR (xA 1 F rfl fun a F=>?_))));obtain⟨z21,c21,hR⟩:=xB hR;refine kX F rfl rfl rfl c21 fun a F=>xA 1 F rfl fun a F=>xJ ?_;replace hR:=qZ hR hn6;exact⟨t6,(by omega),z21,s19,v33,hR,F.su,H,(ck64 c21)⟩
      replace hR:=vR hb6 hR;refine oO (oQ (oQ ?_));replace hR:=l_brk hR hn6;refine vJ (xF ?_);exact⟨s18,s19,v33,(Option.some.inj hR).symm,F.su,H,i23⟩
     intro a w ⟨s16,s17,v32,ho5,F,H,i26⟩;subst ho5;have hR:=xN hk7;refine xF (xP (xA 2 F rfl fun a F=>?_));have H:=H.os;refine oR1L (R:=(vY 1 xH)) (y:=s11) underlying67 sizeOf30 zeroValue30 rfl rfl F rfl rfl H El.sl (fun a w v35 H F=>?_);obtain⟨z22,c22,hR⟩:=xB hR;refine oPL (sz:=1) (R:=(vY 1 xH)) (z:=((.slice none 0 0))) (bytes:=24) underlying67 (by kernel_rfl) rfl rfl F rfl rfl rfl (H.s [2,0,1] rfl rfl) c22 fun a w v36 H F=>xA 1 F rfl fun a F=>xJ (xR (xA 2 F rfl fun a F=>oR1z (R:=xH) (y:=s13) underlying30 sizeOf2 zeroValue2 rfl rfl F rfl rfl H (Eo.int i20) (fun a w v37 H F=>?_)));obtain⟨z23,c23,hR⟩:=xB hR;refine oPL (sz:=1) (R:=xH) (z:=(.int .i64 0)) (bytes:=8) underlying30 (by kernel_rfl) rfl rfl F rfl rfl rfl (H.s [2,0,1] rfl rfl) c23 fun a w v38 H F=>xA 1 F rfl fun a F=>qD (qW (xF (xR (xA 1 F rfl fun a F=>qR F rfl rfl rfl m2 fun a F=>xA 1 F rfl fun a F=>xJ ?_))));replace hR:=qZ hR hn2;exact⟨_,Nat.lt_succ_self _,k2+1,t2,z22,v36,z23,v38,⟨hd2.1,hd2.2.2⟩,rfl,hR,F.su,(th2.1 H (Ns.all ⟨n0,⟨n0,trivial⟩⟩))⟩
   intro a w ⟨s5,v15,s6,v16,ho6,F,H⟩;subst ho6;have hR:=xN hk2;refine qW (xF (xR (xA 1 F rfl fun a F=>qR F rfl rfl rfl m1 fun a F=>xA 1 F rfl fun a F=>xJ ?_)));replace hR:=qZ hR hn1;exact⟨_,Nat.lt_succ_self _,k1+1,t1,s5,v15,s6,v16,⟨hd1.1,hd1.2.2⟩,rfl,hR,F.su,H⟩
 intro a w ⟨s1,v4,s2,v5,ho7,F,H⟩;subst ho7;have hR:=xN hk1;refine xF (xP (xA 1 F rfl fun a F=>oN F rfl rfl A1 fun a F=>oF (s':=1) zY F rfl rfl A1 xI.f0 fun a p34 h50 F=>olI isAgg2 F rfl rfl H.sm h50 (fun a i27 F=>?_)));obtain⟨z24,c24,hR⟩:=xB hR;refine oRM (sz:=1) (R:=xH) (z:=(.int .i64 0)) (bytes:=8) underlying30 (by kernel_rfl) rfl (by decide) (by decide) (fun w=>⟨rfl,by decide,rfl⟩) F rfl rfl rfl c24 H fun a w v39 H F=>xA 1 F rfl fun a F=>xJ (xC (xP (xA 1 F rfl fun a F=>xJ ?_)));obtain⟨o8,hR,hk8⟩:=xK hR;refine xW (fun a w=>∃ (s20:List Int) (v40:Value),o8= .nx s20∧Sk a 214 [(18,v40)]∧Sep [] B w0 w [rl 1 xH 2 v40 s20]) ?_ ?_
 ·
  refine xS ?_;obtain⟨fl7,hf7,hR⟩:=qE hR;refine oR (fun g a w=>∃ (k5:Nat) (t7:List (List Int)) (s21:List Int) (v41:Value),(k5≤s1.length∧s1.drop k5=t7)∧t7.length=g∧qK fl7 t7 k5 s21=some o8∧Sk a 214 [(19,.int .i64 (k5:Int)),(1,v1),(6,v4),(7,v5),(18,v41)]∧Sep [] B w0 w [rl 1 xH 2 v41 s21,rl 1 xH 2 v5 s2,rl 1 (vY 1 xH) 30 v4 s1]) s1.length ?_ ?_
  ·
   exact⟨0,s1,z24,v39,⟨Nat.zero_le _,rfl⟩,rfl,hR,F.su,H⟩
  intro g11 a w ⟨k5,t7,s21,v41,hd5,hg7,hR,F,H⟩
  cases t7 with
  | nil=>
   replace hR:=qG hR;have q5:=qH hd5.1 hd5.2;have l5:=vA q5;refine xC (xP (xA 2 F rfl fun a F=>oL underlying67 F rfl rfl (H.l 2 rfl) fun a i28 F=>xA 1 F rfl fun a F=>xJ (qV F rfl l5 (oO ?_))));refine oQ (oQ (vJ (xF ?_)));exact⟨s21,v41,(Option.some.inj hR).symm,F.su,(H.s [0] rfl rfl)⟩
  | cons x6 t7=>
   subst hg7;replace hd5:=oH hd5.2;have y5:=oV hd5.2.1;obtain⟨ck7,hR,hn7⟩:=oU hR;rw[hf7] at hR;have l5:=qP hd5.1;refine xC (xP (xA 2 F rfl fun a F=>oL underlying67 F rfl rfl (H.l 2 rfl) fun a i29 F=>xA 1 F rfl fun a F=>xJ (qY F rfl l5 (xL ?_))));refine xF (xC ?_);have j5:=k64 (Nat.le_of_lt hd5.1) i29;have m5:=zA hd5.1 i29;refine xS ?_;obtain⟨z25,c25,hR⟩:=xB hR;obtain⟨z26,c26,hR⟩:=xB hR;obtain⟨z27,c27,hR⟩:=xB hR;obtain⟨w5,rfl⟩:∃ x,x=w:=⟨_,rfl⟩;have sm5:=H.sm;obtain⟨X7,N5,g12,e5,H,th5,ab5⟩:=(H.s [1,2,0] rfl rfl).mg.fza;have h51:=g12.l.ld;have h52:=g12.r.ld;refine xD H (by kernel_rfl) fun w H=>vD 0 rfl (by kernel_rfl) (by kernel_rfl) (by kernel_rfl) (oJ F rfl (fun w l=>xM F rfl) fun a F=>vD 1 rfl (by kernel_rfl) (by kernel_rfl) (by kernel_rfl) (oJ F rfl (fun w l=>xM F rfl) fun a F=>vD 2 rfl (by kernel_rfl) (by kernel_rfl) (by kernel_rfl) (oJ F rfl (fun w l=>xM F rfl) fun a F=>kO 3 (by kernel_rfl) rfl (by kernel_rfl) (by kernel_rfl) (by kernel_rfl) (by kernel_rfl) (vI underlying30 sizeOf2 F rfl rfl rfl h51 c25 fun a p35 h53 F=>kO 4 (by kernel_rfl) rfl (by kernel_rfl) (by kernel_rfl) (by kernel_rfl) (by kernel_rfl) (vlI isAgg2 F rfl rfl H.v h53 (fun a i30 F=>?_))))));refine vD 5 rfl (by kernel_rfl) (by kernel_rfl) (by kernel_rfl) (oJ F rfl (fun w l=>xM F rfl) fun a F=>vD 6 rfl (by kernel_rfl) (by kernel_rfl) (by kernel_rfl) (oJ F rfl (fun w l=>xM F rfl) fun a F=>kO 7 (by kernel_rfl) rfl (by kernel_rfl) (by kernel_rfl) (by kernel_rfl) (by kernel_rfl) (vI underlying67 sizeOf30 F rfl rfl rfl h52 y5 fun a p36 h54 F=>kO 8 (by kernel_rfl) rfl (by kernel_rfl) (by kernel_rfl) (by kernel_rfl) (by kernel_rfl) (vlS isAgg30 F rfl rfl H.v h54 fun a v42 h55 F=>vD 9 rfl (by kernel_rfl) (by kernel_rfl) (by kernel_rfl) (oJ F rfl (fun w l=>xM F rfl) fun a F=>kO 10 (by kernel_rfl) rfl (by kernel_rfl) (by kernel_rfl) (by kernel_rfl) (by kernel_rfl) ?_)))));refine vN F rfl rfl A1 fun a F=>kO 11 (by kernel_rfl) rfl (by kernel_rfl) (by kernel_rfl) (by kernel_rfl) (by kernel_rfl) (vF (s':=1) zY F rfl rfl A1 xI.f0 fun a p37 h56 F=>kO 12 (by kernel_rfl) rfl (by kernel_rfl) (by kernel_rfl) (by kernel_rfl) (by kernel_rfl) (vlI isAgg2 F rfl rfl (fun w l=>(sm5.trans (Sm.mono (H.v w l) th5.2.2))) h56 fun a i31 F=>kO 13 (by kernel_rfl) rfl (by kernel_rfl) (by kernel_rfl) (by kernel_rfl) (by kernel_rfl) (vI underlying30 sizeOf2 F rfl rfl rfl h55 c26 fun a p38 h57 F=>kO 14 (by kernel_rfl) rfl (by kernel_rfl) (by kernel_rfl) (by kernel_rfl) (by kernel_rfl) (vlI isAgg2 F rfl rfl H.v h57 fun a i32 F=>xE H 15 rfl (by kernel_rfl) (oRl underlying30 sizeOf2 F rfl rfl rfl H 0 rfl c27 (fun a p39 h58 rp4 F=>?_))))));refine xJ ⟨⟨_,H⟩,?_⟩;refine xE H 16 rfl (by kernel_rfl) ?_;have H:=H.lw;refine oS sizeOf2 F rfl rfl rfl H rp4 (ix_lt c27) (Eo.int i32) rfl rfl (fun w H=>?_);have H:=H.tl;refine xJ ⟨⟨_,H⟩,?_⟩;refine b_end (by kernel_rfl) (qW (xF (xR (xA 1 F rfl fun a F=>qR F rfl rfl rfl m5 fun a F=>xA 1 F rfl fun a F=>xJ ?_))));replace hR:=qZ hR hn7;exact⟨_,Nat.lt_succ_self _,k5+1,t7,(s21.set (z25).toNat z26),v41,⟨hd5.1,hd5.2.2⟩,rfl,hR,F.su,((th5.1 H (Ns.all ⟨n0,trivial⟩)).um.s [2,0,1] rfl rfl)⟩
 intro a w ⟨s20,v40,ho8,F,H⟩;subst ho8;have hR:=xN hk8;refine xF (xP (xA 3 F rfl fun a F=>xJ (xT (zV F rfl (oD F rfl) (oD F rfl) ?_))));obtain rfl:=Option.some.inj hR;exact⟨_,rfl,v40,rfl,H⟩
def spec_l09By (N:Nat) (x0:Template) (x1:Instance) (x2:Int):Option ((List Int)×Bool):=
 if (x2==1) then
  xX (mkz (0:Int) x1.vars) fun z1=>
  some (z1,true)
 else
  if (x2==2) then
   vO (σ:=(List Int)) (
    vQ (σ:=(List Int)) (ρ:=(List Int)×Bool) (fun(k1:Nat) (s1:(List Int))=>
     xX (ap s1 ([1])) fun z2=>
     some (.go z2)) x1.vars.toNat 0 []) fun s2=>
   some (s2,true)
  else
   if (x2==3) then
    xX (spec_l09Least N x0 x1 false) fun z3=>
    some (z3.1,z3.2)
   else
    if (x2==4) then
     xX (spec_l09Least N x0 x1 true) fun z4=>
     some (z4.1,z4.2)
    else
     if (x2==5) then
      xX (spec_l09Pairs N x0 x1) fun z5=>
      some (z5.1,z5.2)
     else
      xX (spec_l09Solve N x0 x1) fun z6=>
      some (z6.1,z6.2)
theorem spec_l09By_c {B:Nat→Prop} {N:Nat} {x0:Template} {x1:Instance} {x2:Int} (r:(List Int)×Bool) (hR:spec_l09By N x0 x1 x2=some r) {v0:Value} {v1:Value} (w0:World) (hN:∀ c,B c→c<w0.heap.size) (A0:Bo B w0 (Pt 2 xG) v0 x0) (A1:Bo B w0 (Pt 2 xI) v1 x1) (hx2:xY x2):Calls Tryz.prog 23 #[v0,v1,.int .i64 x2] w0 (Gv (fun v w'=>∃ (v1':Value),v= .tuple #[v1',.bool r.2]∧Sep [] B w0 w' [ro B (V:=(Sl 1 xH)) v1' r.1])):=by
 unfold spec_l09By at hR
 refine xV (L:=[(0,v0),(1,v1),(2,.int .i64 x2)]) func23 rfl rfl rfl (sc rfl (sc rfl (sc rfl sn))) (fun a F=>?_);have H:=Sep.start hN;refine xP (xA 2 F rfl fun a F=>xJ (xC (xP (xA 1 F rfl fun a F=>qD ?_))));refine xF (xS (xP (xA 2 F rfl fun a F=>xJ (qT F rfl (fun hb1=>?_) (fun hb1=>?_)))))
 ·
  replace hR:=vS hb1 hR;refine xP (xA 1 F rfl fun a F=>oN F rfl rfl A1 fun a F=>oF (s':=1) zY F rfl rfl A1 xI.f0 fun a p1 h1 F=>olI isAgg2 F rfl rfl H.sm h1 (fun a i1 F=>?_));obtain⟨z1,c16,hR⟩:=xB hR;refine oRM (sz:=1) (R:=xH) (z:=(.int .i64 0)) (bytes:=8) underlying30 (by kernel_rfl) rfl (by decide) (by decide) (fun w=>⟨rfl,by decide,rfl⟩) F rfl rfl rfl c16 H fun a w v2 H F=>xA 2 F rfl fun a F=>xJ (xT (vH (oE ?_)));have H:=H.lw.rwo.rok;refine zV F rfl (oD F rfl) (oD F rfl) ?_;obtain rfl:=Option.some.inj hR;exact⟨_,rfl,v2,rfl,H⟩
 replace hR:=vR hb1 hR;refine xP (xA 2 F rfl fun a F=>xJ (qT F rfl (fun hb2=>?_) (fun hb2=>?_)))
 ·
  replace hR:=vS hb2 hR;refine xP (oR0 (R:=xH) underlying30 sizeOf2 F rfl H fun a w v3 H F=>xA 1 F rfl fun a F=>xJ (xC (xP (xA 1 F rfl fun a F=>qD ?_))));refine xF ?_;obtain⟨o1,hR,hk1⟩:=xK hR;refine xW (fun a w=>∃ (s1:List Int) (v4:Value),o1= .nx s1∧Sk a 59 [(8,v4)]∧Sep [] B w0 w [rl 1 xH 2 v4 s1]) ?_ ?_
  ·
   refine xS ?_;obtain⟨fl1,hf1,hR⟩:=zI hR;refine oR (fun g a w=>∃ (k1:Nat) (s2:List Int) (v5:Value),k1+g=x1.vars.toNat∧vQ fl1 g k1 s2=some o1∧Sk a 59 [(9,.int .i64 (k1:Int)),(1,v1),(8,v5)]∧Sep [] B w0 w [rl 1 xH 2 v5 s2]) x1.vars.toNat ?_ ?_
   ·
    exact⟨0,[],v3,(Nat.zero_add _),hR,F.su,H⟩
   intro g1 a w ⟨k1,s2,v5,hd1,hR,F,H⟩
   cases g1 with
   | zero=>
    replace hR:=vT hR;have l1:=kZ hd1;refine xC (xP (xA 2 F rfl fun a F=>oN F rfl rfl A1 fun a F=>oF (s':=1) zY F rfl rfl A1 xI.f0 fun a p64 h2 F=>olI isAgg2 F rfl rfl H.sm h2 fun a i2 F=>xA 1 F rfl fun a F=>xJ ?_));refine qV F rfl l1 (oO (oQ (oQ (vJ (xF ?_)))));exact⟨s2,v5,(Option.some.inj hR).symm,F.su,H⟩
   | succ g1=>
    obtain⟨ck1,hR,hn1⟩:=vU hR;rw[hf1] at hR;have l1:=kE hd1;refine xC (xP (xA 2 F rfl fun a F=>oN F rfl rfl A1 fun a F=>oF (s':=1) zY F rfl rfl A1 xI.f0 fun a p2 h3 F=>olI isAgg2 F rfl rfl H.sm h3 fun a i3 F=>xA 1 F rfl fun a F=>xJ ?_));refine qY F rfl l1 (xL (xF (xC ?_)));have j1:=k64I hd1 i3;have m1:=inc64I hd1 i3;refine xS (xR (xA 1 F rfl fun a F=>oR1z (R:=xH) (y:=1) underlying30 sizeOf2 zeroValue2 rfl rfl F rfl rfl H (Eo.int (show xY (1) by decide)) (fun a w v6 H F=>?_)));obtain⟨z2,c1,hR⟩:=xB hR;refine oPL (sz:=1) (R:=xH) (z:=(.int .i64 0)) (bytes:=8) underlying30 (by kernel_rfl) rfl rfl F rfl rfl rfl (H.s [1,0] rfl rfl) c1 fun a w v7 H F=>xA 1 F rfl fun a F=>qD (qW (xF (xR (xA 1 F rfl fun a F=>qR F rfl rfl rfl m1 fun a F=>xA 1 F rfl fun a F=>xJ ?_))));replace hR:=qZ hR hn1;exact⟨_,Nat.lt_succ_self _,k1+1,z2,v7,(by omega),hR,F.su,H⟩
  intro a w ⟨s1,v4,ho1,F,H⟩;subst ho1;have hR:=xN hk1;refine xF (xP (xA 3 F rfl fun a F=>xJ (xT (vH (oE ?_)))));have H:=H.lw.rwo.rok;refine zV F rfl (oD F rfl) (oD F rfl) ?_;obtain rfl:=Option.some.inj hR;exact⟨_,rfl,v4,rfl,H⟩
 replace hR:=vR hb2 hR;refine xP (xA 2 F rfl fun a F=>xJ (qT F rfl (fun hb3=>?_) (fun hb3=>?_)))
 ·
  replace hR:=vS hb3 hR;refine xP (xA 2 F rfl fun a F=>?_);obtain⟨z3,c2,hR⟩:=xB hR;refine oG F rfl call48 rfl (spec_l09Least_c z3 c2 _ aA (H.a A0) (H.a A1)) (fun a vv w ⟨v8,hv1,S⟩ F=>?_);subst vv;have H:=H.r1 S n0;refine xA 4 F rfl fun a F=>xJ (xT (vH (oE ?_)));have H:=H.lw.rwo.rok;refine zV F rfl (oD F rfl) (oD F rfl) ?_;obtain rfl:=Option.some.inj hR;exact⟨_,rfl,v8,rfl,H⟩
 replace hR:=vR hb3 hR;refine xP (xA 2 F rfl fun a F=>xJ (qT F rfl (fun hb4=>?_) (fun hb4=>?_)))
 ·
  replace hR:=vS hb4 hR;refine xP (xA 2 F rfl fun a F=>?_);obtain⟨z4,c3,hR⟩:=xB hR;refine oG F rfl call48 rfl (spec_l09Least_c z4 c3 _ aA (H.a A0) (H.a A1)) (fun a vv w ⟨v9,hv2,S⟩ F=>?_);subst vv;have H:=H.r1 S n0;refine xA 4 F rfl fun a F=>xJ (xT (vH (oE ?_)));have H:=H.lw.rwo.rok;refine zV F rfl (oD F rfl) (oD F rfl) ?_;obtain rfl:=Option.some.inj hR;exact⟨_,rfl,v9,rfl,H⟩
 replace hR:=vR hb4 hR;refine xP (xA 2 F rfl fun a F=>xJ (qT F rfl (fun hb5=>?_) (fun hb5=>?_)))
 ·
  replace hR:=vS hb5 hR;refine xP (xA 2 F rfl fun a F=>?_);obtain⟨z5,c4,hR⟩:=xB hR;refine oG F rfl call49 rfl (spec_l09Pairs_c z5 c4 _ H.hN (H.u A0) (H.u A1)) (fun a vv w ⟨v10,hv3,S⟩ F=>?_);subst vv;have H:=H.r1 S n1;refine xA 4 F rfl fun a F=>xJ (xT (vH (oE (zV F rfl (oD F rfl) (oD F rfl) ?_))));obtain rfl:=Option.some.inj hR;exact⟨_,rfl,v10,rfl,H⟩
 replace hR:=vR hb5 hR;refine xL (qW (xF (xP (xA 2 F rfl fun a F=>?_))));obtain⟨z6,c5,hR⟩:=xB hR;refine oG F rfl call50 rfl (spec_l09Solve_c z6 c5 _ aA (H.a A0) (H.a A1)) (fun a vv w ⟨v11,hv4,S⟩ F=>?_);subst vv;have H:=H.r1 S n0;refine xA 4 F rfl fun a F=>xJ (xT ?_);have H:=H.lw.rwo.rok;refine zV F rfl (oD F rfl) (oD F rfl) ?_;obtain rfl:=Option.some.inj hR;exact⟨_,rfl,v11,rfl,H⟩
def spec_SolveByClass (N:Nat) (x0:Template) (x1:Instance) (x2:Int):Option ((List Int)×Int):=
 xX (spec_l05Ok (Template.mk x0.size x0.rels) (Instance.mk x1.vars x1.cons)) fun z1=>
 if (!z1) then
  some ([],1)
 else
  xX (spec_l09Two (Template.mk x0.size x0.rels) x2) fun z2=>
  if (z2 != 0) then
   some ([],z2)
  else
   vO (σ:=Bool) (
    xX (spec_l09Is N (Template.mk x0.size x0.rels) x2) fun z3=>
    if (!z3) then  some (.nx true) else  if (x2==1) then  xX (spec_l09Empty (Template.mk x0.size x0.rels)) fun z4=>
      some (.nx z4) else  if (x2==2) then  xX (spec_l09Empty (Template.mk x0.size x0.rels)) fun z5=>
       some (.nx z5) else  some (.nx false)) fun s1=>
   if s1 then
    some ([],4)
   else
    xX (spec_l09By N (Template.mk x0.size x0.rels) (Instance.mk x1.vars x1.cons) x2) fun z64=>
    if (!z64.2) then
     some ([],6)
    else
     some (z64.1,0)
theorem spec_SolveByClass_c {B:Nat→Prop} {N:Nat} {x0:Template} {x1:Instance} {x2:Int} (r:(List Int)×Int) (hR:spec_SolveByClass N x0 x1 x2=some r) {v0:Value} {v1:Value} (w0:World) (hN:∀ c,B c→c<w0.heap.size) (A0:Bo B w0 (zC 2 xG) v0 x0) (A1:Bo B w0 (zC 2 xI) v1 x1) (hx2:xY x2):Calls Tryz.prog 6 #[v0,v1,.int .i64 x2] w0 (Gv (fun v w'=>∃ (v1':Value),v= .tuple #[v1',.int .i64 r.2]∧Sep [] B w0 w' [ro B (V:=(Sl 1 xH)) v1' r.1]∧xY r.2)):=by
 unfold spec_SolveByClass at hR
 refine xV (L:=[(0,v0),(1,v1),(2,.int .i64 x2)]) func6 rfl rfl rfl (sc rfl (sc rfl (sc rfl sn))) (fun a F=>?_);have H:=Sep.start hN;refine xP ?_;obtain⟨v2,rfl,i1,h1⟩:=xG.o A0;refine oX F rfl rfl rfl H (fun a w b1 H F=>?_);obtain⟨v16,rfl,i2,h2⟩:=xI.o A1;refine oX F rfl rfl rfl H fun a w b2 H F=>xA 2 F rfl fun a F=>xJ (xC (xP ?_));obtain⟨z1,c1,hR⟩:=xB hR;refine oK F rfl call19 rfl H (spec_l05Ok_c z1 c1 _ aA (xG.b (H.g 1 rfl).bk i1 (H.a h1)) (xI.b (H.g 0 rfl).bk i2 (H.a h2))) fun a w H F=>xA 1 F rfl fun a F=>xJ (qT F rfl (fun hb1=>?_) (fun hb1=>?_))
 ·
  replace hR:=vS hb1 hR;refine xP (oR0 (R:=xH) underlying30 sizeOf2 F rfl H fun a w v3 H F=>xA 2 F rfl fun a F=>xJ (xT (oE ?_)));have H:=(H.s [0] rfl rfl);have H:=H.lw.rwo.rok;refine zV F rfl (oD F rfl) (oD F rfl) ?_;obtain rfl:=Option.some.inj hR;exact⟨_,rfl,v3,rfl,H,(show xY (1) by decide)⟩
 replace hR:=vR hb1 hR;refine xL (xF (xC (xP (xA 1 F rfl fun a F=>?_))));obtain⟨z2,c2,hR⟩:=xB hR;refine oKI F rfl call20 rfl H (spec_l09Two_c z2 c2 _ aA (xG.b (H.g 1 rfl).bk i1 (H.a h1)) hx2) fun a w H iz1 F=>xA 1 F rfl fun a F=>qU (xA 2 F rfl fun a F=>xJ (qT F rfl (fun hb2=>?_) (fun hb2=>?_)))
 ·
  replace hR:=vS hb2 hR;refine xP (oR0 (R:=xH) underlying30 sizeOf2 F rfl H fun a w v4 H F=>xA 3 F rfl fun a F=>xJ (xT (oE ?_)));have H:=(H.s [0] rfl rfl);have H:=H.lw.rwo.rok;refine zV F rfl (oD F rfl) (oD F rfl) ?_;obtain rfl:=Option.some.inj hR;exact⟨_,rfl,v4,rfl,H,iz1⟩
 replace hR:=vR hb2 hR;refine xL (xF (xC (xC ?_)));obtain⟨o1,hR,hk1⟩:=xK hR;refine xW (fun a w=>∃ (s1:Bool),o1= .nx s1∧Sk a 44 [(2,.int .i64 x2),(3,.pointer (some ⟨b1,0,none⟩)),(4,.pointer (some ⟨b2,0,none⟩)),(33,.bool s1)]∧Sep [] B w0 w [bx b2 [.int .i64 x1.vars,v16] 39,bx b1 [.int .i64 x0.size,v2] 35]) ?_ ?_
 ·
  refine xR (xA 1 F rfl fun a F=>?_);obtain⟨z3,c3,hR⟩:=xB hR;refine oK F rfl call21 rfl H (spec_l09Is_c z3 c3 _ aA (xG.b (H.g 1 rfl).bk i1 (H.a h1)) hx2) fun a w H F=>xA 2 F rfl fun a F=>?_
  rcases vG (!z3) with hb3 | hb3
  ·
   replace hR:=vS hb3 hR;have F:=F.eq (t:=23) rfl (congrArg Value.bool hb3);refine xA 10 F rfl fun a F=>qD ?_;refine xF ?_;exact⟨true,(Option.some.inj hR).symm,F.su,H⟩
  replace hR:=vR hb3 hR;have F:=F.eq (t:=23) rfl (congrArg Value.bool hb3);refine xA 3 F rfl fun a F=>?_
  rcases vG (x2==1) with hb4 | hb4
  ·
   replace hR:=vS hb4 hR;have F:=F.eq (t:=26) rfl (congrArg Value.bool hb4);refine xA 4 F rfl fun a F=>?_;obtain⟨z4,c4,hR⟩:=xB hR;refine oK F rfl call22 rfl H (spec_l09Empty_c z4 c4 _ aA (xG.b (H.g 1 rfl).bk i1 (H.a h1))) fun a w H F=>xA 2 F rfl fun a F=>xJ ?_;exact⟨z4,(Option.some.inj hR).symm,F.su,H⟩
  replace hR:=vR hb4 hR;have F:=F.eq (t:=26) rfl (congrArg Value.bool hb4);refine xA 4 F rfl fun a F=>?_
  rcases vG (x2==2) with hb5 | hb5
  ·
   replace hR:=vS hb5 hR;have F:=F.eq (t:=30) rfl (congrArg Value.bool hb5);obtain⟨z5,c5,hR⟩:=xB hR;refine oK F rfl call22 rfl H (spec_l09Empty_c z5 c5 _ aA (xG.b (H.g 1 rfl).bk i1 (H.a h1))) fun a w H F=>xA 2 F rfl fun a F=>xJ ?_;exact⟨z5,(Option.some.inj hR).symm,F.su,H⟩
  replace hR:=vR hb5 hR;have F:=F.eq (t:=30) rfl (congrArg Value.bool hb5);refine xA 3 F rfl fun a F=>xJ ?_;exact⟨false,(Option.some.inj hR).symm,F.su,H⟩
 intro a w ⟨s1,ho1,F,H⟩;subst ho1;have hR:=xN hk1;refine xF (qT F rfl (fun hb6=>?_) (fun hb6=>?_))
 ·
  replace hR:=vS hb6 hR;refine xP (oR0 (R:=xH) underlying30 sizeOf2 F rfl H fun a w v5 H F=>xA 2 F rfl fun a F=>xJ (xT (oE ?_)));have H:=(H.s [0] rfl rfl);have H:=H.lw.rwo.rok;refine zV F rfl (oD F rfl) (oD F rfl) ?_;obtain rfl:=Option.some.inj hR;exact⟨_,rfl,v5,rfl,H,(show xY (4) by decide)⟩
 replace hR:=vR hb6 hR;refine xL (xF (xP (xA 1 F rfl fun a F=>?_)));obtain⟨w1,rfl⟩:∃ x,x=w:=⟨_,rfl⟩;have sm1:=H.sm;obtain⟨X1,N1,g1,e1,H,th1,ab1⟩:=(H.s [1,0] rfl rfl).mg.fza;have K1:=g1.l.bk;have K2:=g1.r.bk;obtain⟨z64,c6,hR⟩:=xB hR;refine oG F rfl call23 rfl (spec_l09By_c z64 c6 _ H.hN (xG.b (K1.to H.sm) i1 (H.u (e1 h1))) (xI.b (K2.to H.sm) i2 (H.u (e1 h2))) hx2) (fun a vv w ⟨v6,hv1,S⟩ F=>?_);subst vv;have H:=H.r1 S n1;refine xA 5 F rfl fun a F=>xJ (xC (xP (xA 1 F rfl fun a F=>?_)));refine xA 1 F rfl fun a F=>xJ (qT F rfl (fun hb7=>?_) (fun hb7=>?_))
 ·
  replace hR:=vS hb7 hR;refine xP (oR0 (R:=xH) underlying30 sizeOf2 F rfl H fun a w v7 H F=>xA 2 F rfl fun a F=>xJ (xT (oE ?_)));have H:=(th1.1 (H.s [0] rfl rfl) (Ns.all ⟨n0,trivial⟩)).um;have H:=(H.s [2,0,1] rfl rfl).lw.rwo.rok;refine zV F rfl (oD F rfl) (oD F rfl) ?_;obtain rfl:=Option.some.inj hR;exact⟨_,rfl,v7,rfl,(H.s [0] rfl rfl),(show xY (6) by decide)⟩
 replace hR:=vR hb7 hR;refine xL (xF (xP (xA 3 F rfl fun a F=>xJ (xT ?_))));have H:=(th1.2.1 H (Ns.all trivial));refine zV F rfl (oD F rfl) (oD F rfl) ?_;obtain rfl:=Option.some.inj hR;exact⟨_,rfl,v6,rfl,H,(show xY (0) by decide)⟩
end Go.Proofs.YticojbhjloeckaaGreat
