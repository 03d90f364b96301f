import Derived.Test.YticojbhjloeckaaGreatP1
import Derived.Test.YticojbhjloeckaaGreatNJ
namespace Go.Proofs.YticojbhjloeckaaGreat
open Go.Proofs.Tryz
set_option maxHeartbeats 1000000
set_option linter.unusedVariables false
set_option linter.unusedSimpArgs false
set_option maxRecDepth 100000
open Go.RowKit
def spec_l05Whole (x0:Con) (x1:List Int):Option Bool:=
 vO (σ:=Unit) (
  qK (σ:=Unit) (ρ:=Bool) (fun(k1:Nat) (x2:Int) (s:Unit)=>
    match s with
    | _=>
    vO (σ:=Unit) (
     vQ (σ:=Unit) (ρ:=(Ctl (Unit) Bool)) (fun(k2:Nat) (s:Unit)=>
       match s with
       | _=>
       vO (σ:=Bool) (
        xX (ix x0.scope (k1:Int)) fun z1=>
        xX (ix x0.scope (k2:Int)) fun z2=>
        if (z1==z2) then  xX (ix x1 (k2:Int)) fun z3=>
         some (.nx (x2 != z3)) else  some (.nx false)) fun s1=>
       if s1 then
        some (.ret (.ret false))
       else
        some (.go ())) (k1:Int).toNat 0 ()) fun _=>
    some (.go ())) x1 0 ()) fun _=>
 some true
theorem spec_l05Whole_c {B:Nat→Prop} {x0:Con} {x1:List Int} (r:Bool) (hR:spec_l05Whole x0 x1=some r) {v0:Value} {v1:Value} (w0:World) (hN:∀ c,B c→c<w0.heap.size) (A0:Bo B w0 (Pt 2 qX) v0 x0) (A1:Bo B w0 (Sl 1 xH) v1 x1):Calls Tryz.prog 165 #[v0,v1] w0 (vV (.bool r) w0):=by
 unfold spec_l05Whole at hR
 refine xV (L:=[(0,v0),(1,v1)]) func165 rfl rfl rfl (sc rfl (sc rfl sn)) (fun a F=>?_);have H:=Sep.start hN;refine xP (xA 1 F rfl fun a F=>xJ (xC (xP (xA 1 F rfl fun a F=>xJ ?_))));obtain⟨o1,hR,hk1⟩:=xK hR;refine xW (fun a w=>o1= .nx ()∧Sk a 44 []∧Sep [] B w0 w []) ?_ ?_
 ·
  refine xS ?_;obtain⟨fl1,hf1,hR⟩:=qE hR;refine oR (fun g a w=>∃ (k1:Nat) (t1:List Int),(k1≤x1.length∧x1.drop k1=t1)∧t1.length=g∧qK fl1 t1 k1 ()=some o1∧Sk a 44 [(5,.int .i64 (k1:Int)),(0,v0),(1,v1)]∧Sep [] B w0 w []) x1.length ?_ ?_
  ·
   exact⟨0,x1,⟨Nat.zero_le _,rfl⟩,rfl,hR,F.su,H⟩
  intro g1 a w ⟨k1,t1,hd1,hg1,hR,F,H⟩
  cases t1 with
  | nil=>
   replace hR:=qG hR;have q1:=qH hd1.1 hd1.2;have l1:=vA q1;refine xC (xP (xA 2 F rfl fun a F=>oL underlying30 F rfl rfl A1 fun a i1 F=>xA 1 F rfl fun a F=>xJ (qV F rfl l1 (oO ?_))));refine oQ (oQ (vJ (xF ?_)));exact⟨(Option.some.inj hR).symm,F.sub sn,H⟩
  | cons x2 t1=>
   subst hg1;replace hd1:=oH hd1.2;have y1:=oV hd1.2.1;obtain⟨ck1,hR,hn1⟩:=oU hR;rw[hf1] at hR;have l1:=qP hd1.1;refine xC (xP (xA 2 F rfl fun a F=>oL underlying30 F rfl rfl A1 fun a i2 F=>xA 1 F rfl fun a F=>xJ (qY F rfl l1 (xL ?_))));refine xF (xC ?_);have j1:=k64 (Nat.le_of_lt hd1.1) i2;have m1:=zA hd1.1 i2;refine xS (xP (xA 1 F rfl fun a F=>xJ ?_));obtain⟨o2,hR,hk2⟩:=xK hR;refine xW (fun a w=>o2= .nx ()∧Sk a 44 [(0,v0),(1,v1),(5,.int .i64 (k1:Int))]∧Sep [] B w0 w []) ?_ ?_
   ·
    refine xS ?_;obtain⟨fl2,hf2,hR⟩:=zI hR;refine oR (fun g a w=>∃ (k2:Nat),k2+g=(k1:Int).toNat∧vQ fl2 g k2 ()=some o2∧Sk a 44 [(6,.int .i64 (k2:Int)),(0,v0),(1,v1),(5,.int .i64 (k1:Int))]∧Sep [] B w0 w []) (k1:Int).toNat ?_ ?_
    ·
     exact⟨0,(Nat.zero_add _),hR,F.su,H⟩
    intro g2 a w ⟨k2,hd2,hR,F,H⟩
    cases g2 with
    | zero=>
     replace hR:=vT hR;have l2:=kZ hd2;refine xC (xP (xA 3 F rfl fun a F=>xJ (qV F rfl l2 (oO (oQ ?_)))));refine oQ (vJ (xF ?_));exact⟨(Option.some.inj hR).symm,F.su,H⟩
    | succ g2=>
     obtain⟨ck2,hR,hn2⟩:=vU hR;rw[hf2] at hR;have l2:=kE hd2;refine xC (xP (xA 3 F rfl fun a F=>xJ (qY F rfl l2 (xL (xF ?_)))));refine xC ?_;have j2:=k64I hd2 j1;have m2:=inc64I hd2 j1;refine xS (xC ?_);obtain⟨o3,hR,hk3⟩:=xK hR;refine xW (fun a w=>∃ (s1:Bool),o3= .nx s1∧Sk a 44 [(0,v0),(1,v1),(5,.int .i64 (k1:Int)),(6,.int .i64 (k2:Int)),(43,.bool s1)]∧Sep [] B w0 w []) ?_ ?_
     ·
      refine xQ H (by kernel_rfl) (by kernel_rfl) (xU F rfl (fun w l=>xM F rfl) fun a F=>qN F rfl rfl A0 fun a F=>qF (s':=1) kV F rfl rfl A0 qX.f1 fun a p1 h1 F=>qlS isAgg30 F rfl rfl H.q h1 fun a v2 h2 F=>xU F rfl (fun w l=>xM F rfl) (fun a F=>?_));obtain⟨z1,c1,hR⟩:=xB hR;refine qI underlying30 sizeOf2 F rfl rfl rfl h2 c1 fun a p2 h3 F=>qlI isAgg2 F rfl rfl H.q h3 fun a i3 F=>xU F rfl (fun w l=>xM F rfl) fun a F=>qN F rfl rfl A0 fun a F=>qF (s':=1) kV F rfl rfl A0 qX.f1 fun a p3 h4 F=>qlS isAgg30 F rfl rfl H.q h4 fun a v3 h5 F=>xU F rfl (fun w l=>xM F rfl) (fun a F=>?_);obtain⟨z2,c2,hR⟩:=xB hR;refine qI underlying30 sizeOf2 F rfl rfl rfl h5 c2 fun a p4 h6 F=>qlI isAgg2 F rfl rfl H.q h6 fun a i4 F=>xU F rfl (fun w l=>r_eql F rfl rfl) fun a F=>xU F rfl (fun w l=>xM F rfl) (fun a F=>?_)
      rcases vG (z1==z2) with hb1 | hb1
      ·
       replace hR:=vS hb1 hR;have F:=F.eq (t:=33) rfl (congrArg Value.bool hb1);refine xU F rfl (fun w l=>xM F rfl) fun a F=>xU F rfl (fun w l=>xM F rfl) fun a F=>qI underlying30 sizeOf2 F rfl rfl rfl A1 y1 fun a p5 h7 F=>qlI isAgg2 F rfl rfl H.q h7 fun a i5 F=>xU F rfl (fun w l=>xM F rfl) fun a F=>xU F rfl (fun w l=>xM F rfl) (fun a F=>?_);obtain⟨z3,c3,hR⟩:=xB hR;refine qI underlying30 sizeOf2 F rfl rfl rfl A1 c3 fun a p6 h8 F=>qlI isAgg2 F rfl rfl H.q h8 fun a i6 F=>xU F rfl (fun w l=>r_neq F rfl rfl) fun a F=>xU F rfl (fun w l=>r_pickt F rfl rfl) fun a F=>kP fun w H=>xF ?_;exact⟨(x2 != z3),(Option.some.inj hR).symm,F.su,H⟩
      replace hR:=vR hb1 hR;have F:=F.eq (t:=33) rfl (congrArg Value.bool hb1);refine qS F rfl rfl fun a F=>qS F rfl rfl fun a F=>qS F rfl rfl fun a F=>qS F rfl rfl fun a F=>qS F rfl rfl fun a F=>qS F rfl rfl fun a F=>qS F rfl rfl fun a F=>qS F rfl rfl fun a F=>qS F rfl rfl fun a F=>xU F rfl (fun w l=>r_pickf F rfl rfl) fun a F=>kP (fun w H=>?_);refine xF ?_;exact⟨false,(Option.some.inj hR).symm,F.su,H⟩
     intro a w ⟨s1,ho1,F,H⟩;subst ho1;have hR:=xN hk3;refine xF (qT F rfl (fun hb2=>?_) (fun hb2=>?_))
     ·
      replace hR:=vS hb2 hR;refine xP (xA 1 F rfl fun a F=>xJ (xT (vH (oE (oE ?_)))));replace hR:=zS hR hn2;refine vH (oE ?_);replace hR:=zR hR hk2;refine vH (oE (oE ?_));replace hR:=zS hR hn1;refine vH (oE ?_);replace hR:=zR hR hk1;refine oE (xO F rfl (oD F rfl) ?_);obtain rfl:=Option.some.inj hR;exact⟨rfl,H.bl⟩
     replace hR:=vR hb2 hR;refine xL (qW (xF (xR (xA 1 F rfl fun a F=>qR F rfl rfl rfl m2 fun a F=>xA 1 F rfl fun a F=>xJ ?_))));replace hR:=qZ hR hn2;exact⟨_,Nat.lt_succ_self _,k2+1,(by omega),hR,F.su,H⟩
   intro a w ⟨ho2,F,H⟩;subst ho2;have hR:=xN hk2;refine qW (xF (xR (xA 1 F rfl fun a F=>qR F rfl rfl rfl m1 fun a F=>xA 1 F rfl fun a F=>xJ ?_)));replace hR:=qZ hR hn1;exact⟨_,Nat.lt_succ_self _,k1+1,t1,⟨hd1.1,hd1.2.2⟩,rfl,hR,F.su,H⟩
 intro a w ⟨ho3,F,H⟩;subst ho3;have hR:=xN hk1;refine xF (xP (xA 1 F rfl fun a F=>xJ (xT (xO F rfl (oD F rfl) ?_))));obtain rfl:=Option.some.inj hR;exact⟨rfl,H.bl⟩
def spec_l00Has (x0:List Int) (x1:Int):Option Bool:=
 vO (σ:=Unit) (
  qK (σ:=Unit) (ρ:=Bool) (fun(k1:Nat) (x2:Int) (s:Unit)=>
    match s with
    | _=>
    if (x2==x1) then
     some (.ret true)
    else
     some (.go ())) x0 0 ()) fun _=>
 some false
theorem spec_l00Has_c {B:Nat→Prop} {x0:List Int} {x1:Int} (r:Bool) (hR:spec_l00Has x0 x1=some r) {v0:Value} (w0:World) (hN:∀ c,B c→c<w0.heap.size) (A0:Bo B w0 (Sl 1 xH) v0 x0) (hx1:xY x1):Calls Tryz.prog 164 #[v0,.int .i64 x1] w0 (vV (.bool r) w0):=by
 unfold spec_l00Has at hR
 refine xV (L:=[(0,v0),(1,.int .i64 x1)]) func164 rfl rfl rfl (sc rfl (sc rfl sn)) (fun a F=>?_);have H:=Sep.start hN;refine xP (xA 1 F rfl fun a F=>xJ (xC (xP (xA 1 F rfl fun a F=>xJ ?_))));obtain⟨o1,hR,hk1⟩:=xK hR;refine xW (fun a w=>o1= .nx ()∧Sk a 18 []∧Sep [] B w0 w []) ?_ ?_
 ·
  refine xS ?_;obtain⟨fl1,hf1,hR⟩:=qE hR;refine oR (fun g a w=>∃ (k1:Nat) (t1:List Int),(k1≤x0.length∧x0.drop k1=t1)∧t1.length=g∧qK fl1 t1 k1 ()=some o1∧Sk a 18 [(5,.int .i64 (k1:Int)),(0,v0),(1,.int .i64 x1)]∧Sep [] B w0 w []) x0.length ?_ ?_
  ·
   exact⟨0,x0,⟨Nat.zero_le _,rfl⟩,rfl,hR,F.su,H⟩
  intro g1 a w ⟨k1,t1,hd1,hg1,hR,F,H⟩
  cases t1 with
  | nil=>
   replace hR:=qG hR;have q1:=qH hd1.1 hd1.2;have l1:=vA q1;refine xC (xP (xA 2 F rfl fun a F=>oL underlying30 F rfl rfl A0 fun a i1 F=>xA 1 F rfl fun a F=>xJ (qV F rfl l1 (oO ?_))));refine oQ (oQ (vJ (xF ?_)));exact⟨(Option.some.inj hR).symm,F.sub sn,H⟩
  | cons x2 t1=>
   subst hg1;replace hd1:=oH hd1.2;have y1:=oV hd1.2.1;obtain⟨ck1,hR,hn1⟩:=oU hR;rw[hf1] at hR;have l1:=qP hd1.1;refine xC (xP (xA 2 F rfl fun a F=>oL underlying30 F rfl rfl A0 fun a i2 F=>xA 1 F rfl fun a F=>xJ (qY F rfl l1 (xL ?_))));refine xF (xC ?_);have j1:=k64 (Nat.le_of_lt hd1.1) i2;have m1:=zA hd1.1 i2;refine xS (xP (xA 2 F rfl fun a F=>oI underlying30 sizeOf2 F rfl rfl rfl A0 y1 fun a p1 h1 F=>olI isAgg2 F rfl rfl H.sm h1 fun a i32 F=>xA 2 F rfl fun a F=>xJ ?_));refine qT F rfl (fun hb1=>?_) (fun hb1=>?_)
   ·
    replace hR:=vS hb1 hR;refine xP (xA 1 F rfl fun a F=>xJ (xT (vH (oE (oE ?_)))));replace hR:=zS hR hn1;refine vH (oE ?_);replace hR:=zR hR hk1;refine oE (xO F rfl (oD F rfl) ?_);obtain rfl:=Option.some.inj hR;exact⟨rfl,H.bl⟩
   replace hR:=vR hb1 hR;refine xL (qW (xF (xR (xA 1 F rfl fun a F=>qR F rfl rfl rfl m1 fun a F=>xA 1 F rfl fun a F=>xJ ?_))));replace hR:=qZ hR hn1;exact⟨_,Nat.lt_succ_self _,k1+1,t1,⟨hd1.1,hd1.2.2⟩,rfl,hR,F.su,H⟩
 intro a w ⟨ho1,F,H⟩;subst ho1;have hR:=xN hk1;refine xF (xP (xA 1 F rfl fun a F=>xJ (xT (xO F rfl (oD F rfl) ?_))));obtain rfl:=Option.some.inj hR;exact⟨rfl,H.bl⟩
def spec_l05Support (N:Nat) (x0:Template) (x1:Con) (x2:List (List Int)) (x3:Int) (x4:Int):Option Bool:=
 xX (ix x0.rels x1.rel) fun z1=>
 vO (σ:=Unit) (
  qK (σ:=Unit) (ρ:=Bool) (fun(k1:Nat) (x5:(List Int)) (s:Unit)=>
    match s with
    | _=>
    vO (σ:=Bool) (
     xX (ix x5 x3) fun z2=>
     if (z2==x4) then  xX (spec_l05Whole x1 x5) fun z3=>
      some (.nx z3) else  some (.nx false)) fun s1=>
    vO (σ:=Bool×Int) (
     whl (σ:=Bool×Int) (ρ:=(Ctl (Unit) Bool)) (fun(s:Bool×Int)=>
       match s with
       | (s2,s3)=>
       vO (σ:=Bool) (
        if (decide (s3<(x5.length:Int))) then  some (.nx s2) else  some (.nx false)) fun s4=>
       if s4 then
        xX (ix x1.scope s3) fun z4=>
        xX (ix x2 z4) fun z5=>
        xX (ix x5 s3) fun z6=>
        xX (spec_l00Has z5 z6) fun z7=>
        xX (ck (s3+1)) fun z8=>
        some (.go (z7,z8))
       else
        some (.brk (s2,s3))) N (s1,0)) fun(s5,s6)=>
    if s5 then
     some (.ret true)
    else
     some (.go ())) z1.tuples 0 ()) fun _=>
 some false
theorem spec_l05Support_c {B:Nat→Prop} {N:Nat} {x0:Template} {x1:Con} {x2:List (List Int)} {x3:Int} {x4:Int} (r:Bool) (hR:spec_l05Support N x0 x1 x2 x3 x4=some r) {v0:Value} {v1:Value} {v2:Value} (w0:World) (hN:∀ c,B c→c<w0.heap.size) (A0:Bo B w0 (Pt 2 xG) v0 x0) (A1:Bo B w0 (Pt 2 qX) v1 x1) (A2:Bo B w0 (Sl 1 (vY 1 xH)) v2 x2) (hx3:xY x3) (hx4:xY x4):Calls Tryz.prog 161 #[v0,v1,v2,.int .i64 x3,.int .i64 x4] w0 (vV (.bool r) w0):=by
 unfold spec_l05Support at hR
 refine xV (L:=[(0,v0),(1,v1),(2,v2),(3,.int .i64 x3),(4,.int .i64 x4)]) func161 rfl rfl rfl (sc rfl (sc rfl (sc rfl (sc rfl (sc rfl sn))))) (fun a F=>?_);have H:=Sep.start hN;refine xP (xA 1 F rfl fun a F=>xJ (xC (xQ H (by kernel_rfl) (by kernel_rfl) (xU F rfl (fun w l=>xM F rfl) fun a F=>qN F rfl rfl A0 fun a F=>qF (s':=1) fa35_1 F rfl rfl A0 xG.f1 fun a p1 h1 F=>qlS isAgg33 F rfl rfl H.q h1 (fun a v3 h2 F=>?_)))));refine xU F rfl (fun w l=>xM F rfl) fun a F=>qN F rfl rfl A1 fun a F=>qF (s':=1) fa85_0 F rfl rfl A1 qX.f0 fun a p2 h16 F=>qlI isAgg2 F rfl rfl H.q h16 (fun a i1 F=>?_);obtain⟨z1,c1,hR⟩:=xB hR;refine qI underlying33 sizeOf69 F rfl rfl rfl h2 c1 fun a p3 h3 F=>xU F rfl (fun w l=>kL F rfl) fun a F=>kP fun w H=>xF (xC (xP (xA 1 F rfl fun a F=>xJ ?_)));obtain⟨o1,hR,hk1⟩:=xK hR;refine xW (fun a w=>o1= .nx ()∧Sk a 77 []∧Sep [] B w0 w []) ?_ ?_
 ·
  refine xS ?_;obtain⟨fl1,hf1,hR⟩:=qE hR;refine oR (fun g a w=>∃ (k1:Nat) (t1:List (List Int)),(k1≤z1.tuples.length∧z1.tuples.drop k1=t1)∧t1.length=g∧qK fl1 t1 k1 ()=some o1∧Sk a 77 [(12,.int .i64 (k1:Int)),(1,v1),(2,v2),(3,.int .i64 x3),(4,.int .i64 x4),(11,p3)]∧Sep [] B w0 w []) z1.tuples.length ?_ ?_
  ·
   exact⟨0,z1.tuples,⟨Nat.zero_le _,rfl⟩,rfl,hR,F.su,H⟩
  intro g1 a w ⟨k1,t1,hd1,hg1,hR,F,H⟩
  cases t1 with
  | nil=>
   replace hR:=qG hR;have q1:=qH hd1.1 hd1.2;have l1:=vA q1;refine xC (xP (xA 2 F rfl fun a F=>oN F rfl rfl h3 fun a F=>oF (s':=1) vX F rfl rfl h3 oM.f1 fun a p4 h4 F=>olS isAgg67 F rfl rfl H.sm h4 fun a v4 h5 F=>oL underlying67 F rfl rfl h5 fun a i2 F=>xA 1 F rfl fun a F=>qD ?_));refine xF (qV F rfl l1 (oO (oQ (oQ (vJ (xF ?_))))));exact⟨(Option.some.inj hR).symm,F.sub sn,H⟩
  | cons x5 t1=>
   subst hg1;replace hd1:=oH hd1.2;have y1:=oV hd1.2.1;obtain⟨ck1,hR,hn1⟩:=oU hR;rw[hf1] at hR;have l1:=qP hd1.1;refine xC (xP (xA 2 F rfl fun a F=>oN F rfl rfl h3 fun a F=>oF (s':=1) vX F rfl rfl h3 oM.f1 fun a p5 h6 F=>olS isAgg67 F rfl rfl H.sm h6 fun a v5 h7 F=>oL underlying67 F rfl rfl h7 fun a i3 F=>xA 1 F rfl fun a F=>qD ?_));refine xF (qY F rfl l1 (xL (xF (xC ?_))));have j1:=k64 (Nat.le_of_lt hd1.1) i3;have m1:=zA hd1.1 i3;refine xS (xP (xA 1 F rfl fun a F=>oN F rfl rfl h3 fun a F=>oF (s':=1) vX F rfl rfl h3 oM.f1 fun a p6 h8 F=>olS isAgg67 F rfl rfl H.sm h8 fun a v6 h9 F=>xA 1 F rfl fun a F=>oI underlying67 sizeOf30 F rfl rfl rfl h9 y1 fun a p7 h10 F=>olS isAgg30 F rfl rfl H.sm h10 fun a v7 h11 F=>xA 1 F rfl fun a F=>?_));refine xJ (xC ?_);obtain⟨o2,hR,hk2⟩:=xK hR;refine xW (fun a w=>∃ (s1:Bool),o2= .nx s1∧Sk a 77 [(1,v1),(2,v2),(3,.int .i64 x3),(4,.int .i64 x4),(11,p3),(12,.int .i64 (k1:Int)),(13,v7),(14,.bool s1)]∧Sep [] B w0 w []) ?_ ?_
   ·
    refine xR (xA 2 F rfl fun a F=>?_);obtain⟨z2,c2,hR⟩:=xB hR;refine oI underlying30 sizeOf2 F rfl rfl rfl h11 c2 fun a p8 h13 F=>olI isAgg2 F rfl rfl H.sm h13 fun a i4 F=>xA 3 F rfl fun a F=>?_
    rcases vG (z2==x4) with hb1 | hb1
    ·
     replace hR:=vS hb1 hR;have F:=F.eq (t:=47) rfl (congrArg Value.bool hb1);refine xA 2 F rfl fun a F=>?_;obtain⟨z3,c3,hR⟩:=xB hR;refine oK F rfl call165 rfl H (spec_l05Whole_c z3 c3 _ aA (H.a A1) (H.a h11)) fun a w H F=>xA 2 F rfl fun a F=>xJ ?_;exact⟨z3,(Option.some.inj hR).symm,F.su,H⟩
    replace hR:=vR hb1 hR;have F:=F.eq (t:=47) rfl (congrArg Value.bool hb1);refine xA 5 F rfl fun a F=>xJ ?_;exact⟨false,(Option.some.inj hR).symm,F.su,H⟩
   intro a w ⟨s1,ho1,F,H⟩;subst ho1;have hR:=xN hk2;refine xF (xC (xP (xA 1 F rfl fun a F=>xJ ?_)));obtain⟨o3,hR,hk3⟩:=xK hR;refine xW (fun a w=>∃ (s2:Bool) (s3:Int),o3= .nx (s2,s3)∧Sk a 77 [(1,v1),(2,v2),(3,.int .i64 x3),(4,.int .i64 x4),(11,p3),(12,.int .i64 (k1:Int)),(14,.bool s2)]∧Sep [] B w0 w []∧xY s3) ?_ ?_
   ·
    refine xS ?_;obtain⟨fl2,hf2,hR⟩:=whl_gen hR;refine oR (fun g a w=>∃ (s4:Bool) (s5:Int),whl fl2 g (s4,s5)=some o3∧Sk a 77 [(1,v1),(2,v2),(3,.int .i64 x3),(4,.int .i64 x4),(11,p3),(12,.int .i64 (k1:Int)),(13,v7),(14,.bool s4),(15,.int .i64 s5)]∧Sep [] B w0 w []∧xY s5) N ?_ ?_
    ·
     exact⟨s1,0,hR,F.su,H,(show xY (0) by decide)⟩
    intro g2 a w ⟨s4,s5,hR,F,H,i5⟩;obtain⟨ck2,t2,hg2,hR,hn2⟩:=zU hR;rw[hf2] at hR;refine xC (xC ?_);obtain⟨o4,hR,hk4⟩:=xK hR;refine xW (fun a w=>∃ (s6:Bool),o4= .nx s6∧Sk a 77 [(1,v1),(2,v2),(3,.int .i64 x3),(4,.int .i64 x4),(11,p3),(12,.int .i64 (k1:Int)),(13,v7),(14,.bool s4),(15,.int .i64 s5),(58,.bool s6)]∧Sep [] B w0 w []) ?_ ?_
    ·
     refine xR (xA 2 F rfl fun a F=>oL underlying30 F rfl rfl h11 fun a i6 F=>xA 2 F rfl fun a F=>?_)
     rcases vG (decide (s5<(x5.length:Int))) with hb2 | hb2
     ·
      replace hR:=vS hb2 hR;have F:=F.eq (t:=56) rfl (congrArg Value.bool hb2);refine xA 2 F rfl fun a F=>xJ ?_;exact⟨s4,(Option.some.inj hR).symm,F.su,H⟩
     replace hR:=vR hb2 hR;have F:=F.eq (t:=56) rfl (congrArg Value.bool hb2);refine xA 2 F rfl fun a F=>xJ ?_;exact⟨false,(Option.some.inj hR).symm,F.su,H⟩
    intro a w ⟨s6,ho2,F,H⟩;subst ho2;have hR:=xN hk4;refine xF (qT F rfl (fun hb3=>?_) (fun hb3=>?_))
    ·
     replace hR:=vS hb3 hR;refine xL (xF (xC (xS (xQ H (by kernel_rfl) (by kernel_rfl) (xU F rfl (fun w l=>xM F rfl) fun a F=>xU F rfl (fun w l=>xM F rfl) fun a F=>qN F rfl rfl A1 fun a F=>qF (s':=1) kV F rfl rfl A1 qX.f1 fun a p9 h15 F=>qlS isAgg30 F rfl rfl H.q h15 fun a v8 h17 F=>xU F rfl (fun w l=>xM F rfl) (fun a F=>?_))))));obtain⟨z4,c4,hR⟩:=xB hR;refine qI underlying30 sizeOf2 F rfl rfl rfl h17 c4 fun a p10 h18 F=>qlI isAgg2 F rfl rfl H.q h18 (fun a i7 F=>?_);obtain⟨z5,c5,hR⟩:=xB hR;refine qI underlying67 sizeOf30 F rfl rfl rfl A2 c5 fun a p12 h19 F=>qlS isAgg30 F rfl rfl H.q h19 fun a v9 h20 F=>xU F rfl (fun w l=>xM F rfl) fun a F=>xU F rfl (fun w l=>xM F rfl) (fun a F=>?_);obtain⟨z6,c6,hR⟩:=xB hR;refine qI underlying30 sizeOf2 F rfl rfl rfl h11 c6 fun a p13 h22 F=>qlI isAgg2 F rfl rfl H.q h22 (fun a i8 F=>?_);obtain⟨z7,c7,hR⟩:=xB hR;refine q_says F rfl call164 rfl (fun w w' h l=>l.through h) (fun w l=>spec_l00Has_c z7 c7 w aA ((H.go l).a h20) i8) fun a F=>xU F rfl (fun w l=>kL F rfl) fun a F=>kP fun w H=>qW (xF (xR (xA 1 F rfl fun a F=>?_)));obtain⟨z8,c8,hR⟩:=xB hR;refine kX F rfl rfl rfl c8 fun a F=>xA 1 F rfl fun a F=>xJ ?_;replace hR:=qZ hR hn2;exact⟨t2,(by omega),z7,z8,hR,F.su,H,(ck64 c8)⟩
    replace hR:=vR hb3 hR;refine oO (oQ (oQ ?_));replace hR:=l_brk hR hn2;refine vJ (xF ?_);exact⟨s4,s5,(Option.some.inj hR).symm,F.su,H,i5⟩
   intro a w ⟨s2,s3,ho3,F,H,i9⟩;subst ho3;have hR:=xN hk3;refine xF (xP (xA 1 F rfl fun a F=>xJ (qT F rfl (fun hb4=>?_) (fun hb4=>?_))))
   ·
    replace hR:=vS hb4 hR;refine xP (xA 1 F rfl fun a F=>xJ (xT (vH (oE (oE ?_)))));replace hR:=zS hR hn1;refine vH (oE ?_);replace hR:=zR hR hk1;refine oE (xO F rfl (oD F rfl) ?_);obtain rfl:=Option.some.inj hR;exact⟨rfl,H.bl⟩
   replace hR:=vR hb4 hR;refine xL (qW (xF (xR (xA 1 F rfl fun a F=>qR F rfl rfl rfl m1 fun a F=>xA 1 F rfl fun a F=>xJ ?_))));replace hR:=qZ hR hn1;exact⟨_,Nat.lt_succ_self _,k1+1,t1,⟨hd1.1,hd1.2.2⟩,rfl,hR,F.su,H⟩
 intro a w ⟨ho4,F,H⟩;subst ho4;have hR:=xN hk1;refine xF (xP (xA 1 F rfl fun a F=>xJ (xT (xO F rfl (oD F rfl) ?_))));obtain rfl:=Option.some.inj hR;exact⟨rfl,H.bl⟩
def spec_l05Without (x0:List Int) (x1:Int):Option (List Int):=
 vO (σ:=(List Int)) (
  qK (σ:=(List Int)) (ρ:=(List Int)) (fun(k1:Nat) (x2:Int) (s1:(List Int))=>
   if (x2 != x1) then
    xX (ap s1 ([x2])) fun z1=>
    some (.go z1)
   else
    some (.go s1)) x0 0 []) fun s2=>
 some s2
theorem spec_l05Without_c {B:Nat→Prop} {x0:List Int} {x1:Int} (r:(List Int)) (hR:spec_l05Without x0 x1=some r) {v0:Value} (w0:World) (hN:∀ c,B c→c<w0.heap.size) (A0:Bo B w0 (Sl 1 xH) v0 x0) (hx1:xY x1):Calls Tryz.prog 162 #[v0,.int .i64 x1] w0 (Gv (fun v w'=>∃ (v1':Value),v=v1'∧Sep [] B w0 w' [rl 1 xH 2 v1' r])):=by
 unfold spec_l05Without at hR
 refine xV (L:=[(0,v0),(1,.int .i64 x1)]) func162 rfl rfl rfl (sc rfl (sc rfl sn)) (fun a F=>?_);have H:=Sep.start hN;refine xP (xA 1 F rfl fun a F=>qU (oR0 (R:=xH) underlying30 sizeOf2 F rfl H fun a w v1 H F=>xA 1 F rfl fun a F=>xJ ?_));refine xC (xP (xA 1 F rfl fun a F=>xJ ?_));obtain⟨o1,hR,hk32⟩:=xK hR;refine xW (fun a w=>∃ (s1:List Int) (v2:Value),o1= .nx s1∧Sk a 28 [(5,v2)]∧Sep [] B w0 w [rl 1 xH 2 v2 s1]) ?_ ?_
 ·
  refine xS ?_;obtain⟨fl1,hf1,hR⟩:=qE hR;refine oR (fun g a w=>∃ (k1:Nat) (t1:List Int) (s2:List Int) (v3:Value),(k1≤x0.length∧x0.drop k1=t1)∧t1.length=g∧qK fl1 t1 k1 s2=some o1∧Sk a 28 [(6,.int .i64 (k1:Int)),(0,v0),(1,.int .i64 x1),(5,v3)]∧Sep [] B w0 w [rl 1 xH 2 v3 s2]) x0.length ?_ ?_
  ·
   exact⟨0,x0,[],v1,⟨Nat.zero_le _,rfl⟩,rfl,hR,F.su,H⟩
  intro g1 a w ⟨k1,t1,s2,v3,hd1,hg1,hR,F,H⟩
  cases t1 with
  | nil=>
   replace hR:=qG hR;have q1:=qH hd1.1 hd1.2;have l1:=vA q1;refine xC (xP (xA 2 F rfl fun a F=>oL underlying30 F rfl rfl A0 fun a i1 F=>xA 1 F rfl fun a F=>xJ (qV F rfl l1 (oO ?_))));refine oQ (oQ (vJ (xF ?_)));exact⟨s2,v3,(Option.some.inj hR).symm,F.su,H⟩
  | cons x2 t1=>
   subst hg1;replace hd1:=oH hd1.2;have y1:=oV hd1.2.1;obtain⟨ck1,hR,hn1⟩:=oU hR;rw[hf1] at hR;have l1:=qP hd1.1;refine xC (xP (xA 2 F rfl fun a F=>oL underlying30 F rfl rfl A0 fun a i2 F=>xA 1 F rfl fun a F=>xJ (qY F rfl l1 (xL ?_))));refine xF (xC ?_);have j1:=k64 (Nat.le_of_lt hd1.1) i2;have m1:=zA hd1.1 i2;refine xS (xP (xA 2 F rfl fun a F=>oI underlying30 sizeOf2 F rfl rfl rfl A0 y1 fun a p1 h1 F=>olI isAgg2 F rfl rfl H.sm h1 fun a i3 F=>xA 2 F rfl fun a F=>xJ ?_));refine qT F rfl (fun hb1=>?_) (fun hb1=>?_)
   ·
    replace hR:=vS hb1 hR;refine xR (xA 3 F rfl fun a F=>oI underlying30 sizeOf2 F rfl rfl rfl A0 y1 fun a p2 h2 F=>olI isAgg2 F rfl rfl H.sm h2 fun a i4 F=>oR1z (R:=xH) (y:=x2) underlying30 sizeOf2 zeroValue2 rfl rfl F rfl rfl H (Eo.int i4) (fun a w v4 H F=>?_));obtain⟨z1,c1,hR⟩:=xB hR;refine oPL (sz:=1) (R:=xH) (z:=(.int .i64 0)) (bytes:=8) underlying30 (by kernel_rfl) rfl rfl F rfl rfl rfl (H.s [1,0] rfl rfl) c1 fun a w v5 H F=>xA 1 F rfl fun a F=>qD (qW (xF (xR (xA 1 F rfl fun a F=>qR F rfl rfl rfl m1 fun a F=>xA 1 F rfl fun a F=>xJ ?_))));replace hR:=qZ hR hn1;exact⟨_,Nat.lt_succ_self _,k1+1,t1,z1,v5,⟨hd1.1,hd1.2.2⟩,rfl,hR,F.su,H⟩
   replace hR:=vR hb1 hR;refine xL (qW (xF (xR (xA 1 F rfl fun a F=>qR F rfl rfl rfl m1 fun a F=>xA 1 F rfl fun a F=>xJ ?_))));replace hR:=qZ hR hn1;exact⟨_,Nat.lt_succ_self _,k1+1,t1,s2,v3,⟨hd1.1,hd1.2.2⟩,rfl,hR,F.su,H⟩
 intro a w ⟨s1,v2,ho1,F,H⟩;subst ho1;have hR:=xN hk32;refine xF (xP (xA 2 F rfl fun a F=>xJ (xT (xO F rfl (oD F rfl) ?_))));obtain rfl:=Option.some.inj hR;exact⟨_,rfl,v2,rfl,H⟩
def spec_l05ArcsUntil (N:Nat) (x0:Template) (x1:Instance) (x2:List (List Int)) (x3:Bool):Option ((List ArcStep)×(List (List Int))):=
 vO (σ:=Int) (
  whl (σ:=Int) (ρ:=(List ArcStep)×(List (List Int))) (fun(s1:Int)=>
   vO (σ:=Bool) (
    if (decide (s1<(x2.length:Int))) then  some (.nx x3) else  some (.nx false)) fun s2=>
   if s2 then
    xX (ix x2 s1) fun z1=>
    if ((z1.length:Int)==0) then
     some (.ret ([],x2))
    else
     xX (ck (s1+1)) fun z2=>
     some (.go z2)
   else
    some (.brk s1)) N 0) fun s3=>
 vO (σ:=(List ArcStep)×Int×(List (List Int))) (
  whl (σ:=(List ArcStep)×Int×(List (List Int))) (ρ:=(List ArcStep)×(List (List Int))) (fun(s:(List ArcStep)×Int×(List (List Int)))=>
    match s with
    | (s4,s5,s6)=>
    if (s5 != (s4.length:Int)) then
     vO (σ:=(List ArcStep)×(List (List Int))) (
      qK (σ:=(List ArcStep)×(List (List Int))) (ρ:=(Ctl ((List ArcStep)×Int×(List (List Int))) ((List ArcStep)×(List (List Int))))) (fun(k1:Nat) (x4:Con) (s:(List ArcStep)×(List (List Int)))=>
        match s with
        | (s7,s8)=>
        vO (σ:=(List ArcStep)×(List (List Int))) (
         qK (σ:=(List ArcStep)×(List (List Int))) (ρ:=(Ctl ((List ArcStep)×(List (List Int))) (Ctl ((List ArcStep)×Int×(List (List Int))) ((List ArcStep)×(List (List Int)))))) (fun(k2:Nat) (x5:Int) (s:(List ArcStep)×(List (List Int)))=>
           match s with
           | (s9,s10)=>
           xX (ix s10 x5) fun z3=>
           xX (spec_l00Own z3) fun z4=>
           vO (σ:=(List ArcStep)×(List (List Int))) (
            qK (σ:=(List ArcStep)×(List (List Int))) (ρ:=(Ctl ((List ArcStep)×(List (List Int))) (Ctl ((List ArcStep)×(List (List Int))) (Ctl ((List ArcStep)×Int×(List (List Int))) ((List ArcStep)×(List (List Int))))))) (fun(k3:Nat) (x6:Int) (s:(List ArcStep)×(List (List Int)))=>
              match s with
              | (s11,s12)=>
              xX (spec_l05Support N x0 x4 s12 (k2:Int) x6) fun z5=>
              if (!z5) then
               xX (ix s12 x5) fun z6=>
               xX (spec_l05Without z6 x6) fun z7=>
               xX (ap s11 ([(ArcStep.mk x5 x6 (k1:Int))])) fun z8=>
               vO (σ:=Bool) (
                if x3 then  xX (ix (s12.set (x5).toNat z7) x5) fun z9=>
                 some (.nx ((z9.length:Int)==0)) else  some (.nx false)) fun s13=>
               if s13 then
                some (.ret (.ret (.ret (.ret (z8,(s12.set (x5).toNat z7))))))
               else
                some (.go (z8,(s12.set (x5).toNat z7)))
              else
               some (.go (s11,s12))) z4 0 (s9,s10)) fun(s14,s15)=>
           some (.go (s14,s15))) x4.scope 0 (s7,s8)) fun(s16,s17)=>
        some (.go (s16,s17))) x1.cons 0 (s4,s6)) fun(s18,s19)=>
     some (.go (s18,(s4.length:Int),s19))
    else
     some (.brk (s4,s5,s6))) N ([],(-1),x2)) fun(s20,s21,s22)=>
 some (s20,s22)
theorem spec_l05ArcsUntil_c {B:Nat→Prop} {N:Nat} {x0:Template} {x1:Instance} {x2:List (List Int)} {x3:Bool} (r:(List ArcStep)×(List (List Int))) (hR:spec_l05ArcsUntil N x0 x1 x2 x3=some r) {v0:Value} {v1:Value} {v2:Value} {X0:List Nat} (w0:World) (hN:∀ c,B c→c<w0.heap.size) (S0:Sep X0 B w0 w0 [rw N0 1 (vY 1 xH) 30 v2 x2]) (A0:Bo B w0 (Pt 2 xG) v0 x0) (A1:Bo B w0 (Pt 2 xI) v1 x1):Calls Tryz.prog 128 #[v0,v1,v2,.bool x3] w0 (Gv (fun v w'=>∃ (v1':Value),v=v1'∧Sep X0 B w0 w' [rl 3 qM 154 v1' r.1,rw N0 1 (vY 1 xH) 30 v2 r.2])):=by
 unfold spec_l05ArcsUntil at hR
 refine xV (L:=[(0,v0),(1,v1),(2,v2),(3,.bool x3)]) func128 rfl rfl rfl (sc rfl (sc rfl (sc rfl (sc rfl sn)))) (fun a F=>?_);have H:=S0;refine xP (xA 1 F rfl fun a F=>qU (oR0 (R:=qM) underlying106 sizeOf154 F rfl H fun a w v3 H F=>xA 1 F rfl fun a F=>xJ ?_));refine xC (xP (xA 1 F rfl fun a F=>xJ ?_));obtain⟨o1,hR,hk1⟩:=xK hR;refine xW (fun a w=>∃ (s1:Int),o1= .nx s1∧Sk a 126 [(0,v0),(1,v1),(2,v2),(3,.bool x3),(9,v3)]∧Sep X0 B w0 w [rl 3 qM 154 v3 ([]),rw N0 1 (vY 1 xH) 30 v2 x2]∧xY s1) ?_ ?_
 ·
  refine xS ?_;obtain⟨fl1,hf1,hR⟩:=whl_gen hR;refine oR (fun g a w=>∃ (s2:Int),whl fl1 g s2=some o1∧Sk a 126 [(0,v0),(1,v1),(2,v2),(3,.bool x3),(9,v3),(10,.int .i64 s2)]∧Sep X0 B w0 w [rl 3 qM 154 v3 ([]),rw N0 1 (vY 1 xH) 30 v2 x2]∧xY s2) N ?_ ?_
  ·
   exact⟨0,hR,F.su,H,(show xY (0) by decide)⟩
  intro g1 a w ⟨s2,hR,F,H,i1⟩;obtain⟨ck1,t1,hg1,hR,hn1⟩:=zU hR;rw[hf1] at hR;refine xC (xC ?_);obtain⟨o2,hR,hk2⟩:=xK hR;refine xW (fun a w=>∃ (s3:Bool),o2= .nx s3∧Sk a 126 [(0,v0),(1,v1),(2,v2),(3,.bool x3),(9,v3),(10,.int .i64 s2),(25,.bool s3)]∧Sep X0 B w0 w [rl 3 qM 154 v3 ([]),rw N0 1 (vY 1 xH) 30 v2 x2]) ?_ ?_
  ·
   refine xR (xA 2 F rfl fun a F=>oL underlying67 F rfl rfl (H.r 1 rfl) fun a i2 F=>xA 2 F rfl fun a F=>?_)
   rcases vG (decide (s2<(x2.length:Int))) with hb1 | hb1
   ·
    replace hR:=vS hb1 hR;have F:=F.eq (t:=23) rfl (congrArg Value.bool hb1);refine xA 2 F rfl fun a F=>xJ ?_;exact⟨x3,(Option.some.inj hR).symm,F.su,H⟩
   replace hR:=vR hb1 hR;have F:=F.eq (t:=23) rfl (congrArg Value.bool hb1);refine xA 2 F rfl fun a F=>xJ ?_;exact⟨false,(Option.some.inj hR).symm,F.su,H⟩
  intro a w ⟨s3,ho1,F,H⟩;subst ho1;have hR:=xN hk2;refine xF (qT F rfl (fun hb2=>?_) (fun hb2=>?_))
  ·
   replace hR:=vS hb2 hR;refine xL (xF (xC (xS (xP (xA 2 F rfl fun a F=>?_)))));obtain⟨z1,c1,hR⟩:=xB hR;refine oI underlying67 sizeOf30 F rfl rfl rfl (H.r 1 rfl) c1 fun a p1 h1 F=>olS isAgg30 F rfl rfl (Sm.refl _ _) h1 fun a v4 h64 F=>oL underlying30 F rfl rfl h64 fun a i3 F=>xA 1 F rfl fun a F=>xJ (qT F rfl (fun hb3=>?_) (fun hb3=>?_))
   ·
    replace hR:=vS hb3 hR;refine xP (xA 2 F rfl fun a F=>xJ (xT (vH (oE (oE ?_)))));replace hR:=zS hR hn1;refine vH (oE ?_);replace hR:=zR hR hk1;refine oE (xO F rfl (oD F rfl) ?_);obtain rfl:=Option.some.inj hR;exact⟨_,rfl,v3,rfl,H⟩
   replace hR:=vR hb3 hR;refine xL (qW (xF (xR (xA 1 F rfl fun a F=>?_))));obtain⟨z2,c2,hR⟩:=xB hR;refine kX F rfl rfl rfl c2 fun a F=>xA 1 F rfl fun a F=>xJ ?_;replace hR:=qZ hR hn1;exact⟨t1,(by omega),z2,hR,F.su,H,(ck64 c2)⟩
  replace hR:=vR hb2 hR;refine oO (oQ (oQ ?_));replace hR:=l_brk hR hn1;refine vJ (xF ?_);exact⟨s2,(Option.some.inj hR).symm,F.su,H,i1⟩
 intro a w ⟨s1,ho2,F,H,i4⟩;subst ho2;have hR:=xN hk1;refine xF (xC (xP (xA 1 F rfl fun a F=>xJ ?_)));obtain⟨o3,hR,hk3⟩:=xK hR;refine xW (fun a w=>∃ (s4:List ArcStep) (v5:Value) (s5:Int) (s6:List (List Int)),o3= .nx (s4,s5,s6)∧Sk a 126 [(2,v2),(9,v5)]∧Sep X0 B w0 w [rl 3 qM 154 v5 s4,rw N0 1 (vY 1 xH) 30 v2 s6]∧xY s5) ?_ ?_
 ·
  refine xS ?_;obtain⟨fl2,hf2,hR⟩:=whl_gen hR;refine oR (fun g a w=>∃ (s7:List ArcStep) (v6:Value) (s8:Int) (s9:List (List Int)),whl fl2 g (s7,s8,s9)=some o3∧Sk a 126 [(0,v0),(1,v1),(2,v2),(3,.bool x3),(9,v6),(11,.int .i64 s8)]∧Sep X0 B w0 w [rl 3 qM 154 v6 s7,rw N0 1 (vY 1 xH) 30 v2 s9]∧xY s8) N ?_ ?_
  ·
   exact⟨[],v3,(-1),x2,hR,F.su,H,(show xY (-1) by decide)⟩
  intro g2 a w ⟨s7,v6,s8,s9,hR,F,H,i5⟩;obtain⟨ck2,t2,hg2,hR,hn2⟩:=zU hR;rw[hf2] at hR;refine xC (xP (xA 2 F rfl fun a F=>oL underlying106 F rfl rfl (H.l 0 rfl) fun a i6 F=>xA 1 F rfl fun a F=>xJ (qT F rfl (fun hb4=>?_) (fun hb4=>?_))))
  ·
   replace hR:=vS hb4 hR;refine xL (xF (xS (xP (xA 1 F rfl fun a F=>oL underlying106 F rfl rfl (H.l 0 rfl) fun a i7 F=>xA 1 F rfl fun a F=>xJ (xC ?_)))));refine xR (xA 1 F rfl fun a F=>xJ ?_);obtain⟨o4,hR,hk4⟩:=xK hR;refine xW (fun a w=>∃ (s10:List ArcStep) (v7:Value) (s11:List (List Int)),o4= .nx (s10,s11)∧Sk a 126 [(0,v0),(1,v1),(2,v2),(3,.bool x3),(9,v7),(11,.int .i64 (s7.length:Int))]∧Sep X0 B w0 w [rl 3 qM 154 v7 s10,rw N0 1 (vY 1 xH) 30 v2 s11]) ?_ ?_
   ·
    refine xS ?_;obtain⟨fl3,hf3,hR⟩:=qE hR;refine oR (fun g a w=>∃ (k1:Nat) (t3:List Con) (s12:List ArcStep) (v8:Value) (s13:List (List Int)),(k1≤x1.cons.length∧x1.cons.drop k1=t3)∧t3.length=g∧qK fl3 t3 k1 (s12,s13)=some o4∧Sk a 126 [(12,.int .i64 (k1:Int)),(0,v0),(1,v1),(2,v2),(3,.bool x3),(9,v8),(11,.int .i64 (s7.length:Int))]∧Sep X0 B w0 w [rl 3 qM 154 v8 s12,rw N0 1 (vY 1 xH) 30 v2 s13]) x1.cons.length ?_ ?_
    ·
     exact⟨0,x1.cons,s7,v6,s9,⟨Nat.zero_le _,rfl⟩,rfl,hR,F.su,H⟩
    intro g3 a w ⟨k1,t3,s12,v8,s13,hd1,hg3,hR,F,H⟩
    cases t3 with
    | nil=>
     replace hR:=qG hR;have q1:=qH hd1.1 hd1.2;have l1:=vA q1;refine xC (xP (xA 2 F rfl fun a F=>oN F rfl rfl A1 fun a F=>oF (s':=1) fa39_1 F rfl rfl A1 xI.f1 fun a p2 h2 F=>olS isAgg37 F rfl rfl H.sm h2 fun a v9 h3 F=>oL underlying37 F rfl rfl h3 fun a i8 F=>xA 1 F rfl fun a F=>qD ?_));refine xF (qV F rfl l1 (oO (oQ (oQ (vJ (xF ?_))))));exact⟨s12,v8,s13,(Option.some.inj hR).symm,F.su,H⟩
    | cons x4 t3=>
     subst hg3;replace hd1:=oH hd1.2;have y1:=oV hd1.2.1;obtain⟨ck3,hR,hn3⟩:=oU hR;rw[hf3] at hR;have l1:=qP hd1.1;refine xC (xP (xA 2 F rfl fun a F=>oN F rfl rfl A1 fun a F=>oF (s':=1) fa39_1 F rfl rfl A1 xI.f1 fun a p3 h4 F=>olS isAgg37 F rfl rfl H.sm h4 fun a v10 h5 F=>oL underlying37 F rfl rfl h5 fun a i9 F=>xA 1 F rfl fun a F=>qD ?_));refine xF (qY F rfl l1 (xL (xF (xC ?_))));have j1:=k64 (Nat.le_of_lt hd1.1) i9;have m1:=zA hd1.1 i9;refine xS (xP (xA 1 F rfl fun a F=>oN F rfl rfl A1 fun a F=>oF (s':=1) fa39_1 F rfl rfl A1 xI.f1 fun a p4 h6 F=>olS isAgg37 F rfl rfl H.sm h6 fun a v12 h7 F=>xA 1 F rfl fun a F=>oI underlying37 sizeOf85 F rfl rfl rfl h7 y1 fun a p5 h8 F=>xA 1 F rfl fun a F=>qD ?_));refine xF (xP (xA 1 F rfl fun a F=>xJ ?_));obtain⟨o5,hR,hk5⟩:=xK hR;refine xW (fun a w=>∃ (s14:List ArcStep) (v13:Value) (s15:List (List Int)),o5= .nx (s14,s15)∧Sk a 126 [(0,v0),(1,v1),(2,v2),(3,.bool x3),(9,v13),(11,.int .i64 (s7.length:Int)),(12,.int .i64 (k1:Int))]∧Sep X0 B w0 w [rl 3 qM 154 v13 s14,rw N0 1 (vY 1 xH) 30 v2 s15]) ?_ ?_
     ·
      refine xS ?_;obtain⟨fl4,hf4,hR⟩:=qE hR;refine oR (fun g a w=>∃ (k2:Nat) (t4:List Int) (s16:List ArcStep) (v14:Value) (s17:List (List Int)),(k2≤x4.scope.length∧x4.scope.drop k2=t4)∧t4.length=g∧qK fl4 t4 k2 (s16,s17)=some o5∧Sk a 126 [(14,.int .i64 (k2:Int)),(0,v0),(1,v1),(2,v2),(3,.bool x3),(9,v14),(11,.int .i64 (s7.length:Int)),(12,.int .i64 (k1:Int)),(13,p5)]∧Sep X0 B w0 w [rl 3 qM 154 v14 s16,rw N0 1 (vY 1 xH) 30 v2 s17]) x4.scope.length ?_ ?_
      ·
       exact⟨0,x4.scope,s12,v8,s13,⟨Nat.zero_le _,rfl⟩,rfl,hR,F.su,H⟩
      intro g4 a w ⟨k2,t4,s16,v14,s17,hd2,hg4,hR,F,H⟩
      cases t4 with
      | nil=>
       replace hR:=qG hR;have q2:=qH hd2.1 hd2.2;have l2:=vA q2;refine xC (xP (xA 2 F rfl fun a F=>oN F rfl rfl h8 fun a F=>oF (s':=1) kV F rfl rfl h8 qX.f1 fun a p6 h9 F=>olS isAgg30 F rfl rfl H.sm h9 fun a v15 h10 F=>oL underlying30 F rfl rfl h10 fun a i10 F=>xA 1 F rfl fun a F=>qD ?_));refine xF (qV F rfl l2 (oO (oQ (oQ (vJ (xF ?_))))));exact⟨s16,v14,s17,(Option.some.inj hR).symm,F.su,H⟩
      | cons x5 t4=>
       subst hg4;replace hd2:=oH hd2.2;have y2:=oV hd2.2.1;obtain⟨ck4,hR,hn4⟩:=oU hR;rw[hf4] at hR;have l2:=qP hd2.1;refine xC (xP (xA 2 F rfl fun a F=>oN F rfl rfl h8 fun a F=>oF (s':=1) kV F rfl rfl h8 qX.f1 fun a p7 h11 F=>olS isAgg30 F rfl rfl H.sm h11 fun a v16 h12 F=>oL underlying30 F rfl rfl h12 fun a i11 F=>xA 1 F rfl fun a F=>qD ?_));refine xF (qY F rfl l2 (xL (xF (xC ?_))));have j2:=k64 (Nat.le_of_lt hd2.1) i11;have m2:=zA hd2.1 i11;refine xS (xP (xA 1 F rfl fun a F=>oN F rfl rfl h8 fun a F=>oF (s':=1) kV F rfl rfl h8 qX.f1 fun a p8 h13 F=>olS isAgg30 F rfl rfl H.sm h13 fun a v17 h14 F=>xA 1 F rfl fun a F=>oI underlying30 sizeOf2 F rfl rfl rfl h14 y2 fun a p9 h15 F=>olI isAgg2 F rfl rfl H.sm h15 fun a i12 F=>xA 1 F rfl fun a F=>?_));refine qU (xA 2 F rfl fun a F=>?_);obtain⟨z3,c3,hR⟩:=xB hR;refine oI underlying67 sizeOf30 F rfl rfl rfl (H.r 1 rfl) c3 fun a p10 h16 F=>olS isAgg30 F rfl rfl (Sm.refl _ _) h16 (fun a v18 h17 F=>?_);obtain⟨z4,c4,hR⟩:=xB hR;refine oG F rfl call160 rfl (spec_l00Own_c z4 c4 _ aA h17) (fun a vv w ⟨v19,hv1,S⟩ F=>?_);subst vv;have H:=H.r1 S n0;refine xA 1 F rfl fun a F=>qU (xA 1 F rfl fun a F=>xJ ?_);obtain⟨o6,hR,hk6⟩:=xK hR;refine xW (fun a w=>∃ (s18:List ArcStep) (v20:Value) (s19:List (List Int)),o6= .nx (s18,s19)∧Sk a 126 [(0,v0),(1,v1),(2,v2),(3,.bool x3),(9,v20),(11,.int .i64 (s7.length:Int)),(12,.int .i64 (k1:Int)),(13,p5),(14,.int .i64 (k2:Int))]∧Sep X0 B w0 w [rl 3 qM 154 v20 s18,rw N0 1 (vY 1 xH) 30 v2 s19]) ?_ ?_
       ·
        refine xS ?_;obtain⟨fl5,hf5,hR⟩:=qE hR;refine oR (fun g a w=>∃ (k3:Nat) (t5:List Int) (s20:List ArcStep) (v21:Value) (s21:List (List Int)),(k3≤z4.length∧z4.drop k3=t5)∧t5.length=g∧qK fl5 t5 k3 (s20,s21)=some o6∧Sk a 126 [(17,.int .i64 (k3:Int)),(0,v0),(1,v1),(2,v2),(3,.bool x3),(9,v21),(11,.int .i64 (s7.length:Int)),(12,.int .i64 (k1:Int)),(13,p5),(14,.int .i64 (k2:Int)),(15,.int .i64 x5),(16,v19)]∧Sep X0 B w0 w [rl 1 xH 2 v19 z4,rl 3 qM 154 v21 s20,rw N0 1 (vY 1 xH) 30 v2 s21]) z4.length ?_ ?_
        ·
         exact⟨0,z4,s16,v14,s17,⟨Nat.zero_le _,rfl⟩,rfl,hR,F.su,H⟩
        intro g5 a w ⟨k3,t5,s20,v21,s21,hd3,hg5,hR,F,H⟩
        cases t5 with
        | nil=>
         replace hR:=qG hR;have q3:=qH hd3.1 hd3.2;have l3:=vA q3;refine xC (xP (xA 2 F rfl fun a F=>oL underlying30 F rfl rfl (H.l 0 rfl) fun a i13 F=>xA 1 F rfl fun a F=>xJ (qV F rfl l3 (oO ?_))));refine oQ (oQ (vJ (xF ?_)));exact⟨s20,v21,s21,(Option.some.inj hR).symm,F.su,(H.s [1,2] rfl rfl)⟩
        | cons x6 t5=>
         subst hg5;replace hd3:=oH hd3.2;have y3:=oV hd3.2.1;obtain⟨ck5,hR,hn5⟩:=oU hR;rw[hf5] at hR;have l3:=qP hd3.1;refine xC (xP (xA 2 F rfl fun a F=>oL underlying30 F rfl rfl (H.l 0 rfl) fun a i14 F=>xA 1 F rfl fun a F=>xJ (qY F rfl l3 (xL ?_))));refine xF (xC ?_);have j3:=k64 (Nat.le_of_lt hd3.1) i14;have m3:=zA hd3.1 i14;refine xS (xP (xA 6 F rfl fun a F=>oI underlying30 sizeOf2 F rfl rfl rfl (H.l 0 rfl) y3 fun a p11 h18 F=>olI isAgg2 F rfl rfl (Sm.refl _ _) h18 (fun a i15 F=>?_)));obtain⟨z5,c5,hR⟩:=xB hR;refine oK F rfl call161 rfl H (spec_l05Support_c z5 c5 _ aA (H.a A0) (H.a h8) (H.r 2 rfl) j2 i15) fun a w H F=>xA 1 F rfl fun a F=>xJ (qT F rfl (fun hb5=>?_) (fun hb5=>?_))
         ·
          replace hR:=vS hb5 hR;refine xC ?_;obtain⟨z6,c6,hR⟩:=xB hR;obtain⟨z7,c7,hR⟩:=xB hR;obtain⟨w1,rfl⟩:∃ x,x=w:=⟨_,rfl⟩;have sm1:=H.sm;obtain⟨X1,N1,g6,e1,H,th1,ab1⟩:=H.fza;have h19:=g6.ld;refine xD H (by kernel_rfl) fun w H=>vD 0 rfl (by kernel_rfl) (by kernel_rfl) (by kernel_rfl) (oJ F rfl (fun w l=>xM F rfl) fun a F=>vD 1 rfl (by kernel_rfl) (by kernel_rfl) (by kernel_rfl) (oJ F rfl (fun w l=>xM F rfl) fun a F=>vD 2 rfl (by kernel_rfl) (by kernel_rfl) (by kernel_rfl) (oJ F rfl (fun w l=>xM F rfl) fun a F=>vD 3 rfl (by kernel_rfl) (by kernel_rfl) (by kernel_rfl) (oJ F rfl (fun w l=>xM F rfl) fun a F=>vD 6 rfl (by kernel_rfl) (by kernel_rfl) (by kernel_rfl) (oJ F rfl (fun w l=>xM F rfl) (fun a F=>?_))))));refine vD 7 rfl (by kernel_rfl) (by kernel_rfl) (by kernel_rfl) (oJ F rfl (fun w l=>xM F rfl) fun a F=>kO 8 (by kernel_rfl) rfl (by kernel_rfl) (by kernel_rfl) (by kernel_rfl) (by kernel_rfl) (vI underlying30 sizeOf2 F rfl rfl rfl h19 y3 fun a p12 h20 F=>kO 9 (by kernel_rfl) rfl (by kernel_rfl) (by kernel_rfl) (by kernel_rfl) (by kernel_rfl) (vlI isAgg2 F rfl rfl H.v h20 fun a i16 F=>xE H 4 rfl (by kernel_rfl) (oI underlying67 sizeOf30 F rfl rfl rfl (H.r 1 rfl) c6 fun a p13 h21 F=>xJ ⟨⟨_,H⟩,?_⟩))));refine xE H 5 rfl (by kernel_rfl) (olS isAgg30 F rfl rfl (Sm.refl _ _) h21 fun a v22 h22 F=>xJ ⟨⟨_,H⟩,?_⟩);refine xE H 10 rfl (by kernel_rfl) (oG F rfl call162 rfl (spec_l05Without_c z7 c7 _ aA h22 i16) (fun a vv w ⟨v23,hv2,S⟩ F=>?_));subst vv;have H:=H.r1 S n0;refine xJ ⟨⟨_,H⟩,?_⟩;refine xE H 11 rfl (by kernel_rfl) (oRi underlying67 sizeOf30 F rfl rfl rfl H 2 rfl c6 fun a p14 h23 rp1 F=>xJ ⟨⟨_,H⟩,?_⟩);refine xE H 12 rfl (by kernel_rfl) (oSc sizeOf30 F rfl rfl rfl (H.s [2,0,1] rfl rfl) rp1 (ix_lt c6) n0 (fun e q=>(Eo.sl q.ld)) ((H.s [2,0,1] rfl rfl).l 1 rfl).one rfl fun w H=>xJ ⟨⟨_,H⟩,?_⟩);refine b_end (by kernel_rfl) (xF (xP (xA 4 F rfl fun a F=>oI underlying30 sizeOf2 F rfl rfl rfl h19 y3 fun a p15 h24 F=>olI isAgg2 F rfl rfl H.sm h24 fun a i17 F=>xA 1 F rfl fun a F=>?_)));refine o_build underlying154 zeroValue154 (fun w=>by simp [sizeOf2];rfl) F rfl rfl rfl rfl rfl (oc rfl (oc rfl (oc rfl on))) rfl rfl fun a F=>oR1z (R:=qM) (y:=(ArcStep.mk x5 x6 (k1:Int))) underlying106 sizeOf154 zeroValue154 rfl rfl F rfl rfl H (Eo.agg (qM.m i12 i17 j1)) (fun a w v24 H F=>?_);obtain⟨z8,c8,hR⟩:=xB hR;refine oPL (sz:=3) (R:=qM) (z:=(.agg #[.int .i64 0,.int .i64 0,.int .i64 0])) (bytes:=24) underlying106 (by kernel_rfl) rfl rfl F rfl rfl rfl (H.s [2,0,1] rfl rfl) c8 fun a w v25 H F=>xA 1 F rfl fun a F=>xJ (xC ?_);obtain⟨o7,hR,hk7⟩:=xK hR;refine xW (fun a w=>∃ (s22:Bool),o7= .nx s22∧Sk a 126 [(0,v0),(1,v1),(2,v2),(3,.bool x3),(9,v25),(11,.int .i64 (s7.length:Int)),(12,.int .i64 (k1:Int)),(13,p5),(14,.int .i64 (k2:Int)),(15,.int .i64 x5),(16,v19),(17,.int .i64 (k3:Int)),(123,.bool s22)]∧Sep X1 N1 w1 w [rl 3 qM 154 v25 z8,rw N0 1 (vY 1 xH) 30 v2 (s21.set (x5).toNat z7)]) ?_ ?_
          ·
           refine xR (xA 2 F rfl fun a F=>?_)
           rcases vG x3 with hb6 | hb6
           ·
            replace hR:=vS hb6 hR;have F:=F.eq (t:=116) rfl (congrArg Value.bool hb6);refine xA 2 F rfl fun a F=>?_;obtain⟨z9,c9,hR⟩:=xB hR;refine oI underlying67 sizeOf30 F rfl rfl rfl (H.r 1 rfl) c9 fun a p16 h25 F=>olS isAgg30 F rfl rfl (Sm.refl _ _) h25 fun a v26 h26 F=>oL underlying30 F rfl rfl h26 fun a i18 F=>xA 2 F rfl fun a F=>xJ ?_;exact⟨((z9.length:Int)==0),(Option.some.inj hR).symm,F.su,H⟩
           replace hR:=vR hb6 hR;have F:=F.eq (t:=116) rfl (congrArg Value.bool hb6);refine xA 7 F rfl fun a F=>xJ ?_;exact⟨false,(Option.some.inj hR).symm,F.su,H⟩
          intro a w ⟨s22,ho3,F,H⟩;subst ho3;have hR:=xN hk7;refine xF (qT F rfl (fun hb7=>?_) (fun hb7=>?_))
          ·
           replace hR:=vS hb7 hR;refine xP (xA 2 F rfl fun a F=>xJ (xT (vH (oE (oE ?_)))));replace hR:=zS hR hn5;refine vH (oE ?_);replace hR:=zR hR hk6;refine vH (oE (oE ?_));replace hR:=zS hR hn4;refine vH (oE ?_);replace hR:=zR hR hk5;refine vH (oE (oE ?_));replace hR:=zS hR hn3;refine vH (oE ?_);replace hR:=zR hR hk4;refine vH (oE ?_);replace hR:=zS hR hn2;refine vH (oE ?_);replace hR:=zR hR hk3;refine oE ?_;have H:=(th1.1 H (Ns.all ⟨n0,⟨n0,trivial⟩⟩));refine xO F rfl (oD F rfl) ?_;obtain rfl:=Option.some.inj hR;exact⟨_,rfl,v25,rfl,(H.s [1,2] rfl rfl)⟩
          replace hR:=vR hb7 hR;refine xL (qW (xF (xR (xA 1 F rfl fun a F=>qR F rfl rfl rfl m3 fun a F=>xA 1 F rfl fun a F=>xJ ?_))));replace hR:=qZ hR hn5;exact⟨_,Nat.lt_succ_self _,k3+1,t5,z8,v25,(s21.set (x5).toNat z7),⟨hd3.1,hd3.2.2⟩,rfl,hR,F.su,(th1.1 H (Ns.all ⟨n0,⟨n0,trivial⟩⟩))⟩
         replace hR:=vR hb5 hR;refine xL (qW (xF (xR (xA 1 F rfl fun a F=>qR F rfl rfl rfl m3 fun a F=>xA 1 F rfl fun a F=>xJ ?_))));replace hR:=qZ hR hn5;exact⟨_,Nat.lt_succ_self _,k3+1,t5,s20,v21,s21,⟨hd3.1,hd3.2.2⟩,rfl,hR,F.su,H⟩
       intro a w ⟨s18,v20,s19,ho4,F,H⟩;subst ho4;have hR:=xN hk6;refine qW (xF (xR (xA 1 F rfl fun a F=>qR F rfl rfl rfl m2 fun a F=>xA 1 F rfl fun a F=>xJ ?_)));replace hR:=qZ hR hn4;exact⟨_,Nat.lt_succ_self _,k2+1,t4,s18,v20,s19,⟨hd2.1,hd2.2.2⟩,rfl,hR,F.su,H⟩
     intro a w ⟨s14,v13,s15,ho5,F,H⟩;subst ho5;have hR:=xN hk5;refine qW (xF (xR (xA 1 F rfl fun a F=>qR F rfl rfl rfl m1 fun a F=>xA 1 F rfl fun a F=>xJ ?_)));replace hR:=qZ hR hn3;exact⟨_,Nat.lt_succ_self _,k1+1,t3,s14,v13,s15,⟨hd1.1,hd1.2.2⟩,rfl,hR,F.su,H⟩
   intro a w ⟨s10,v7,s11,ho6,F,H⟩;subst ho6;have hR:=xN hk4;refine qW (xF ?_);replace hR:=qZ hR hn2;exact⟨t2,(by omega),s10,v7,(s7.length:Int),s11,hR,F.su,H,i7⟩
  replace hR:=vR hb4 hR;refine oO (oQ (oQ ?_));replace hR:=l_brk hR hn2;refine vJ (xF ?_);exact⟨s7,v6,s8,s9,(Option.some.inj hR).symm,F.su,H,i5⟩
 intro a w ⟨s4,v5,s5,s6,ho7,F,H,i19⟩;subst ho7;have hR:=xN hk3;refine xF (xP (xA 2 F rfl fun a F=>xJ (xT (xO F rfl (oD F rfl) ?_))));obtain rfl:=Option.some.inj hR;exact⟨_,rfl,v5,rfl,H⟩
def spec_l05Arcs (N:Nat) (x0:Template) (x1:Instance) (x2:List (List Int)):Option ((List ArcStep)×(List (List Int))):=
 xX (spec_l05ArcsUntil N x0 x1 x2 false) fun z1=>
 some (z1.1,z1.2)
theorem spec_l05Arcs_c {B:Nat→Prop} {N:Nat} {x0:Template} {x1:Instance} {x2:List (List Int)} (r:(List ArcStep)×(List (List Int))) (hR:spec_l05Arcs N x0 x1 x2=some r) {v0:Value} {v1:Value} {v2:Value} {X0:List Nat} (w0:World) (hN:∀ c,B c→c<w0.heap.size) (S0:Sep X0 B w0 w0 [rw N0 1 (vY 1 xH) 30 v2 x2]) (A0:Bo B w0 (Pt 2 xG) v0 x0) (A1:Bo B w0 (Pt 2 xI) v1 x1):Calls Tryz.prog 86 #[v0,v1,v2] w0 (Gv (fun v w'=>∃ (v1':Value),v=v1'∧Sep X0 B w0 w' [rl 3 qM 154 v1' r.1,rw N0 1 (vY 1 xH) 30 v2 r.2])):=by
 unfold spec_l05Arcs at hR
 refine xV (L:=[(0,v0),(1,v1),(2,v2)]) func86 rfl rfl rfl (sc rfl (sc rfl (sc rfl sn))) (fun a F=>?_);have H:=S0;refine xP (xA 1 F rfl fun a F=>qU (xA 3 F rfl fun a F=>?_));obtain⟨z1,c1,hR⟩:=xB hR;obtain⟨X1,K1,bk1⟩:=Sep.lend (K:=[rw N0 1 (vY 1 xH) 30 v2 x2]) (L:=[]) H;refine oG F rfl call128 rfl (spec_l05ArcsUntil_c z1 c1 _ H.hN K1 (H.u A0) (H.u A1)) (fun a vv w ⟨v16,hv1,S⟩ F=>?_);subst vv;have H:Sep X0 B w0 w [rl 3 qM 154 v16 z1.1,rw N0 1 (vY 1 xH) 30 v2 z1.2]:=bk1 S;refine xA 1 F rfl fun a F=>xJ (xT (xO F rfl (oD F rfl) ?_));obtain rfl:=Option.some.inj hR;exact⟨_,rfl,v16,rfl,H⟩
def spec_l09Least (N:Nat) (x0:Template) (x1:Instance) (x2:Bool):Option ((List Int)×Bool):=
 xX (spec_l05Full x0 x1) fun z1=>
 xX (spec_l05Arcs N x0 x1 z1) fun z16=>
 vO (σ:=(List Int)) (
  qK (σ:=(List Int)) (ρ:=(List Int)×Bool) (fun(k1:Nat) (x3:(List Int)) (s1:(List Int))=>
   if ((x3.length:Int)==0) then
    some (.ret ([],false))
   else
    xX (ix x3 0) fun z2=>
    vO (σ:=Int) (
     if x2 then
      xX (ck ((x3.length:Int) - 1)) fun z3=>
      xX (ix x3 z3) fun z4=>
      some (.nx z4)
     else
      some (.nx z2)) fun s2=>
    xX (ap s1 ([s2])) fun z5=>
    some (.go z5)) z16.2 0 []) fun s3=>
 some (s3,true)
theorem spec_l09Least_c {B:Nat→Prop} {N:Nat} {x0:Template} {x1:Instance} {x2:Bool} (r:(List Int)×Bool) (hR:spec_l09Least N x0 x1 x2=some r) {v0:Value} {v1:Value} (w0:World) (hN:∀ c,B c→c<w0.heap.size) (A0:Bo B w0 (Pt 2 xG) v0 x0) (A1:Bo B w0 (Pt 2 xI) v1 x1):Calls Tryz.prog 48 #[v0,v1,.bool x2] w0 (Gv (fun v w'=>∃ (v1':Value),v= .tuple #[v1',.bool r.2]∧Sep [] B w0 w' [rl 1 xH 2 v1' r.1])):=by
 unfold spec_l09Least at hR
 refine xV (L:=[(0,v0),(1,v1),(2,.bool x2)]) func48 rfl rfl rfl (sc rfl (sc rfl (sc rfl sn))) (fun a F=>?_);have H:=Sep.start hN;refine xP (xA 2 F rfl fun a F=>qU (xA 2 F rfl fun a F=>?_));obtain⟨z1,c1,hR⟩:=xB hR;refine oG F rfl call85 rfl (spec_l05Full_c z1 c1 _ aA (H.a A0) (H.a A1)) (fun a vv w ⟨v2,hv1,S⟩ F=>?_);subst vv;have H:=H.r1 S n0;refine xA 1 F rfl fun a F=>qU (xA 3 F rfl fun a F=>?_);obtain⟨z16,c2,hR⟩:=xB hR;have H:=H.lw;obtain⟨X1,K1,bk1⟩:=Sep.lend (K:=[rw N0 1 (vY 1 xH) 30 v2 z1]) (L:=[]) H;refine oG F rfl call86 rfl (spec_l05Arcs_c z16 c2 _ H.hN K1 (H.u A0) (H.u A1)) (fun a vv w ⟨v3,hv2,S⟩ F=>?_);subst vv;have H:Sep [] B w0 w [rl 3 qM 154 v3 z16.1,rw N0 1 (vY 1 xH) 30 v2 z16.2]:=bk1 S;refine qU (oR0 (R:=xH) underlying30 sizeOf2 F rfl H fun a w v4 H F=>xA 1 F rfl fun a F=>xJ (xC (xP ?_)));refine xA 1 F rfl fun a F=>xJ ?_;obtain⟨o1,hR,hk1⟩:=xK hR;refine xW (fun a w=>∃ (s1:List Int) (v5:Value),o1= .nx s1∧Sk a 55 [(9,v5)]∧Sep [] B w0 w [rl 1 xH 2 v5 s1]) ?_ ?_
 ·
  refine xS ?_;obtain⟨fl1,hf1,hR⟩:=qE hR;refine oR (fun g a w=>∃ (k1:Nat) (t1:List (List Int)) (s2:List Int) (v6:Value),(k1≤z16.2.length∧z16.2.drop k1=t1)∧t1.length=g∧qK fl1 t1 k1 s2=some o1∧Sk a 55 [(10,.int .i64 (k1:Int)),(2,.bool x2),(8,v2),(9,v6)]∧Sep [] B w0 w [rl 1 xH 2 v6 s2,rw N0 1 (vY 1 xH) 30 v2 z16.2]) z16.2.length ?_ ?_
  ·
   exact⟨0,z16.2,[],v4,⟨Nat.zero_le _,rfl⟩,rfl,hR,F.su,(H.s [0,2] rfl rfl)⟩
  intro g1 a w ⟨k1,t1,s2,v6,hd1,hg1,hR,F,H⟩
  cases t1 with
  | nil=>
   replace hR:=qG hR;have q1:=qH hd1.1 hd1.2;have l1:=vA q1;refine xC (xP (xA 2 F rfl fun a F=>oL underlying67 F rfl rfl (H.r 1 rfl) fun a i1 F=>xA 1 F rfl fun a F=>xJ (qV F rfl l1 (oO ?_))));refine oQ (oQ (vJ (xF ?_)));exact⟨s2,v6,(Option.some.inj hR).symm,F.su,(H.s [0] rfl rfl)⟩
  | cons x3 t1=>
   subst hg1;replace hd1:=oH hd1.2;have y1:=oV hd1.2.1;obtain⟨ck1,hR,hn1⟩:=oU hR;rw[hf1] at hR;have l1:=qP hd1.1;refine xC (xP (xA 2 F rfl fun a F=>oL underlying67 F rfl rfl (H.r 1 rfl) fun a i2 F=>xA 1 F rfl fun a F=>xJ (qY F rfl l1 (xL ?_))));refine xF (xC ?_);have j1:=k64 (Nat.le_of_lt hd1.1) i2;have m1:=zA hd1.1 i2;refine xS (xP (xA 2 F rfl fun a F=>oI underlying67 sizeOf30 F rfl rfl rfl (H.r 1 rfl) y1 fun a p1 h1 F=>olS isAgg30 F rfl rfl (Sm.refl _ _) h1 fun a v7 h2 F=>oL underlying30 F rfl rfl h2 fun a i3 F=>xA 1 F rfl fun a F=>xJ ?_));refine xC (xP (xA 2 F rfl fun a F=>xJ (qT F rfl (fun hb1=>?_) (fun hb1=>?_))))
   ·
    replace hR:=vS hb1 hR;refine xP (oR0 (R:=xH) underlying30 sizeOf2 F rfl H fun a w v8 H F=>xA 2 F rfl fun a F=>xJ (xT (oE (vH (oE ?_)))));refine oE ?_;replace hR:=zS hR hn1;refine vH (oE ?_);replace hR:=zR hR hk1;refine oE (zV F rfl (oD F rfl) (oD F rfl) ?_);obtain rfl:=Option.some.inj hR;exact⟨_,rfl,v8,rfl,(H.s [0] rfl rfl)⟩
   replace hR:=vR hb1 hR;refine xL (xF (xP (xA 2 F rfl fun a F=>oI underlying67 sizeOf30 F rfl rfl rfl (H.r 1 rfl) y1 fun a p2 h3 F=>olS isAgg30 F rfl rfl (Sm.refl _ _) h3 (fun a v9 h4 F=>?_))));obtain⟨z2,c3,hR⟩:=xB hR;refine oI underlying30 sizeOf2 F rfl rfl rfl h4 c3 fun a p3 h5 F=>olI isAgg2 F rfl rfl (Sm.refl _ _) h5 fun a i4 F=>xA 1 F rfl fun a F=>xJ (xC (xP (xA 1 F rfl fun a F=>xJ ?_)));obtain⟨o2,hR,hk2⟩:=xK hR;refine xW (fun a w=>∃ (s3:Int),o2= .nx s3∧Sk a 55 [(2,.bool x2),(8,v2),(9,v6),(10,.int .i64 (k1:Int)),(12,.int .i64 s3)]∧Sep [] B w0 w [rl 1 xH 2 v6 s2,rw N0 1 (vY 1 xH) 30 v2 z16.2]∧xY s3) ?_ ?_
   ·
    refine qT F rfl (fun hb2=>?_) (fun hb2=>?_)
    ·
     replace hR:=vS hb2 hR;refine xR (xA 2 F rfl fun a F=>oI underlying67 sizeOf30 F rfl rfl rfl (H.r 1 rfl) y1 fun a p4 h6 F=>olS isAgg30 F rfl rfl (Sm.refl _ _) h6 fun a v10 h7 F=>xA 1 F rfl fun a F=>?_);obtain⟨z3,c4,hR⟩:=xB hR;refine o_sub F rfl rfl rfl c4 (fun a F=>?_);obtain⟨z4,c5,hR⟩:=xB hR;refine oI underlying30 sizeOf2 F rfl rfl rfl h7 c5 fun a p5 h8 F=>olI isAgg2 F rfl rfl (Sm.refl _ _) h8 fun a i5 F=>xA 1 F rfl fun a F=>xJ ?_;exact⟨z4,(Option.some.inj hR).symm,F.su,H,i5⟩
    replace hR:=vR hb2 hR;refine xL (xF ?_);exact⟨z2,(Option.some.inj hR).symm,F.su,H,i4⟩
   intro a w ⟨s3,ho1,F,H,i6⟩;subst ho1;have hR:=xN hk2;refine xF (xR (xA 2 F rfl fun a F=>oR1z (R:=xH) (y:=s3) underlying30 sizeOf2 zeroValue2 rfl rfl F rfl rfl H (Eo.int i6) (fun a w v11 H F=>?_)));obtain⟨z5,c6,hR⟩:=xB hR;refine oPL (sz:=1) (R:=xH) (z:=(.int .i64 0)) (bytes:=8) underlying30 (by kernel_rfl) rfl rfl F rfl rfl rfl (H.s [1,0,2] rfl rfl) c6 fun a w v12 H F=>xA 1 F rfl fun a F=>qD (qW (xF (xR (xA 1 F rfl fun a F=>qR F rfl rfl rfl m1 fun a F=>xA 1 F rfl fun a F=>xJ ?_))));replace hR:=qZ hR hn1;exact⟨_,Nat.lt_succ_self _,k1+1,t1,z5,v12,⟨hd1.1,hd1.2.2⟩,rfl,hR,F.su,H⟩
 intro a w ⟨s1,v5,ho2,F,H⟩;subst ho2;have hR:=xN hk1;refine xF (xP (xA 3 F rfl fun a F=>xJ (xT (zV F rfl (oD F rfl) (oD F rfl) ?_))));obtain rfl:=Option.some.inj hR;exact⟨_,rfl,v5,rfl,H⟩
def spec_l00Max (x0:Int) (x1:Int):Option Int:=
 if (decide (x1<x0)) then
  some x0
 else
  some x1
theorem spec_l00Max_c {B:Nat→Prop} {x0:Int} {x1:Int} (r:Int) (hR:spec_l00Max x0 x1=some r)  (w0:World) (hN:∀ c,B c→c<w0.heap.size) (hx0:xY x0) (hx1:xY x1):Calls Tryz.prog 175 #[.int .i64 x0,.int .i64 x1] w0 (SaysI r w0):=by
 unfold spec_l00Max at hR
 refine xV (L:=[(0,.int .i64 x0),(1,.int .i64 x1)]) func175 rfl rfl rfl (sc rfl (sc rfl sn)) (fun a F=>?_);have H:=Sep.start hN;refine xP (xA 1 F rfl fun a F=>xJ (xC (xP (xA 3 F rfl fun a F=>?_))));refine xJ (qT F rfl (fun hb1=>?_) (fun hb1=>?_))
 ·
  replace hR:=vS hb1 hR;refine xP (xA 2 F rfl fun a F=>xJ (xT (oE (xO F rfl (oD F rfl) ?_))));obtain rfl:=Option.some.inj hR;exact⟨⟨rfl,H.bl⟩,hx0⟩
 replace hR:=vR hb1 hR;refine xL (xF (xP (xA 2 F rfl fun a F=>xJ (xT (xO F rfl (oD F rfl) ?_)))));obtain rfl:=Option.some.inj hR;exact⟨⟨rfl,H.bl⟩,hx1⟩
def spec_l01At (x0:List Int) (x1:List Int):Option (List Int):=
 vO (σ:=(List Int)) (
  qK (σ:=(List Int)) (ρ:=(List Int)) (fun(k1:Nat) (x2:Int) (s1:(List Int))=>
   xX (ix x0 x2) fun z1=>
   xX (ap s1 ([z1])) fun z2=>
   some (.go z2)) x1 0 []) fun s2=>
 some s2
theorem spec_l01At_c {B:Nat→Prop} {x0:List Int} {x1:List Int} (r:(List Int)) (hR:spec_l01At x0 x1=some r) {v0:Value} {v1:Value} (w0:World) (hN:∀ c,B c→c<w0.heap.size) (A0:Bo B w0 (Sl 1 xH) v0 x0) (A1:Bo B w0 (Sl 1 xH) v1 x1):Calls Tryz.prog 178 #[v0,v1] w0 (Gv (fun v w'=>∃ (v1':Value),v=v1'∧Sep [] B w0 w' [rl 1 xH 2 v1' r])):=by
 unfold spec_l01At at hR
 refine xV (L:=[(0,v0),(1,v1)]) func178 rfl rfl rfl (sc rfl (sc rfl sn)) (fun a F=>?_);have H:=Sep.start hN;refine xP (xA 1 F rfl fun a F=>qU (oR0 (R:=xH) underlying30 sizeOf2 F rfl H fun a w v2 H F=>xA 1 F rfl fun a F=>xJ ?_));refine xC (xP (xA 1 F rfl fun a F=>xJ ?_));obtain⟨o32,hR,hk1⟩:=xK hR;refine xW (fun a w=>∃ (s1:List Int) (v3:Value),o32= .nx s1∧Sk a 25 [(5,v3)]∧Sep [] B w0 w [rl 1 xH 2 v3 s1]) ?_ ?_
 ·
  refine xS ?_;obtain⟨fl1,hf1,hR⟩:=qE hR;refine oR (fun g a w=>∃ (k1:Nat) (t1:List Int) (s2:List Int) (v4:Value),(k1≤x1.length∧x1.drop k1=t1)∧t1.length=g∧qK fl1 t1 k1 s2=some o32∧Sk a 25 [(6,.int .i64 (k1:Int)),(0,v0),(1,v1),(5,v4)]∧Sep [] B w0 w [rl 1 xH 2 v4 s2]) x1.length ?_ ?_
  ·
   exact⟨0,x1,[],v2,⟨Nat.zero_le _,rfl⟩,rfl,hR,F.su,H⟩
  intro g1 a w ⟨k1,t1,s2,v4,hd1,hg1,hR,F,H⟩
  cases t1 with
  | nil=>
   replace hR:=qG hR;have q1:=qH hd1.1 hd1.2;have l1:=vA q1;refine xC (xP (xA 2 F rfl fun a F=>oL underlying30 F rfl rfl A1 fun a i1 F=>xA 1 F rfl fun a F=>xJ (qV F rfl l1 (oO ?_))));refine oQ (oQ (vJ (xF ?_)));exact⟨s2,v4,(Option.some.inj hR).symm,F.su,H⟩
  | cons x2 t1=>
   subst hg1;replace hd1:=oH hd1.2;have y1:=oV hd1.2.1;obtain⟨ck1,hR,hn1⟩:=oU hR;rw[hf1] at hR;have l1:=qP hd1.1;refine xC (xP (xA 2 F rfl fun a F=>oL underlying30 F rfl rfl A1 fun a i2 F=>xA 1 F rfl fun a F=>xJ (qY F rfl l1 (xL ?_))));refine xF (xC ?_);have j1:=k64 (Nat.le_of_lt hd1.1) i2;have m1:=zA hd1.1 i2;refine xS (xR (xA 4 F rfl fun a F=>oI underlying30 sizeOf2 F rfl rfl rfl A1 y1 fun a p1 h1 F=>olI isAgg2 F rfl rfl H.sm h1 (fun a i3 F=>?_)));obtain⟨z1,c1,hR⟩:=xB hR;refine oI underlying30 sizeOf2 F rfl rfl rfl A0 c1 fun a p2 h2 F=>olI isAgg2 F rfl rfl H.sm h2 fun a i4 F=>oR1z (R:=xH) (y:=z1) underlying30 sizeOf2 zeroValue2 rfl rfl F rfl rfl H (Eo.int i4) (fun a w v5 H F=>?_);obtain⟨z2,c2,hR⟩:=xB hR;refine oPL (sz:=1) (R:=xH) (z:=(.int .i64 0)) (bytes:=8) underlying30 (by kernel_rfl) rfl rfl F rfl rfl rfl (H.s [1,0] rfl rfl) c2 fun a w v6 H F=>xA 1 F rfl fun a F=>qD (qW (xF (xR (xA 1 F rfl fun a F=>qR F rfl rfl rfl m1 fun a F=>xA 1 F rfl fun a F=>xJ ?_))));replace hR:=qZ hR hn1;exact⟨_,Nat.lt_succ_self _,k1+1,t1,z2,v6,⟨hd1.1,hd1.2.2⟩,rfl,hR,F.su,H⟩
 intro a w ⟨s1,v3,ho1,F,H⟩;subst ho1;have hR:=xN hk1;refine xF (xP (xA 2 F rfl fun a F=>xJ (xT (xO F rfl (oD F rfl) ?_))));obtain rfl:=Option.some.inj hR;exact⟨_,rfl,v3,rfl,H⟩
def spec_l00Same (x0:List Int) (x1:List Int):Option Bool:=
 if ((x0.length:Int) != (x1.length:Int)) then
  some false
 else
  vO (σ:=Unit) (
   qK (σ:=Unit) (ρ:=Bool) (fun(k1:Nat) (x2:Int) (s:Unit)=>
     match s with
     | _=>
     xX (ix x1 (k1:Int)) fun z1=>
     if (x2 != z1) then
      some (.ret false)
     else
      some (.go ())) x0 0 ()) fun _=>
  some true
theorem spec_l00Same_c {B:Nat→Prop} {x0:List Int} {x1:List Int} (r:Bool) (hR:spec_l00Same x0 x1=some r) {v0:Value} {v1:Value} (w0:World) (hN:∀ c,B c→c<w0.heap.size) (A0:Bo B w0 (Sl 1 xH) v0 x0) (A1:Bo B w0 (Sl 1 xH) v1 x1):Calls Tryz.prog 166 #[v0,v1] w0 (vV (.bool r) w0):=by
 unfold spec_l00Same at hR
 refine xV (L:=[(0,v0),(1,v1)]) func166 rfl rfl rfl (sc rfl (sc rfl sn)) (fun a F=>?_);have H:=Sep.start hN;refine xP (xA 1 F rfl fun a F=>xJ (xC (xP (xA 1 F rfl fun a F=>oL underlying30 F rfl rfl A0 fun a i1 F=>xA 1 F rfl fun a F=>?_))));refine oL underlying30 F rfl rfl A1 fun a i2 F=>xA 1 F rfl fun a F=>xJ (qT F rfl (fun hb1=>?_) (fun hb1=>?_))
 ·
  replace hR:=vS hb1 hR;refine xP (xA 1 F rfl fun a F=>xJ (xT (oE (xO F rfl (oD F rfl) ?_))));obtain rfl:=Option.some.inj hR;exact⟨rfl,H.bl⟩
 replace hR:=vR hb1 hR;refine xL (xF (xC (xP (xA 1 F rfl fun a F=>xJ ?_))));obtain⟨o1,hR,hk1⟩:=xK hR;refine xW (fun a w=>o1= .nx ()∧Sk a 26 []∧Sep [] B w0 w []) ?_ ?_
 ·
  refine xS ?_;obtain⟨fl1,hf1,hR⟩:=qE hR;refine oR (fun g a w=>∃ (k1:Nat) (rest32:List Int),(k1≤x0.length∧x0.drop k1=rest32)∧rest32.length=g∧qK fl1 rest32 k1 ()=some o1∧Sk a 26 [(5,.int .i64 (k1:Int)),(0,v0),(1,v1)]∧Sep [] B w0 w []) x0.length ?_ ?_
  ·
   exact⟨0,x0,⟨Nat.zero_le _,rfl⟩,rfl,hR,F.su,H⟩
  intro g1 a w ⟨k1,rest32,hd1,hg1,hR,F,H⟩
  cases rest32 with
  | nil=>
   replace hR:=qG hR;have q1:=qH hd1.1 hd1.2;have l1:=vA q1;refine xC (xP (xA 2 F rfl fun a F=>oL underlying30 F rfl rfl A0 fun a i3 F=>xA 1 F rfl fun a F=>xJ (qV F rfl l1 (oO ?_))));refine oQ (oQ (vJ (xF ?_)));exact⟨(Option.some.inj hR).symm,F.sub sn,H⟩
  | cons x2 rest32=>
   subst hg1;replace hd1:=oH hd1.2;have y1:=oV hd1.2.1;obtain⟨ck1,hR,hn1⟩:=oU hR;rw[hf1] at hR;have l1:=qP hd1.1;refine xC (xP (xA 2 F rfl fun a F=>oL underlying30 F rfl rfl A0 fun a i4 F=>xA 1 F rfl fun a F=>xJ (qY F rfl l1 (xL ?_))));refine xF (xC ?_);have j1:=k64 (Nat.le_of_lt hd1.1) i4;have m1:=zA hd1.1 i4;refine xS (xC (xQ H (by kernel_rfl) (by kernel_rfl) (xU F rfl (fun w l=>xM F rfl) fun a F=>xU F rfl (fun w l=>xM F rfl) fun a F=>qI underlying30 sizeOf2 F rfl rfl rfl A0 y1 fun a p1 h1 F=>qlI isAgg2 F rfl rfl H.q h1 fun a i5 F=>xU F rfl (fun w l=>xM F rfl) fun a F=>xU F rfl (fun w l=>xM F rfl) (fun a F=>?_))));obtain⟨z1,c1,hR⟩:=xB hR;refine qI underlying30 sizeOf2 F rfl rfl rfl A1 c1 fun a p2 h2 F=>qlI isAgg2 F rfl rfl H.q h2 fun a i6 F=>xU F rfl (fun w l=>r_neq F rfl rfl) fun a F=>kP fun w H=>xF (qT F rfl (fun hb2=>?_) (fun hb2=>?_))
   ·
    replace hR:=vS hb2 hR;refine xP (xA 1 F rfl fun a F=>xJ (xT (vH (oE (oE ?_)))));replace hR:=zS hR hn1;refine vH (oE ?_);replace hR:=zR hR hk1;refine oE (xO F rfl (oD F rfl) ?_);obtain rfl:=Option.some.inj hR;exact⟨rfl,H.bl⟩
   replace hR:=vR hb2 hR;refine xL (qW (xF (xR (xA 1 F rfl fun a F=>qR F rfl rfl rfl m1 fun a F=>xA 1 F rfl fun a F=>xJ ?_))));replace hR:=qZ hR hn1;exact⟨_,Nat.lt_succ_self _,k1+1,rest32,⟨hd1.1,hd1.2.2⟩,rfl,hR,F.su,H⟩
 intro a w ⟨ho1,F,H⟩;subst ho1;have hR:=xN hk1;refine xF (xP (xA 1 F rfl fun a F=>xJ (xT (xO F rfl (oD F rfl) ?_))));obtain rfl:=Option.some.inj hR;exact⟨rfl,H.bl⟩
def spec_l01Has (x0:Rel) (x1:List Int):Option Bool:=
 vO (σ:=Unit) (
  qK (σ:=Unit) (ρ:=Bool) (fun(k1:Nat) (x2:(List Int)) (s:Unit)=>
    match s with
    | _=>
    xX (spec_l00Same x2 x1) fun z1=>
    if z1 then
     some (.ret true)
    else
     some (.go ())) x0.tuples 0 ()) fun _=>
 some false
theorem spec_l01Has_c {B:Nat→Prop} {x0:Rel} {x1:List Int} (r:Bool) (hR:spec_l01Has x0 x1=some r) {v0:Value} {v1:Value} (w0:World) (hN:∀ c,B c→c<w0.heap.size) (A0:Bo B w0 (Pt 2 oM) v0 x0) (A1:Bo B w0 (Sl 1 xH) v1 x1):Calls Tryz.prog 132 #[v0,v1] w0 (vV (.bool r) w0):=by
 unfold spec_l01Has at hR
 refine xV (L:=[(0,v0),(1,v1)]) func132 rfl rfl rfl (sc rfl (sc rfl sn)) (fun a F=>?_);have H:=Sep.start hN;refine xP (xA 1 F rfl fun a F=>xJ (xC (xP (xA 1 F rfl fun a F=>xJ ?_))));obtain⟨o32,hR,hk1⟩:=xK hR;refine xW (fun a w=>o32= .nx ()∧Sk a 24 []∧Sep [] B w0 w []) ?_ ?_
 ·
  refine xS ?_;obtain⟨fl1,hf1,hR⟩:=qE hR;refine oR (fun g a w=>∃ (k1:Nat) (t1:List (List Int)),(k1≤x0.tuples.length∧x0.tuples.drop k1=t1)∧t1.length=g∧qK fl1 t1 k1 ()=some o32∧Sk a 24 [(5,.int .i64 (k1:Int)),(0,v0),(1,v1)]∧Sep [] B w0 w []) x0.tuples.length ?_ ?_
  ·
   exact⟨0,x0.tuples,⟨Nat.zero_le _,rfl⟩,rfl,hR,F.su,H⟩
  intro g1 a w ⟨k1,t1,hd1,hg1,hR,F,H⟩
  cases t1 with
  | nil=>
   replace hR:=qG hR;have q1:=qH hd1.1 hd1.2;have l1:=vA q1;refine xC (xP (xA 2 F rfl fun a F=>oN F rfl rfl A0 fun a F=>oF (s':=1) vX F rfl rfl A0 oM.f1 fun a p1 h1 F=>olS isAgg67 F rfl rfl H.sm h1 fun a v2 h2 F=>oL underlying67 F rfl rfl h2 fun a i64 F=>xA 1 F rfl fun a F=>qD ?_));refine xF (qV F rfl l1 (oO (oQ (oQ (vJ (xF ?_))))));exact⟨(Option.some.inj hR).symm,F.sub sn,H⟩
  | cons x2 t1=>
   subst hg1;replace hd1:=oH hd1.2;have y1:=oV hd1.2.1;obtain⟨ck1,hR,hn1⟩:=oU hR;rw[hf1] at hR;have l1:=qP hd1.1;refine xC (xP (xA 2 F rfl fun a F=>oN F rfl rfl A0 fun a F=>oF (s':=1) vX F rfl rfl A0 oM.f1 fun a p2 h3 F=>olS isAgg67 F rfl rfl H.sm h3 fun a v3 h4 F=>oL underlying67 F rfl rfl h4 fun a i1 F=>xA 1 F rfl fun a F=>qD ?_));refine xF (qY F rfl l1 (xL (xF (xC ?_))));have j1:=k64 (Nat.le_of_lt hd1.1) i1;have m1:=zA hd1.1 i1;refine xS (xP (xA 1 F rfl fun a F=>oN F rfl rfl A0 fun a F=>oF (s':=1) vX F rfl rfl A0 oM.f1 fun a p3 h5 F=>olS isAgg67 F rfl rfl H.sm h5 fun a v4 h6 F=>xA 1 F rfl fun a F=>oI underlying67 sizeOf30 F rfl rfl rfl h6 y1 fun a p4 h7 F=>olS isAgg30 F rfl rfl H.sm h7 fun a v5 h8 F=>xA 1 F rfl fun a F=>?_));obtain⟨z1,c1,hR⟩:=xB hR;refine oK F rfl call166 rfl H (spec_l00Same_c z1 c1 _ aA (H.a h8) (H.a A1)) fun a w H F=>xJ (qT F rfl (fun hb1=>?_) (fun hb1=>?_))
   ·
    replace hR:=vS hb1 hR;refine xP (xA 1 F rfl fun a F=>xJ (xT (vH (oE (oE ?_)))));replace hR:=zS hR hn1;refine vH (oE ?_);replace hR:=zR hR hk1;refine oE (xO F rfl (oD F rfl) ?_);obtain rfl:=Option.some.inj hR;exact⟨rfl,H.bl⟩
   replace hR:=vR hb1 hR;refine xL (qW (xF (xR (xA 1 F rfl fun a F=>qR F rfl rfl rfl m1 fun a F=>xA 1 F rfl fun a F=>xJ ?_))));replace hR:=qZ hR hn1;exact⟨_,Nat.lt_succ_self _,k1+1,t1,⟨hd1.1,hd1.2.2⟩,rfl,hR,F.su,H⟩
 intro a w ⟨ho1,F,H⟩;subst ho1;have hR:=xN hk1;refine xF (xP (xA 1 F rfl fun a F=>xJ (xT (xO F rfl (oD F rfl) ?_))));obtain rfl:=Option.some.inj hR;exact⟨rfl,H.bl⟩
def spec_l05Holds (x0:Template) (x1:Con) (x2:List Int):Option Bool:=
 xX (ix x0.rels x1.rel) fun z1=>
 xX (spec_l01At x2 x1.scope) fun z2=>
 xX (spec_l01Has z1 z2) fun z3=>
 some z3
theorem spec_l05Holds_c {B:Nat→Prop} {x0:Template} {x1:Con} {x2:List Int} (r:Bool) (hR:spec_l05Holds x0 x1 x2=some r) {v0:Value} {v1:Value} {v2:Value} (w0:World) (hN:∀ c,B c→c<w0.heap.size) (A0:Bo B w0 (Pt 2 xG) v0 x0) (A1:Bo B w0 (Pt 2 qX) v1 x1) (A2:Bo B w0 (Sl 1 xH) v2 x2):Calls Tryz.prog 176 #[v0,v1,v2] w0 (vV (.bool r) w0):=by
 unfold spec_l05Holds at hR
 refine xV (L:=[(0,v0),(1,v1),(2,v2)]) func176 rfl rfl rfl (sc rfl (sc rfl (sc rfl sn))) (fun a F=>?_);have H:=Sep.start hN;refine xP (xA 1 F rfl fun a F=>xJ (xC ?_));obtain⟨z1,c1,hR⟩:=xB hR;obtain⟨z2,c2,hR⟩:=xB hR;obtain⟨z3,c32,hR⟩:=xB hR;refine xD H (by kernel_rfl) fun w H=>vD 0 rfl (by kernel_rfl) (by kernel_rfl) (by kernel_rfl) (oJ F rfl (fun w l=>xM F rfl) fun a F=>kO 1 (by kernel_rfl) rfl (by kernel_rfl) (by kernel_rfl) (by kernel_rfl) (by kernel_rfl) (vN F rfl rfl A0 fun a F=>kO 2 (by kernel_rfl) rfl (by kernel_rfl) (by kernel_rfl) (by kernel_rfl) (by kernel_rfl) (vF (s':=1) fa35_1 F rfl rfl A0 xG.f1 fun a p1 h1 F=>kO 3 (by kernel_rfl) rfl (by kernel_rfl) (by kernel_rfl) (by kernel_rfl) (by kernel_rfl) (vlS isAgg33 F rfl rfl H.v h1 fun a v3 h2 F=>vD 4 rfl (by kernel_rfl) (by kernel_rfl) (by kernel_rfl) (oJ F rfl (fun w l=>xM F rfl) (fun a F=>?_))))));refine kO 5 (by kernel_rfl) rfl (by kernel_rfl) (by kernel_rfl) (by kernel_rfl) (by kernel_rfl) (vN F rfl rfl A1 fun a F=>kO 6 (by kernel_rfl) rfl (by kernel_rfl) (by kernel_rfl) (by kernel_rfl) (by kernel_rfl) (vF (s':=1) fa85_0 F rfl rfl A1 qX.f0 fun a p2 h3 F=>kO 7 (by kernel_rfl) rfl (by kernel_rfl) (by kernel_rfl) (by kernel_rfl) (by kernel_rfl) (vlI isAgg2 F rfl rfl H.v h3 fun a i1 F=>kO 8 (by kernel_rfl) rfl (by kernel_rfl) (by kernel_rfl) (by kernel_rfl) (by kernel_rfl) (vI underlying33 sizeOf69 F rfl rfl rfl h2 c1 fun a p3 h4 F=>vD 9 rfl (by kernel_rfl) (by kernel_rfl) (by kernel_rfl) (oJ F rfl (fun w l=>xM F rfl) fun a F=>vD 10 rfl (by kernel_rfl) (by kernel_rfl) (by kernel_rfl) ?_)))));refine oJ F rfl (fun w l=>xM F rfl) fun a F=>kO 11 (by kernel_rfl) rfl (by kernel_rfl) (by kernel_rfl) (by kernel_rfl) (by kernel_rfl) (vN F rfl rfl A1 fun a F=>kO 12 (by kernel_rfl) rfl (by kernel_rfl) (by kernel_rfl) (by kernel_rfl) (by kernel_rfl) (vF (s':=1) kV F rfl rfl A1 qX.f1 fun a p4 h5 F=>kO 13 (by kernel_rfl) rfl (by kernel_rfl) (by kernel_rfl) (by kernel_rfl) (by kernel_rfl) (vlS isAgg30 F rfl rfl H.v h5 fun a v4 h6 F=>xE H 14 rfl (by kernel_rfl) (oG F rfl call178 rfl (spec_l01At_c z2 c2 _ aA (H.a A2) (H.a h6)) (fun a vv w ⟨v5,hv1,S⟩ F=>?_)))));subst vv;have H:=H.r1 S n0;refine xJ ⟨⟨_,H⟩,?_⟩;refine xE H 15 rfl (by kernel_rfl) (oK F rfl call132 rfl H (spec_l01Has_c z3 c32 _ aA (H.a h4) (H.l 0 rfl)) fun a w H F=>xJ ⟨⟨_,H⟩,?_⟩);refine vD 16 rfl (by kernel_rfl) (by kernel_rfl) (by kernel_rfl) (oJ F rfl (fun w l=>kL F rfl) fun a F=>b_end (by kernel_rfl) (xF (xT (xO F rfl (oD F rfl) ?_))));obtain rfl:=Option.some.inj hR;exact⟨rfl,H.bl⟩
def spec_l05Find_sure (x0:l05Find) (x1:List Int):Option Bool:=
 xX (ck ((x1.length:Int) - 1)) fun z1=>
 vO (σ:=Unit) (
  qK (σ:=Unit) (ρ:=Bool) (fun(k1:Nat) (x2:Con) (s:Unit)=>
    match s with
    | _=>
    vO (σ:=Int) (
     qK (σ:=Int) (ρ:=(Ctl (Unit) Bool)) (fun(k2:Nat) (x3:Int) (s1:Int)=>
      xX (spec_l00Max s1 x3) fun z2=>
      some (.go z2)) x2.scope 0 0) fun s2=>
    vO (σ:=Bool) (
     if (s2==z1) then  xX (spec_l05Holds x0.t x2 x1) fun z3=>
      some (.nx (!z3)) else  some (.nx false)) fun s3=>
    if s3 then
     some (.ret false)
    else
     some (.go ())) x0.x.cons 0 ()) fun _=>
 some true
theorem spec_l05Find_sure_c {B:Nat→Prop} {x0:l05Find} {x1:List Int} (r:Bool) (hR:spec_l05Find_sure x0 x1=some r) {v0:Value} {v1:Value} (w0:World) (hN:∀ c,B c→c<w0.heap.size) (A0:Bo B w0 (Pt 5 kD) v0 x0) (A1:Bo B w0 (Sl 1 xH) v1 x1):Calls Tryz.prog 163 #[v0,v1] w0 (vV (.bool r) w0):=by
 unfold spec_l05Find_sure at hR
 refine xV (L:=[(0,v0),(1,v1)]) func163 rfl rfl rfl (sc rfl (sc rfl sn)) (fun a F=>?_);have H:=Sep.start hN;refine xP (xA 1 F rfl fun a F=>qU (xA 1 F rfl fun a F=>oL underlying30 F rfl rfl A1 (fun a i1 F=>?_)));obtain⟨z1,c1,hR⟩:=xB hR;refine o_sub F rfl rfl rfl c1 fun a F=>xA 1 F rfl fun a F=>xJ (xC (xP (xA 1 F rfl fun a F=>xJ ?_)));obtain⟨o1,hR,hk1⟩:=xK hR;refine xW (fun a w=>o1= .nx ()∧Sk a 65 []∧Sep [] B w0 w []) ?_ ?_
 ·
  refine xS ?_;obtain⟨fl1,hf1,hR⟩:=qE hR;refine oR (fun g a w=>∃ (k1:Nat) (t1:List Con),(k1≤x0.x.cons.length∧x0.x.cons.drop k1=t1)∧t1.length=g∧qK fl1 t1 k1 ()=some o1∧Sk a 65 [(6,.int .i64 (k1:Int)),(0,v0),(1,v1),(5,.int .i64 z1)]∧Sep [] B w0 w []) x0.x.cons.length ?_ ?_
  ·
   exact⟨0,x0.x.cons,⟨Nat.zero_le _,rfl⟩,rfl,hR,F.su,H⟩
  intro g1 a w ⟨k1,t1,hd1,hg1,hR,F,H⟩
  cases t1 with
  | nil=>
   replace hR:=qG hR;have q1:=qH hd1.1 hd1.2;have l1:=vA q1;refine xC (xP (xA 2 F rfl fun a F=>oN F rfl rfl A0 fun a F=>oF (s':=1) fa179_1 F rfl rfl A0 kD.f1 fun a p1 h1 F=>olP isAgg52 F rfl rfl H.sm h1 fun a v2 h2 F=>oN F rfl rfl h2 fun a F=>oF (s':=1) fa39_1 F rfl rfl h2 xI.f1 fun a p2 h3 F=>olS isAgg37 F rfl rfl H.sm h3 (fun a v3 h4 F=>?_)));refine oL underlying37 F rfl rfl h4 fun a i2 F=>xA 1 F rfl fun a F=>xJ (qV F rfl l1 (oO (oQ (oQ (vJ (xF ?_))))));exact⟨(Option.some.inj hR).symm,F.sub sn,H⟩
  | cons x2 t1=>
   subst hg1;replace hd1:=oH hd1.2;have y1:=oV hd1.2.1;obtain⟨ck1,hR,hn1⟩:=oU hR;rw[hf1] at hR;have l1:=qP hd1.1;refine xC (xP (xA 2 F rfl fun a F=>oN F rfl rfl A0 fun a F=>oF (s':=1) fa179_1 F rfl rfl A0 kD.f1 fun a p3 h5 F=>olP isAgg52 F rfl rfl H.sm h5 fun a v4 h6 F=>oN F rfl rfl h6 fun a F=>oF (s':=1) fa39_1 F rfl rfl h6 xI.f1 fun a p4 h7 F=>olS isAgg37 F rfl rfl H.sm h7 (fun a v5 h8 F=>?_)));refine oL underlying37 F rfl rfl h8 fun a i3 F=>xA 1 F rfl fun a F=>xJ (qY F rfl l1 (xL (xF (xC ?_))));have j1:=k64 (Nat.le_of_lt hd1.1) i3;have m1:=zA hd1.1 i3;refine xS (xP (xA 1 F rfl fun a F=>oN F rfl rfl A0 fun a F=>oF (s':=1) fa179_1 F rfl rfl A0 kD.f1 fun a p5 h9 F=>olP isAgg52 F rfl rfl H.sm h9 fun a v6 h10 F=>oN F rfl rfl h10 fun a F=>oF (s':=1) fa39_1 F rfl rfl h10 xI.f1 fun a p6 h11 F=>olS isAgg37 F rfl rfl H.sm h11 fun a v7 h12 F=>xA 1 F rfl fun a F=>?_));refine oI underlying37 sizeOf85 F rfl rfl rfl h12 y1 fun a p7 h13 F=>xA 1 F rfl fun a F=>qU (xA 1 F rfl fun a F=>xJ (xC (xC ?_)));refine xR (xA 1 F rfl fun a F=>xJ ?_);obtain⟨o2,hR,hk2⟩:=xK hR;refine xW (fun a w=>∃ (s1:Int),o2= .nx s1∧Sk a 65 [(0,v0),(1,v1),(5,.int .i64 z1),(6,.int .i64 (k1:Int)),(7,p7),(8,.int .i64 s1)]∧Sep [] B w0 w []∧xY s1) ?_ ?_
   ·
    refine xS ?_;obtain⟨fl2,hf2,hR⟩:=qE hR;refine oR (fun g a w=>∃ (k2:Nat) (t2:List Int) (s2:Int),(k2≤x2.scope.length∧x2.scope.drop k2=t2)∧t2.length=g∧qK fl2 t2 k2 s2=some o2∧Sk a 65 [(9,.int .i64 (k2:Int)),(0,v0),(1,v1),(5,.int .i64 z1),(6,.int .i64 (k1:Int)),(7,p7),(8,.int .i64 s2)]∧Sep [] B w0 w []∧xY s2) x2.scope.length ?_ ?_
    ·
     exact⟨0,x2.scope,0,⟨Nat.zero_le _,rfl⟩,rfl,hR,F.su,H,(show xY (0) by decide)⟩
    intro g2 a w ⟨k2,t2,s2,hd2,hg2,hR,F,H,i4⟩
    cases t2 with
    | nil=>
     replace hR:=qG hR;have q2:=qH hd2.1 hd2.2;have l2:=vA q2;refine xC (xP (xA 2 F rfl fun a F=>oN F rfl rfl h13 fun a F=>oF (s':=1) kV F rfl rfl h13 qX.f1 fun a p8 h14 F=>olS isAgg30 F rfl rfl H.sm h14 fun a v8 h15 F=>oL underlying30 F rfl rfl h15 fun a i5 F=>xA 1 F rfl fun a F=>qD ?_));refine xF (qV F rfl l2 (oO (oQ (oQ (vJ (xF ?_))))));exact⟨s2,(Option.some.inj hR).symm,F.su,H,i4⟩
    | cons x3 t2=>
     subst hg2;replace hd2:=oH hd2.2;have y2:=oV hd2.2.1;obtain⟨ck2,hR,hn2⟩:=oU hR;rw[hf2] at hR;have l2:=qP hd2.1;refine xC (xP (xA 2 F rfl fun a F=>oN F rfl rfl h13 fun a F=>oF (s':=1) kV F rfl rfl h13 qX.f1 fun a p9 h16 F=>olS isAgg30 F rfl rfl H.sm h16 fun a v9 h17 F=>oL underlying30 F rfl rfl h17 fun a i6 F=>xA 1 F rfl fun a F=>qD ?_));refine xF (qY F rfl l2 (xL (xF (xC ?_))));have j2:=k64 (Nat.le_of_lt hd2.1) i6;have m2:=zA hd2.1 i6;refine xS (xR (xA 2 F rfl fun a F=>oN F rfl rfl h13 fun a F=>oF (s':=1) kV F rfl rfl h13 qX.f1 fun a p10 h18 F=>olS isAgg30 F rfl rfl H.sm h18 fun a v10 h19 F=>xA 1 F rfl fun a F=>oI underlying30 sizeOf2 F rfl rfl rfl h19 y2 fun a p11 h20 F=>olI isAgg2 F rfl rfl H.sm h20 (fun a i7 F=>?_)));obtain⟨z2,c2,hR⟩:=xB hR;refine oKI F rfl call175 rfl H (spec_l00Max_c z2 c2 _ aA i4 i7) fun a w H iz1 F=>xA 1 F rfl fun a F=>qD (qW (xF (xR (xA 1 F rfl fun a F=>qR F rfl rfl rfl m2 fun a F=>xA 1 F rfl fun a F=>xJ ?_))));replace hR:=qZ hR hn2;exact⟨_,Nat.lt_succ_self _,k2+1,t2,z2,⟨hd2.1,hd2.2.2⟩,rfl,hR,F.su,H,iz1⟩
   intro a w ⟨s1,ho1,F,H,i8⟩;subst ho1;have hR:=xN hk2;refine xF (xC ?_);obtain⟨o3,hR,hk3⟩:=xK hR;refine xW (fun a w=>∃ (s3:Bool),o3= .nx s3∧Sk a 65 [(0,v0),(1,v1),(5,.int .i64 z1),(6,.int .i64 (k1:Int)),(64,.bool s3)]∧Sep [] B w0 w []) ?_ ?_
   ·
    refine xR (xA 4 F rfl fun a F=>?_)
    rcases vG (s1==z1) with hb1 | hb1
    ·
     replace hR:=vS hb1 hR;have F:=F.eq (t:=55) rfl (congrArg Value.bool hb1);refine xA 1 F rfl fun a F=>oN F rfl rfl A0 fun a F=>oF (s':=1) fa179_0 F rfl rfl A0 kD.f0 fun a p12 h21 F=>olP isAgg51 F rfl rfl H.sm h21 fun a v11 h22 F=>xA 2 F rfl fun a F=>?_;obtain⟨z3,c3,hR⟩:=xB hR;refine oK F rfl call176 rfl H (spec_l05Holds_c z3 c3 _ aA (H.a h22) (H.a h13) (H.a A1)) fun a w H F=>xA 2 F rfl fun a F=>xJ ?_;exact⟨(!z3),(Option.some.inj hR).symm,F.su,H⟩
    replace hR:=vR hb1 hR;have F:=F.eq (t:=55) rfl (congrArg Value.bool hb1);refine xA 9 F rfl fun a F=>xJ ?_;exact⟨false,(Option.some.inj hR).symm,F.su,H⟩
   intro a w ⟨s3,ho2,F,H⟩;subst ho2;have hR:=xN hk3;refine xF (qT F rfl (fun hb2=>?_) (fun hb2=>?_))
   ·
    replace hR:=vS hb2 hR;refine xP (xA 1 F rfl fun a F=>xJ (xT (vH (oE (oE ?_)))));replace hR:=zS hR hn1;refine vH (oE ?_);replace hR:=zR hR hk1;refine oE (xO F rfl (oD F rfl) ?_);obtain rfl:=Option.some.inj hR;exact⟨rfl,H.bl⟩
   replace hR:=vR hb2 hR;refine xL (qW (xF (xR (xA 1 F rfl fun a F=>qR F rfl rfl rfl m1 fun a F=>xA 1 F rfl fun a F=>xJ ?_))));replace hR:=qZ hR hn1;exact⟨_,Nat.lt_succ_self _,k1+1,t1,⟨hd1.1,hd1.2.2⟩,rfl,hR,F.su,H⟩
 intro a w ⟨ho3,F,H⟩;subst ho3;have hR:=xN hk1;refine xF (xP (xA 1 F rfl fun a F=>xJ (xT (xO F rfl (oD F rfl) ?_))));obtain rfl:=Option.some.inj hR;exact⟨rfl,H.bl⟩
def kB:Nat→Template→Instance→Int→(List (List Int))→Int→(List Int)→Option ((List (List Int))×Int)
  | 0,_,_,_,_,_,_=>none
  | N+1,x0_0,x0_1,x0_2,x0_3,x0_4,x1=>
  if ((x1.length:Int)==x0_1.vars) then
   xX (ck (x0_4+1)) fun z16=>
   vO (σ:=(List (List Int))) (
    if (decide ((x0_3.length:Int)<x0_2)) then
     xX (spec_l00Own x1) fun z1=>
     xX (ap x0_3 ([z1])) fun z2=>
     some (.nx z2)
    else
     some (.nx x0_3)) fun s1=>
   some (s1,z16)
  else
   vO (σ:=(List (List Int))×Int) (
    vQ (σ:=(List (List Int))×Int) (ρ:=(List (List Int))×Int) (fun(k1:Nat) (s:(List (List Int))×Int)=>
      match s with
      | (s2,s3)=>
      vO (σ:=Bool) (
       if (decide (0<x0_2)) then  some (.nx ((s2.length:Int)==x0_2)) else  some (.nx false)) fun s4=>
      if s4 then
       some (.ret (s2,s3))
      else
       xX (spec_l00Own x1) fun z3=>
       xX (ap z3 ([(k1:Int)])) fun z4=>
       xX (spec_l05Find_sure (l05Find.mk x0_0 x0_1 x0_2 s2 s3) z4) fun z5=>
       if z5 then
        xX (kB N x0_0 x0_1 x0_2 s2 s3 z4) fun z6=>
        some (.go (z6.1,z6.2))
       else
        some (.go (s2,s3))) x0_0.size.toNat 0 (x0_3,x0_4)) fun(s5,s6)=>
   some (s5,s6)
theorem spec_l05Find_from_cA:∀ (N:Nat) {B:Nat→Prop} {x0_0:Template} {x0_1:Instance} {x0_2:Int} {x0_3:List (List Int)} {x0_4:Int} {x1:List Int} (r:(List (List Int))×Int) (hR:kB N x0_0 x0_1 x0_2 x0_3 x0_4 x1=some r) {b0':Nat} {v0_0:Value} {v0_1:Value} {v0_3:Value} {v1:Value} {X0:List Nat} (w0:World) (hN:∀ c,B c→c<w0.heap.size) (S0:Sep X0 B w0 w0 [bx b0' [v0_0,v0_1,.int .i64 x0_2,v0_3,.int .i64 x0_4] 179,rl 1 (vY 1 xH) 30 v0_3 x0_3]) (Ax0_0:Bo B w0 (Pt 2 xG) v0_0 x0_0) (Ax0_1:Bo B w0 (Pt 2 xI) v0_1 x0_1) (hx0_2:xY x0_2) (hx0_4:xY x0_4) (A1:Bo B w0 (Sl 1 xH) v1 x1),Calls Tryz.prog 129 #[.pointer (some ⟨b0',0,none⟩),v1] w0 (Gv (fun v w'=>∃ (v1':Value),v= .tuple #[]∧Sep X0 B w0 w' [bx b0' [v0_0,v0_1,.int .i64 x0_2,v1',.int .i64 r.2] 179,rl 1 (vY 1 xH) 30 v1' r.1]∧xY r.2)):=by
  intro N
  induction N with
  | zero=>intro B x0_0 x0_1 x0_2 x0_3 x0_4 x1 r hR;unfold kB at hR;cases hR
  | succ N ih=>
  intro B x0_0 x0_1 x0_2 x0_3 x0_4 x1 r hR b0' v0_0 v0_1 v0_3 v1 X0 w0 hN S0 Ax0_0 Ax0_1 hx0_2 hx0_4 A1;rw[kB] at hR;refine xV (L:=[(0,.pointer (some ⟨b0',0,none⟩)),(1,v1)]) func129 rfl rfl rfl (sc rfl (sc rfl sn)) (fun a F=>?_);have H:=S0;refine xC (xP (xA 1 F rfl fun a F=>oL underlying30 F rfl rfl A1 fun a i1 F=>xA 1 F rfl fun a F=>o_nilCheck F rfl rfl fun a F=>oY fa179_1 F rfl rfl rfl fun a F=>oB isAgg52 F rfl rfl (H.b 0 rfl) rfl fun a F=>oN F rfl rfl Ax0_1 fun a F=>oF (s':=1) zY F rfl rfl Ax0_1 xI.f0 (fun a p1 h1 F=>?_)));refine olI isAgg2 F rfl rfl H.sm h1 fun a i2 F=>xA 1 F rfl fun a F=>xJ (qT F rfl (fun hb1=>?_) (fun hb1=>?_))
  ·
   replace hR:=vS hb1 hR;refine xP (xA 1 F rfl fun a F=>o_nilCheck F rfl rfl fun a F=>oY fa179_4 F rfl rfl rfl fun a F=>oB isAgg2 F rfl rfl (H.b 0 rfl) rfl (fun a F=>?_));obtain⟨z16,c1,hR⟩:=xB hR;refine kX F rfl rfl rfl c1 fun a F=>o_nilCheck F rfl rfl fun a F=>oY fa179_4 F rfl rfl rfl fun a F=>oW sizeOf2 F rfl rfl rfl H rfl rfl rfl fun w H=>xJ (xC (xC (xQ H (by kernel_rfl) (by kernel_rfl) (xU F rfl (fun w l=>xM F rfl) fun a F=>xU F rfl (fun w l=>r_nilCheck F rfl) (fun a F=>?_)))));refine xU F rfl (fun w l=>zQ fa179_3 F rfl rfl) fun a F=>qB isAgg67 F rfl rfl (H.qb 0 rfl) rfl fun a F=>qL underlying67 F rfl rfl (H.l 1 rfl) fun a i3 F=>xU F rfl (fun w l=>xM F rfl) fun a F=>xU F rfl (fun w l=>r_nilCheck F rfl) fun a F=>xU F rfl (fun w l=>zQ fa179_2 F rfl rfl) fun a F=>qB isAgg3 F rfl rfl (H.qb 0 rfl) rfl fun a F=>xU F rfl (fun w l=>r_lss F rfl rfl) fun a F=>kP fun w H=>xF ?_;obtain⟨o1,hR,hk1⟩:=xK hR;refine xW (fun a w=>∃ (s1:List (List Int)) (v2:Value),o1= .nx s1∧Sk a 83 [(0,.pointer (some ⟨b0',0,none⟩))]∧Sep X0 B w0 w [bx b0' [v0_0,v0_1,.int .i64 x0_2,v2,.int .i64 z16] 179,rl 1 (vY 1 xH) 30 v2 s1]) ?_ ?_
   ·
    refine qT F rfl (fun hb2=>?_) (fun hb2=>?_)
    ·
     replace hR:=vS hb2 hR;obtain⟨z1,c2,hR⟩:=xB hR;obtain⟨z2,c3,hR⟩:=xB hR;refine xD H (by kernel_rfl) fun w H=>dp (fun G=>∀ (v3:Value) (a:Act) (w:World),Sk a 83 [(0,.pointer (some ⟨b0',0,none⟩)),(33,.pointer (some ⟨b0',0,none⟩)),(37,v0_3),(40,v3)]→Sep X0 B w0 w [rl 1 (vY 1 xH) 30 v3 ([z1]),bx b0' [v0_0,v0_1,.int .i64 x0_2,v0_3,.int .i64 z16] 179,rl 1 (vY 1 xH) 30 v0_3 x0_3]→∀ ls,ls = #[true,true,true,true,true,true,true,true,false,false,false,false]→G 4 ls a w) ?_ (fun H1=>?_)
     ·
      intro v3 a w F H ls hls;subst hls;refine xE H 8 rfl (by kernel_rfl) (oPL (sz:=1) (R:=(vY 1 xH)) (z:=((.slice none 0 0))) (bytes:=24) underlying67 (by kernel_rfl) rfl rfl F rfl rfl rfl (H.s [2,0,1] rfl rfl) c3 fun a w v4 H F=>xJ ⟨⟨_,H⟩,?_⟩);refine kO 9 (by kernel_rfl) rfl (by kernel_rfl) (by kernel_rfl) (by kernel_rfl) (by kernel_rfl) (oJ F rfl (fun w l=>r_nilCheck F rfl) fun a F=>kO 10 (by kernel_rfl) rfl (by kernel_rfl) (by kernel_rfl) (by kernel_rfl) (by kernel_rfl) (oJ F rfl (fun w l=>zQ fa179_3 F rfl rfl) fun a F=>xE H 11 rfl (by kernel_rfl) (oW sizeOf67 F rfl rfl rfl (H.s [1,0] rfl rfl) ((H.s [1,0] rfl rfl).l 1 rfl).one rfl rfl fun w H=>xJ ⟨⟨_,H⟩,?_⟩)));refine b_end (by kernel_rfl) (xF ?_);exact⟨z2,v4,(Option.some.inj hR).symm,F.su,H⟩
     refine dp (fun G=>∀ (v5:Value) (a:Act) (w:World),Sk a 83 [(0,.pointer (some ⟨b0',0,none⟩)),(33,.pointer (some ⟨b0',0,none⟩)),(37,v0_3),(39,v5)]→Sep X0 B w0 w [rl 1 xH 2 v5 z1,bx b0' [v0_0,v0_1,.int .i64 x0_2,v0_3,.int .i64 z16] 179,rl 1 (vY 1 xH) 30 v0_3 x0_3]→∀ ls,ls = #[true,true,true,true,true,true,true,false,false,false,false,false]→G 5 ls a w) ?_ (fun H2=>?_)
     ·
      intro v5 a w F H ls hls;subst hls;refine xE H 7 rfl (by kernel_rfl) ?_;have H:=H.os;refine oR1L (R:=(vY 1 xH)) (y:=z1) underlying67 sizeOf30 zeroValue30 rfl rfl F rfl rfl H El.sl fun a w v6 H F=>xJ ⟨⟨_,H⟩,?_⟩;exact H1 v6 _ _ (F.su) H _ (by kernel_rfl)
     refine vD 0 rfl (by kernel_rfl) (by kernel_rfl) (by kernel_rfl) (oJ F rfl (fun w l=>xM F rfl) fun a F=>vD 1 rfl (by kernel_rfl) (by kernel_rfl) (by kernel_rfl) (oJ F rfl (fun w l=>xM F rfl) fun a F=>kO 2 (by kernel_rfl) rfl (by kernel_rfl) (by kernel_rfl) (by kernel_rfl) (by kernel_rfl) (oJ F rfl (fun w l=>r_nilCheck F rfl) fun a F=>kO 3 (by kernel_rfl) rfl (by kernel_rfl) (by kernel_rfl) (by kernel_rfl) (by kernel_rfl) (oJ F rfl (fun w l=>zQ fa179_3 F rfl rfl) fun a F=>vD 5 rfl (by kernel_rfl) (by kernel_rfl) (by kernel_rfl) (oJ F rfl (fun w l=>xM F rfl) fun a F=>b_es [4,6] (by kernel_rfl) (by simp) ⟨⟨_,rfl,?_⟩,⟨_,rfl,?_⟩,trivial⟩)))))
     ·
      refine xEs H (oB isAgg67 F rfl rfl (H.b 0 rfl) rfl fun a F=>xJ ⟨⟨_,H⟩,?_⟩);refine xE H 6 rfl (by kernel_rfl) (oG F rfl call160 rfl (spec_l00Own_c z1 c2 _ aA (H.a A1)) (fun a vv w ⟨v7,hv1,S⟩ F=>?_));subst vv;have H:=H.r1 S n0;refine xJ ⟨⟨_,H⟩,?_⟩;exact H2 v7 _ _ (F.su) H _ (by kernel_rfl)
     refine xEs H (oG F rfl call160 rfl (spec_l00Own_c z1 c2 _ aA (H.a A1)) (fun a vv w ⟨v8,hv2,S⟩ F=>?_));subst vv;have H:=H.r1 S n0;refine xJ ⟨⟨_,H⟩,?_⟩;refine b_es [4,7] (by kernel_rfl) (by simp) ⟨⟨_,rfl,?_⟩,⟨_,rfl,?_⟩,trivial⟩
     ·
      refine xEs H (oB isAgg67 F rfl rfl (H.b 1 rfl) rfl fun a F=>xJ ⟨⟨_,H⟩,?_⟩);exact H2 v8 _ _ (F.su) H _ (by kernel_rfl)
     refine xEs H ?_;have H:=H.os;refine oR1L (R:=(vY 1 xH)) (y:=z1) underlying67 sizeOf30 zeroValue30 rfl rfl F rfl rfl H El.sl fun a w v9 H F=>xJ ⟨⟨_,H⟩,?_⟩;refine xE H 4 rfl (by kernel_rfl) (oB isAgg67 F rfl rfl (H.b 1 rfl) rfl fun a F=>xJ ⟨⟨_,H⟩,?_⟩);exact H1 v9 _ _ (F.su) H _ (by kernel_rfl)
    replace hR:=vR hb2 hR;refine xL (xF ?_);exact⟨x0_3,v0_3,(Option.some.inj hR).symm,F.su,H⟩
   intro a w ⟨s1,v2,ho1,F,H⟩;subst ho1;have hR:=xN hk1;refine xF (xT (oE (bodyPost_ret (results_none rfl _ _ _) F.d ?_)));obtain rfl:=Option.some.inj hR;exact⟨_,rfl,v2,rfl,H,(ck64 c1)⟩
  replace hR:=vR hb1 hR;refine xL (xF (xP (xA 1 F rfl fun a F=>xJ ?_)));obtain⟨o2,hR,hk2⟩:=xK hR;refine xW (fun a w=>∃ (s2:List (List Int)) (v10:Value) (s3:Int),o2= .nx (s2,s3)∧Sk a 83 [(0,.pointer (some ⟨b0',0,none⟩))]∧Sep X0 B w0 w [bx b0' [v0_0,v0_1,.int .i64 x0_2,v10,.int .i64 s3] 179,rl 1 (vY 1 xH) 30 v10 s2]∧xY s3) ?_ ?_
  ·
   refine xS ?_;obtain⟨fl1,hf1,hR⟩:=zI hR;refine oR (fun g a w=>∃ (k1:Nat) (s4:List (List Int)) (v11:Value) (s5:Int),k1+g=x0_0.size.toNat∧vQ fl1 g k1 (s4,s5)=some o2∧Sk a 83 [(4,.int .i64 (k1:Int)),(0,.pointer (some ⟨b0',0,none⟩)),(1,v1)]∧Sep X0 B w0 w [bx b0' [v0_0,v0_1,.int .i64 x0_2,v11,.int .i64 s5] 179,rl 1 (vY 1 xH) 30 v11 s4]∧xY s5) x0_0.size.toNat ?_ ?_
   ·
    exact⟨0,x0_3,v0_3,x0_4,(Nat.zero_add _),hR,F.su,H,hx0_4⟩
   intro g1 a w ⟨k1,s4,v11,s5,hd1,hR,F,H,i4⟩
   cases g1 with
   | zero=>
    replace hR:=vT hR;have l1:=kZ hd1;refine xC (xP (xA 2 F rfl fun a F=>o_nilCheck F rfl rfl fun a F=>oY fa179_0 F rfl rfl rfl fun a F=>oB isAgg51 F rfl rfl (H.b 0 rfl) rfl fun a F=>oN F rfl rfl Ax0_0 fun a F=>oF (s':=1) fa35_0 F rfl rfl Ax0_0 xG.f0 fun a p2 h2 F=>olI isAgg2 F rfl rfl H.sm h2 (fun a i5 F=>?_)));refine xA 1 F rfl fun a F=>xJ (qV F rfl l1 (oO (oQ (oQ (vJ (xF ?_))))));exact⟨s4,v11,s5,(Option.some.inj hR).symm,F.su,H,i4⟩
   | succ g1=>
    obtain⟨ck1,hR,hn1⟩:=vU hR;rw[hf1] at hR;have l1:=kE hd1;refine xC (xP (xA 2 F rfl fun a F=>o_nilCheck F rfl rfl fun a F=>oY fa179_0 F rfl rfl rfl fun a F=>oB isAgg51 F rfl rfl (H.b 0 rfl) rfl fun a F=>oN F rfl rfl Ax0_0 fun a F=>oF (s':=1) fa35_0 F rfl rfl Ax0_0 xG.f0 fun a p3 h3 F=>olI isAgg2 F rfl rfl H.sm h3 (fun a i6 F=>?_)));refine xA 1 F rfl fun a F=>xJ (qY F rfl l1 (xL (xF (xC ?_))));have j1:=k64I hd1 i6;have m1:=inc64I hd1 i6;refine xS (xC (xC ?_));obtain⟨o3,hR,hk3⟩:=xK hR;refine xW (fun a w=>∃ (s6:Bool),o3= .nx s6∧Sk a 83 [(0,.pointer (some ⟨b0',0,none⟩)),(1,v1),(4,.int .i64 (k1:Int)),(71,.bool s6)]∧Sep X0 B w0 w [bx b0' [v0_0,v0_1,.int .i64 x0_2,v11,.int .i64 s5] 179,rl 1 (vY 1 xH) 30 v11 s4]) ?_ ?_
    ·
     refine xQ H (by kernel_rfl) (by kernel_rfl) (xU F rfl (fun w l=>xM F rfl) fun a F=>xU F rfl (fun w l=>r_nilCheck F rfl) fun a F=>xU F rfl (fun w l=>zQ fa179_2 F rfl rfl) fun a F=>qB isAgg3 F rfl rfl (H.qb 0 rfl) rfl fun a F=>xU F rfl (fun w l=>r_gtr F rfl rfl) fun a F=>xU F rfl (fun w l=>xM F rfl) (fun a F=>?_))
     rcases vG (decide (0<x0_2)) with hb3 | hb3
     ·
      replace hR:=vS hb3 hR;have F:=F.eq (t:=60) rfl (congrArg Value.bool hb3);refine xU F rfl (fun w l=>xM F rfl) fun a F=>xU F rfl (fun w l=>r_nilCheck F rfl) fun a F=>xU F rfl (fun w l=>zQ fa179_3 F rfl rfl) fun a F=>qB isAgg67 F rfl rfl (H.qb 0 rfl) rfl fun a F=>qL underlying67 F rfl rfl (H.l 1 rfl) fun a i7 F=>xU F rfl (fun w l=>xM F rfl) fun a F=>xU F rfl (fun w l=>r_nilCheck F rfl) fun a F=>xU F rfl (fun w l=>zQ fa179_2 F rfl rfl) fun a F=>qB isAgg3 F rfl rfl (H.qb 0 rfl) rfl fun a F=>xU F rfl (fun w l=>r_eql F rfl rfl) fun a F=>xU F rfl (fun w l=>r_pickt F rfl rfl) (fun a F=>?_);refine kP fun w H=>xF ?_;exact⟨((s4.length:Int)==x0_2),(Option.some.inj hR).symm,F.su,H⟩
     replace hR:=vR hb3 hR;have F:=F.eq (t:=60) rfl (congrArg Value.bool hb3);refine qS F rfl rfl fun a F=>qS F rfl rfl fun a F=>qS F rfl rfl fun a F=>qS F rfl rfl fun a F=>qS F rfl rfl fun a F=>qS F rfl rfl fun a F=>qS F rfl rfl fun a F=>qS F rfl rfl fun a F=>qS F rfl rfl fun a F=>qS F rfl rfl fun a F=>xU F rfl (fun w l=>r_pickf F rfl rfl) (fun a F=>?_);refine kP fun w H=>xF ?_;exact⟨false,(Option.some.inj hR).symm,F.su,H⟩
    intro a w ⟨s6,ho2,F,H⟩;subst ho2;have hR:=xN hk3;refine xF (qT F rfl (fun hb4=>?_) (fun hb4=>?_))
    ·
     replace hR:=vS hb4 hR;refine xT (oE (vH (oE (oE ?_))));replace hR:=zS hR hn1;refine vH (oE ?_);replace hR:=zR hR hk2;refine bodyPost_ret (results_none rfl _ _ _) F.d ?_;obtain rfl:=Option.some.inj hR;exact⟨_,rfl,v11,rfl,H,i4⟩
    replace hR:=vR hb4 hR;refine xL (xF (xP (xA 1 F rfl fun a F=>?_)));obtain⟨z3,c4,hR⟩:=xB hR;refine oG F rfl call160 rfl (spec_l00Own_c z3 c4 _ aA (H.a A1)) (fun a vv w ⟨v12,hv3,S⟩ F=>?_);subst vv;have H:=H.r1 S n0;refine xA 1 F rfl fun a F=>oR1z (R:=xH) (y:=(k1:Int)) underlying30 sizeOf2 zeroValue2 rfl rfl F rfl rfl H (Eo.int j1) (fun a w v13 H F=>?_);obtain⟨z4,c5,hR⟩:=xB hR;refine oPL (sz:=1) (R:=xH) (z:=(.int .i64 0)) (bytes:=8) underlying30 (by kernel_rfl) rfl rfl F rfl rfl rfl (H.s [1,0,2,3] rfl rfl) c5 fun a w v14 H F=>xA 1 F rfl fun a F=>qU (xA 2 F rfl fun a F=>?_);obtain⟨z5,c6,hR⟩:=xB hR;refine oK F rfl call163 rfl H (spec_l05Find_sure_c z5 c6 _ aA (kD.b (H.g 1 rfl).bk (H.a Ax0_0) (H.a Ax0_1) hx0_2 (H.l 2 rfl) i4) (H.l 0 rfl)) fun a w H F=>xJ (qT F rfl (fun hb5=>?_) (fun hb5=>?_))
    ·
     replace hR:=vS hb5 hR;refine xR (xA 2 F rfl fun a F=>?_);obtain⟨w1,rfl⟩:∃ x,x=w:=⟨_,rfl⟩;have sm1:=H.sm;obtain⟨X1,N1,g2,e1,H,th1,ab1⟩:=H.fza;have h4:=g2.ld;obtain⟨z6,c7,hR⟩:=xB hR;obtain⟨X2,K1,bk1⟩:=Sep.lend (K:=[bx b0' [v0_0,v0_1,.int .i64 x0_2,v11,.int .i64 s5] 179,rl 1 (vY 1 xH) 30 v11 s4]) (L:=[]) H;refine oG F rfl call129 rfl (ih z6 c7 _ H.hN K1 (H.u (e1 Ax0_0)) (H.u (e1 Ax0_1)) hx0_2 i4 (H.u h4)) (fun a vv w ⟨v15,hv4,S,i8⟩ F=>?_);subst vv;have H:Sep X1 N1 w1 w [bx b0' [v0_0,v0_1,.int .i64 x0_2,v15,.int .i64 z6.2] 179,rl 1 (vY 1 xH) 30 v15 z6.1]:=bk1 S;refine qD (qW (xF (xR (xA 1 F rfl fun a F=>qR F rfl rfl rfl m1 fun a F=>xA 1 F rfl fun a F=>xJ ?_))));replace hR:=qZ hR hn1;exact⟨_,Nat.lt_succ_self _,k1+1,z6.1,v15,z6.2,(by omega),hR,F.su,((th1.1 H (Ns.all ⟨n0,⟨n0,trivial⟩⟩)).s [1,2] rfl rfl),i8⟩
    replace hR:=vR hb5 hR;refine xL (qW (xF (xR (xA 1 F rfl fun a F=>qR F rfl rfl rfl m1 fun a F=>xA 1 F rfl fun a F=>xJ ?_))));replace hR:=qZ hR hn1;exact⟨_,Nat.lt_succ_self _,k1+1,s4,v11,s5,(by omega),hR,F.su,(H.s [1,2] rfl rfl),i4⟩
  intro a w ⟨s2,v10,s3,ho3,F,H,i9⟩;subst ho3;have hR:=xN hk2;refine x_ends (bodyPost_ret (results_none rfl _ _ _) F.d ?_);obtain rfl:=Option.some.inj hR;exact⟨_,rfl,v10,rfl,H,i9⟩
theorem spec_l05Find_from_c {B:Nat→Prop} {N:Nat} {x0_0:Template} {x0_1:Instance} {x0_2:Int} {x0_3:List (List Int)} {x0_4:Int} {x1:List Int} (r:(List (List Int))×Int) (hR:kB N x0_0 x0_1 x0_2 x0_3 x0_4 x1=some r) {b0':Nat} {v0_0:Value} {v0_1:Value} {v0_3:Value} {v1:Value} {X0:List Nat} (w0:World) (hN:∀ c,B c→c<w0.heap.size) (S0:Sep X0 B w0 w0 [bx b0' [v0_0,v0_1,.int .i64 x0_2,v0_3,.int .i64 x0_4] 179,rl 1 (vY 1 xH) 30 v0_3 x0_3]) (Ax0_0:Bo B w0 (Pt 2 xG) v0_0 x0_0) (Ax0_1:Bo B w0 (Pt 2 xI) v0_1 x0_1) (hx0_2:xY x0_2) (hx0_4:xY x0_4) (A1:Bo B w0 (Sl 1 xH) v1 x1):Calls Tryz.prog 129 #[.pointer (some ⟨b0',0,none⟩),v1] w0 (Gv (fun v w'=>∃ (v1':Value),v= .tuple #[]∧Sep X0 B w0 w' [bx b0' [v0_0,v0_1,.int .i64 x0_2,v1',.int .i64 r.2] 179,rl 1 (vY 1 xH) 30 v1' r.1]∧xY r.2)):=
  spec_l05Find_from_cA N r hR w0 hN S0 Ax0_0 Ax0_1 hx0_2 hx0_4 A1
def spec_l05Solutions (N:Nat) (x0:Template) (x1:Instance) (x2:Int):Option (List (List Int)):=
 xX (kB N x0 x1 x2 ([]) 0 ([])) fun z1=>
 some z1.1
theorem spec_l05Solutions_c {B:Nat→Prop} {N:Nat} {x0:Template} {x1:Instance} {x2:Int} (r:(List (List Int))) (hR:spec_l05Solutions N x0 x1 x2=some r) {v0:Value} {v1:Value} (w0:World) (hN:∀ c,B c→c<w0.heap.size) (A0:Bo B w0 (Pt 2 xG) v0 x0) (A1:Bo B w0 (Pt 2 xI) v1 x1) (hx2:xY x2):Calls Tryz.prog 87 #[v0,v1,.int .i64 x2] w0 (Gv (fun v w'=>∃ (v1':Value),v=v1'∧Sep [] B w0 w' [rl 1 (vY 1 xH) 30 v1' r])):=by
 unfold spec_l05Solutions at hR
 refine xV (L:=[(0,v0),(1,v1),(2,.int .i64 x2)]) func87 rfl rfl rfl (sc rfl (sc rfl (sc rfl sn))) (fun a F=>?_);have H:=Sep.start hN;refine xP (xA 1 F rfl fun a F=>qU (xA 3 F rfl fun a F=>o_build underlying179 zeroValue179 (fun w=>by simp [sizeOf2,sizeOf3,sizeOf51,sizeOf52,sizeOf67];rfl) F rfl rfl rfl rfl rfl (oc (H.a A0).pone (oc (H.a A1).pone (oc rfl on))) rfl rfl (fun a F=>?_)));refine oX F rfl rfl rfl H fun a w b1 H F=>xA 1 F rfl fun a F=>qU (xA 1 F rfl fun a F=>oR0 (R:=xH) underlying30 sizeOf2 F rfl H (fun a w v2 H F=>?_));have H:=H.nl 1 (vY 1 xH) 30;obtain⟨w1,rfl⟩:∃ x,x=w:=⟨_,rfl⟩;have sm1:=H.sm;obtain⟨X1,N16,g1,e1,H,th1,ab1⟩:=(H.s [1,0,2] rfl rfl).fza;have h1:=g1.ld;obtain⟨z1,c1,hR⟩:=xB hR;obtain⟨X2,K1,bk1⟩:=Sep.lend (K:=[bx b1 [v0,v1,.int .i64 x2,(.slice none 0 0),.int .i64 0] 179,rl 1 (vY 1 xH) 30 (.slice none 0 0) ([])]) (L:=[]) (H.s [1,0] rfl rfl);refine oG F rfl call129 rfl (spec_l05Find_from_c z1 c1 _ H.hN K1 (H.u (e1 A0)) (H.u (e1 A1)) hx2 (show xY 0 by decide) (H.u h1)) (fun a vv w ⟨v3,hv32,S,i1⟩ F=>?_);subst vv;have H:Sep X1 N16 w1 w [bx b1 [v0,v1,.int .i64 x2,v3,.int .i64 z1.2] 179,rl 1 (vY 1 xH) 30 v3 z1.1]:=bk1 S;refine qU (xA 1 F rfl fun a F=>o_nilCheck F rfl rfl fun a F=>oY fa179_3 F rfl rfl rfl fun a F=>oB isAgg67 F rfl rfl (H.b 0 rfl) rfl fun a F=>xA 1 F rfl fun a F=>xJ ?_);refine xT ?_;have H:=(th1.1 H (Ns.all ⟨n0,⟨n0,trivial⟩⟩));refine xO F rfl (oD F rfl) ?_;obtain rfl:=Option.some.inj hR;exact⟨_,rfl,v3,rfl,(H.s [2] rfl rfl)⟩
def spec_l05Tells (x0:Template) (x1:Con) (x2:Int) (x3:Int) (x4:Int) (x5:Int):Option Bool:=
 vO (σ:=Bool) (
  xX (spec_l00Has x1.scope x2) fun z32=>
  if (!z32) then  xX (spec_l00Has x1.scope x3) fun z1=>
   some (.nx (!z1)) else  some (.nx false)) fun s1=>
 if s1 then
  some true
 else
  xX (ix x0.rels x1.rel) fun z2=>
  vO (σ:=Unit) (
   qK (σ:=Unit) (ρ:=Bool) (fun(k1:Nat) (x6:(List Int)) (s:Unit)=>
     match s with
     | _=>
     xX (spec_l05Whole x1 x6) fun z3=>
     vO (σ:=Bool) (
      qK (σ:=Bool) (ρ:=(Ctl (Unit) Bool)) (fun(k2:Nat) (x7:Int) (s2:Bool)=>
       vO (σ:=Bool) (
        if (x7==x2) then  xX (ix x6 (k2:Int)) fun z4=>
         if (z4 != x4) then  some (.nx true) else  if (x7==x3) then  some (.nx (z4 != x5)) else  some (.nx false) else  if (x7==x3) then  xX (ix x6 (k2:Int)) fun z5=>
          some (.nx (z5 != x5)) else  some (.nx false)) fun s3=>
       if s3 then
        some (.go false)
       else
        some (.go s2)) x1.scope 0 z3) fun s4=>
     if s4 then
      some (.ret true)
     else
      some (.go ())) z2.tuples 0 ()) fun _=>
  some false
theorem spec_l05Tells_c {B:Nat→Prop} {x0:Template} {x1:Con} {x2:Int} {x3:Int} {x4:Int} {x5:Int} (r:Bool) (hR:spec_l05Tells x0 x1 x2 x3 x4 x5=some r) {v0:Value} {v1:Value} (w0:World) (hN:∀ c,B c→c<w0.heap.size) (A0:Bo B w0 (Pt 2 xG) v0 x0) (A1:Bo B w0 (Pt 2 qX) v1 x1) (hx2:xY x2) (hx3:xY x3) (hx4:xY x4) (hx5:xY x5):Calls Tryz.prog 130 #[v0,v1,.int .i64 x2,.int .i64 x3,.int .i64 x4,.int .i64 x5] w0 (vV (.bool r) w0):=by
 unfold spec_l05Tells at hR
 refine xV (L:=[(0,v0),(1,v1),(2,.int .i64 x2),(3,.int .i64 x3),(4,.int .i64 x4),(5,.int .i64 x5)]) func130 rfl rfl rfl (sc rfl (sc rfl (sc rfl (sc rfl (sc rfl (sc rfl sn)))))) (fun a F=>?_);have H:=Sep.start hN;refine xP (xA 1 F rfl fun a F=>xJ (xC (xC ?_)));obtain⟨o1,hR,hk1⟩:=xK hR;refine xW (fun a w=>∃ (s1:Bool),o1= .nx s1∧Sk a 118 [(0,v0),(1,v1),(2,.int .i64 x2),(3,.int .i64 x3),(4,.int .i64 x4),(5,.int .i64 x5),(32,.bool s1)]∧Sep [] B w0 w []) ?_ ?_
 ·
  refine xR (xA 1 F rfl fun a F=>oN F rfl rfl A1 fun a F=>oF (s':=1) kV F rfl rfl A1 qX.f1 fun a p1 h1 F=>olS isAgg30 F rfl rfl H.sm h1 fun a v2 h2 F=>xA 1 F rfl fun a F=>?_);obtain⟨z32,c1,hR⟩:=xB hR;refine oK F rfl call164 rfl H (spec_l00Has_c z32 c1 _ aA (H.a h2) hx2) fun a w H F=>xA 2 F rfl fun a F=>?_
  rcases vG (!z32) with hb1 | hb1
  ·
   replace hR:=vS hb1 hR;have F:=F.eq (t:=24) rfl (congrArg Value.bool hb1);refine xA 1 F rfl fun a F=>oN F rfl rfl A1 fun a F=>oF (s':=1) kV F rfl rfl A1 qX.f1 fun a p2 h3 F=>olS isAgg30 F rfl rfl H.sm h3 fun a v3 h4 F=>xA 1 F rfl fun a F=>?_;obtain⟨z1,c2,hR⟩:=xB hR;refine oK F rfl call164 rfl H (spec_l00Has_c z1 c2 _ aA (H.a h4) hx3) fun a w H F=>xA 2 F rfl fun a F=>xJ ?_;exact⟨(!z1),(Option.some.inj hR).symm,F.su,H⟩
  replace hR:=vR hb1 hR;have F:=F.eq (t:=24) rfl (congrArg Value.bool hb1);refine xA 8 F rfl fun a F=>xJ ?_;exact⟨false,(Option.some.inj hR).symm,F.su,H⟩
 intro a w ⟨s1,ho1,F,H⟩;subst ho1;have hR:=xN hk1;refine xF (qT F rfl (fun hb2=>?_) (fun hb2=>?_))
 ·
  replace hR:=vS hb2 hR;refine xP (xA 1 F rfl fun a F=>xJ (xT (oE (xO F rfl (oD F rfl) ?_))));obtain rfl:=Option.some.inj hR;exact⟨rfl,H.bl⟩
 replace hR:=vR hb2 hR;refine xL (xF (xC (xQ H (by kernel_rfl) (by kernel_rfl) (xU F rfl (fun w l=>xM F rfl) fun a F=>qN F rfl rfl A0 fun a F=>qF (s':=1) fa35_1 F rfl rfl A0 xG.f1 fun a p3 h5 F=>qlS isAgg33 F rfl rfl H.q h5 fun a v4 h6 F=>xU F rfl (fun w l=>xM F rfl) fun a F=>qN F rfl rfl A1 fun a F=>qF (s':=1) fa85_0 F rfl rfl A1 qX.f0 (fun a p4 h7 F=>?_)))));refine qlI isAgg2 F rfl rfl H.q h7 (fun a i1 F=>?_);obtain⟨z2,c3,hR⟩:=xB hR;refine qI underlying33 sizeOf69 F rfl rfl rfl h6 c3 fun a p5 h8 F=>xU F rfl (fun w l=>kL F rfl) fun a F=>kP fun w H=>xF (xC (xP (xA 1 F rfl fun a F=>xJ ?_)));obtain⟨o2,hR,hk2⟩:=xK hR;refine xW (fun a w=>o2= .nx ()∧Sk a 118 []∧Sep [] B w0 w []) ?_ ?_
 ·
  refine xS ?_;obtain⟨fl1,hf1,hR⟩:=qE hR;refine oR (fun g a w=>∃ (k1:Nat) (t1:List (List Int)),(k1≤z2.tuples.length∧z2.tuples.drop k1=t1)∧t1.length=g∧qK fl1 t1 k1 ()=some o2∧Sk a 118 [(14,.int .i64 (k1:Int)),(1,v1),(2,.int .i64 x2),(3,.int .i64 x3),(4,.int .i64 x4),(5,.int .i64 x5),(13,p5)]∧Sep [] B w0 w []) z2.tuples.length ?_ ?_
  ·
   exact⟨0,z2.tuples,⟨Nat.zero_le _,rfl⟩,rfl,hR,F.su,H⟩
  intro g1 a w ⟨k1,t1,hd1,hg1,hR,F,H⟩
  cases t1 with
  | nil=>
   replace hR:=qG hR;have q1:=qH hd1.1 hd1.2;have l1:=vA q1;refine xC (xP (xA 2 F rfl fun a F=>oN F rfl rfl h8 fun a F=>oF (s':=1) vX F rfl rfl h8 oM.f1 fun a p6 h9 F=>olS isAgg67 F rfl rfl H.sm h9 fun a v5 h10 F=>oL underlying67 F rfl rfl h10 fun a i2 F=>xA 1 F rfl fun a F=>qD ?_));refine xF (qV F rfl l1 (oO (oQ (oQ (vJ (xF ?_))))));exact⟨(Option.some.inj hR).symm,F.sub sn,H⟩
  | cons x6 t1=>
   subst hg1;replace hd1:=oH hd1.2;have y1:=oV hd1.2.1;obtain⟨ck1,hR,hn1⟩:=oU hR;rw[hf1] at hR;have l1:=qP hd1.1;refine xC (xP (xA 2 F rfl fun a F=>oN F rfl rfl h8 fun a F=>oF (s':=1) vX F rfl rfl h8 oM.f1 fun a p7 h11 F=>olS isAgg67 F rfl rfl H.sm h11 fun a v6 h12 F=>oL underlying67 F rfl rfl h12 fun a i3 F=>xA 1 F rfl fun a F=>qD ?_));refine xF (qY F rfl l1 (xL (xF (xC ?_))));have j1:=k64 (Nat.le_of_lt hd1.1) i3;have m1:=zA hd1.1 i3;refine xS (xP (xA 2 F rfl fun a F=>oN F rfl rfl h8 fun a F=>oF (s':=1) vX F rfl rfl h8 oM.f1 fun a p8 h13 F=>olS isAgg67 F rfl rfl H.sm h13 fun a v7 h14 F=>xA 1 F rfl fun a F=>oI underlying67 sizeOf30 F rfl rfl rfl h14 y1 fun a p9 h15 F=>olS isAgg30 F rfl rfl H.sm h15 (fun a v8 h16 F=>?_)));obtain⟨z3,c4,hR⟩:=xB hR;refine oK F rfl call165 rfl H (spec_l05Whole_c z3 c4 _ aA (H.a A1) (H.a h16)) fun a w H F=>xA 1 F rfl fun a F=>xJ (xC (xP (xA 1 F rfl fun a F=>xJ ?_)));obtain⟨o3,hR,hk3⟩:=xK hR;refine xW (fun a w=>∃ (s2:Bool),o3= .nx s2∧Sk a 118 [(1,v1),(2,.int .i64 x2),(3,.int .i64 x3),(4,.int .i64 x4),(5,.int .i64 x5),(13,p5),(14,.int .i64 (k1:Int)),(15,.bool s2)]∧Sep [] B w0 w []) ?_ ?_
   ·
    refine xS ?_;obtain⟨fl2,hf2,hR⟩:=qE hR;refine oR (fun g a w=>∃ (k2:Nat) (t2:List Int) (s3:Bool),(k2≤x1.scope.length∧x1.scope.drop k2=t2)∧t2.length=g∧qK fl2 t2 k2 s3=some o3∧Sk a 118 [(16,.int .i64 (k2:Int)),(1,v1),(2,.int .i64 x2),(3,.int .i64 x3),(4,.int .i64 x4),(5,.int .i64 x5),(13,p5),(14,.int .i64 (k1:Int)),(15,.bool s3)]∧Sep [] B w0 w []) x1.scope.length ?_ ?_
    ·
     exact⟨0,x1.scope,z3,⟨Nat.zero_le _,rfl⟩,rfl,hR,F.su,H⟩
    intro g2 a w ⟨k2,t2,s3,hd2,hg2,hR,F,H⟩
    cases t2 with
    | nil=>
     replace hR:=qG hR;have q2:=qH hd2.1 hd2.2;have l2:=vA q2;refine xC (xP (xA 2 F rfl fun a F=>oN F rfl rfl A1 fun a F=>oF (s':=1) kV F rfl rfl A1 qX.f1 fun a p10 h17 F=>olS isAgg30 F rfl rfl H.sm h17 fun a v9 h18 F=>oL underlying30 F rfl rfl h18 fun a i4 F=>xA 1 F rfl fun a F=>qD ?_));refine xF (qV F rfl l2 (oO (oQ (oQ (vJ (xF ?_))))));exact⟨s3,(Option.some.inj hR).symm,F.su,H⟩
    | cons x7 t2=>
     subst hg2;replace hd2:=oH hd2.2;have y2:=oV hd2.2.1;obtain⟨ck2,hR,hn2⟩:=oU hR;rw[hf2] at hR;have l2:=qP hd2.1;refine xC (xP (xA 2 F rfl fun a F=>oN F rfl rfl A1 fun a F=>oF (s':=1) kV F rfl rfl A1 qX.f1 fun a p11 h19 F=>olS isAgg30 F rfl rfl H.sm h19 fun a v10 h20 F=>oL underlying30 F rfl rfl h20 fun a i5 F=>xA 1 F rfl fun a F=>qD ?_));refine xF (qY F rfl l2 (xL (xF (xC ?_))));have j2:=k64 (Nat.le_of_lt hd2.1) i5;have m2:=zA hd2.1 i5;refine xS (xC ?_);obtain⟨o4,hR,hk4⟩:=xK hR;refine xW (fun a w=>∃ (s4:Bool),o4= .nx s4∧Sk a 118 [(1,v1),(2,.int .i64 x2),(3,.int .i64 x3),(4,.int .i64 x4),(5,.int .i64 x5),(13,p5),(14,.int .i64 (k1:Int)),(15,.bool s3),(16,.int .i64 (k2:Int)),(116,.bool s4)]∧Sep [] B w0 w []) ?_ ?_
     ·
      refine xR (xA 1 F rfl fun a F=>oN F rfl rfl A1 fun a F=>oF (s':=1) kV F rfl rfl A1 qX.f1 fun a p12 h21 F=>olS isAgg30 F rfl rfl H.sm h21 fun a v11 h22 F=>xA 1 F rfl fun a F=>oI underlying30 sizeOf2 F rfl rfl rfl h22 y2 fun a p13 h23 F=>olI isAgg2 F rfl rfl H.sm h23 fun a i6 F=>xA 3 F rfl fun a F=>?_)
      rcases vG (x7==x2) with hb3 | hb3
      ·
       replace hR:=vS hb3 hR;have F:=F.eq (t:=78) rfl (congrArg Value.bool hb3);refine xA 1 F rfl fun a F=>oN F rfl rfl h8 fun a F=>oF (s':=1) vX F rfl rfl h8 oM.f1 fun a p14 h24 F=>olS isAgg67 F rfl rfl H.sm h24 fun a v12 h25 F=>xA 1 F rfl fun a F=>oI underlying67 sizeOf30 F rfl rfl rfl h25 y1 fun a p15 h26 F=>olS isAgg30 F rfl rfl H.sm h26 fun a v13 h27 F=>xA 1 F rfl fun a F=>?_;obtain⟨z4,c5,hR⟩:=xB hR;refine oI underlying30 sizeOf2 F rfl rfl rfl h27 c5 fun a p16 h28 F=>olI isAgg2 F rfl rfl H.sm h28 fun a i7 F=>xA 4 F rfl fun a F=>?_
       rcases vG (z4 != x4) with hb4 | hb4
       ·
        replace hR:=vS hb4 hR;have F:=F.eq (t:=92) rfl (congrArg Value.bool hb4);refine xA 11 F rfl fun a F=>?_;refine xA 11 F rfl fun a F=>?_;refine xA 2 F rfl fun a F=>xJ ?_;exact⟨true,(Option.some.inj hR).symm,F.su,H⟩
       replace hR:=vR hb4 hR;have F:=F.eq (t:=92) rfl (congrArg Value.bool hb4);refine xA 1 F rfl fun a F=>oN F rfl rfl A1 fun a F=>oF (s':=1) kV F rfl rfl A1 qX.f1 fun a p17 h30 F=>olS isAgg30 F rfl rfl H.sm h30 fun a v14 h32 F=>xA 1 F rfl fun a F=>oI underlying30 sizeOf2 F rfl rfl rfl h32 y2 fun a p18 h33 F=>olI isAgg2 F rfl rfl H.sm h33 fun a i8 F=>xA 3 F rfl fun a F=>?_
       rcases vG (x7==x3) with hb5 | hb5
       ·
        replace hR:=vS hb5 hR;have F:=F.eq (t:=102) rfl (congrArg Value.bool hb5);refine xA 1 F rfl fun a F=>oN F rfl rfl h8 fun a F=>oF (s':=1) vX F rfl rfl h8 oM.f1 fun a p19 h34 F=>olS isAgg67 F rfl rfl H.sm h34 fun a v15 h35 F=>xA 1 F rfl fun a F=>oI underlying67 sizeOf30 F rfl rfl rfl h35 y1 fun a p20 h37 F=>olS isAgg30 F rfl rfl H.sm h37 fun a v16 h39 F=>xA 1 F rfl fun a F=>oI underlying30 sizeOf2 F rfl rfl rfl h39 c5 fun a p21 h40 F=>olI isAgg2 F rfl rfl H.sm h40 fun a i9 F=>xA 1 F rfl fun a F=>?_;refine xA 3 F rfl fun a F=>xJ ?_;exact⟨(z4 != x5),(Option.some.inj hR).symm,F.su,H⟩
       replace hR:=vR hb5 hR;have F:=F.eq (t:=102) rfl (congrArg Value.bool hb5);refine xA 11 F rfl fun a F=>?_;refine xA 3 F rfl fun a F=>xJ ?_;exact⟨false,(Option.some.inj hR).symm,F.su,H⟩
      replace hR:=vR hb3 hR;have F:=F.eq (t:=78) rfl (congrArg Value.bool hb3);refine xA 11 F rfl fun a F=>?_;refine xA 4 F rfl fun a F=>oN F rfl rfl A1 fun a F=>oF (s':=1) kV F rfl rfl A1 qX.f1 fun a p22 h41 F=>olS isAgg30 F rfl rfl H.sm h41 fun a v17 h42 F=>xA 1 F rfl fun a F=>oI underlying30 sizeOf2 F rfl rfl rfl h42 y2 fun a p23 h44 F=>olI isAgg2 F rfl rfl H.sm h44 fun a i10 F=>xA 1 F rfl fun a F=>?_;refine xA 2 F rfl fun a F=>?_
      rcases vG (x7==x3) with hb6 | hb6
      ·
       replace hR:=vS hb6 hR;have F:=F.eq (t:=102) rfl (congrArg Value.bool hb6);refine xA 1 F rfl fun a F=>oN F rfl rfl h8 fun a F=>oF (s':=1) vX F rfl rfl h8 oM.f1 fun a p24 h46 F=>olS isAgg67 F rfl rfl H.sm h46 fun a v18 h48 F=>xA 1 F rfl fun a F=>oI underlying67 sizeOf30 F rfl rfl rfl h48 y1 fun a p25 h49 F=>olS isAgg30 F rfl rfl H.sm h49 fun a v19 h50 F=>xA 1 F rfl fun a F=>?_;obtain⟨z5,c6,hR⟩:=xB hR;refine oI underlying30 sizeOf2 F rfl rfl rfl h50 c6 fun a p26 h51 F=>olI isAgg2 F rfl rfl H.sm h51 fun a i11 F=>xA 4 F rfl fun a F=>xJ ?_;exact⟨(z5 != x5),(Option.some.inj hR).symm,F.su,H⟩
      replace hR:=vR hb6 hR;have F:=F.eq (t:=102) rfl (congrArg Value.bool hb6);refine xA 11 F rfl fun a F=>?_;refine xA 3 F rfl fun a F=>xJ ?_;exact⟨false,(Option.some.inj hR).symm,F.su,H⟩
     intro a w ⟨s4,ho2,F,H⟩;subst ho2;have hR:=xN hk4;refine xF (qT F rfl (fun hb7=>?_) (fun hb7=>?_))
     ·
      replace hR:=vS hb7 hR;refine xR (xA 1 F rfl fun a F=>qD (qW (xF (xR (xA 1 F rfl fun a F=>qR F rfl rfl rfl m2 fun a F=>xA 1 F rfl fun a F=>xJ ?_)))));replace hR:=qZ hR hn2;exact⟨_,Nat.lt_succ_self _,k2+1,t2,false,⟨hd2.1,hd2.2.2⟩,rfl,hR,F.su,H⟩
     replace hR:=vR hb7 hR;refine xL (qW (xF (xR (xA 1 F rfl fun a F=>qR F rfl rfl rfl m2 fun a F=>xA 1 F rfl fun a F=>xJ ?_))));replace hR:=qZ hR hn2;exact⟨_,Nat.lt_succ_self _,k2+1,t2,s3,⟨hd2.1,hd2.2.2⟩,rfl,hR,F.su,H⟩
   intro a w ⟨s2,ho3,F,H⟩;subst ho3;have hR:=xN hk3;refine xF (xP (xA 1 F rfl fun a F=>xJ (qT F rfl (fun hb8=>?_) (fun hb8=>?_))))
   ·
    replace hR:=vS hb8 hR;refine xP (xA 1 F rfl fun a F=>xJ (xT (vH (oE (oE ?_)))));replace hR:=zS hR hn1;refine vH (oE ?_);replace hR:=zR hR hk2;refine oE (xO F rfl (oD F rfl) ?_);obtain rfl:=Option.some.inj hR;exact⟨rfl,H.bl⟩
   replace hR:=vR hb8 hR;refine xL (qW (xF (xR (xA 1 F rfl fun a F=>qR F rfl rfl rfl m1 fun a F=>xA 1 F rfl fun a F=>xJ ?_))));replace hR:=qZ hR hn1;exact⟨_,Nat.lt_succ_self _,k1+1,t1,⟨hd1.1,hd1.2.2⟩,rfl,hR,F.su,H⟩
 intro a w ⟨ho4,F,H⟩;subst ho4;have hR:=xN hk2;refine xF (xP (xA 1 F rfl fun a F=>xJ (xT (xO F rfl (oD F rfl) ?_))));obtain rfl:=Option.some.inj hR;exact⟨rfl,H.bl⟩
def spec_l05First (N:Nat) (x0:Template) (x1:Instance):Option (List Rel):=
 vO (σ:=(List Rel)) (
  vQ (σ:=(List Rel)) (ρ:=(List Rel)) (fun(k1:Nat) (s1:(List Rel))=>
   vO (σ:=(List Rel)) (
    vQ (σ:=(List Rel)) (ρ:=(Ctl ((List Rel)) (List Rel))) (fun(k2:Nat) (s2:(List Rel))=>
     vO (σ:=Int×(List (List Int))) (
      whl (σ:=Int×(List (List Int))) (ρ:=(Ctl ((List Rel)) (Ctl ((List Rel)) (List Rel)))) (fun(s:Int×(List (List Int)))=>
        match s with
        | (s3,s4)=>
        xX (ck (x0.size*x0.size)) fun z1=>
        if (decide (s3<z1)) then
         xX (dv s3 x0.size) fun z2=>
         xX (rm s3 x0.size) fun z3=>
         vO (σ:=Bool×Int) (
          whl (σ:=Bool×Int) (ρ:=(Ctl (Int×(List (List Int))) (Ctl ((List Rel)) (Ctl ((List Rel)) (List Rel))))) (fun(s:Bool×Int)=>
            match s with
            | (s5,s6)=>
            vO (σ:=Bool) (
             if (decide (s6<(x1.cons.length:Int))) then  some (.nx s5) else  some (.nx false)) fun s7=>
            if s7 then
             xX (ix x1.cons s6) fun z4=>
             xX (spec_l05Tells x0 z4 (k2:Int) (1+(k1:Int)) z2 z3) fun z5=>
             xX (ck (s6+1)) fun z6=>
             some (.go (z5,z6))
            else
             some (.brk (s5,s6))) N (true,0)) fun(s8,s9)=>
         if s8 then
          xX (ap s4 ([[z2,z3]])) fun z7=>
          xX (ck (s3+1)) fun z8=>
          some (.go (z8,z7))
         else
          xX (ck (s3+1)) fun z9=>
          some (.go (z9,s4))
        else
         some (.brk (s3,s4))) N (0,[])) fun(s10,s11)=>
     xX (ap s2 ([(Rel.mk 2 s11)])) fun z10=>
     some (.go z10)) (1+(k1:Int)).toNat 0 s1) fun s12=>
   some (.go s12)) (x1.vars - 1).toNat 0 []) fun s13=>
 some s13
theorem spec_l05First_c {B:Nat→Prop} {N:Nat} {x0:Template} {x1:Instance} (r:(List Rel)) (hR:spec_l05First N x0 x1=some r) {v0:Value} {v1:Value} (w0:World) (hN:∀ c,B c→c<w0.heap.size) (A0:Bo B w0 (Pt 2 xG) v0 x0) (A1:Bo B w0 (Pt 2 xI) v1 x1):Calls Tryz.prog 88 #[v0,v1] w0 (Gv (fun v w'=>∃ (v1':Value),v=v1'∧Sep [] B w0 w' [rl 2 oM 69 v1' r])):=by
 unfold spec_l05First at hR
 refine xV (L:=[(0,v0),(1,v1)]) func88 rfl rfl rfl (sc rfl (sc rfl sn)) (fun a F=>?_);have H:=Sep.start hN;refine xP (xA 1 F rfl fun a F=>qU (oR0 (R:=oM) underlying33 sizeOf69 F rfl H fun a w v2 H F=>xA 1 F rfl fun a F=>xJ ?_));refine xC (xP (xA 1 F rfl fun a F=>xJ ?_));obtain⟨o1,hR,hk1⟩:=xK hR;refine xW (fun a w=>∃ (s1:List Rel) (v3:Value),o1= .nx s1∧Sk a 92 [(5,v3)]∧Sep [] B w0 w [rl 2 oM 69 v3 s1]) ?_ ?_
 ·
  refine xS ?_;obtain⟨fl1,hf1,hR⟩:=zI hR;refine oR (fun g a w=>∃ (k1:Nat) (s2:List Rel) (v4:Value),k1+g=(x1.vars - 1).toNat∧vQ fl1 g k1 s2=some o1∧Sk a 92 [(6,.int .i64 (1+(k1:Int))),(0,v0),(1,v1),(5,v4)]∧Sep [] B w0 w [rl 2 oM 69 v4 s2]) (x1.vars - 1).toNat ?_ ?_
  ·
   exact⟨0,[],v2,(Nat.zero_add _),hR,F.su,H⟩
  intro g1 a w ⟨k1,s2,v4,hd1,hR,F,H⟩
  cases g1 with
  | zero=>
   replace hR:=vT hR;have l1:=dec_noIO hd1;refine xC (xP (xA 2 F rfl fun a F=>oN F rfl rfl A1 fun a F=>oF (s':=1) zY F rfl rfl A1 xI.f0 fun a p1 h1 F=>olI isAgg2 F rfl rfl H.sm h1 fun a i1 F=>xA 1 F rfl fun a F=>xJ ?_));refine qV F rfl l1 (oO (oQ (oQ (vJ (xF ?_)))));exact⟨s2,v4,(Option.some.inj hR).symm,F.su,H⟩
  | succ g1=>
   obtain⟨ck1,hR,hn1⟩:=vU hR;rw[hf1] at hR;have l1:=dec_yesIO hd1;refine xC (xP (xA 2 F rfl fun a F=>oN F rfl rfl A1 fun a F=>oF (s':=1) zY F rfl rfl A1 xI.f0 fun a p2 h2 F=>olI isAgg2 F rfl rfl H.sm h2 fun a i2 F=>xA 1 F rfl fun a F=>xJ ?_));refine qY F rfl l1 (xL (xF (xC ?_)));have j1:=k64O hd1 (show xY (1) by decide) i2;have m1:=inc64O hd1 (show xY (1) by decide) i2;refine xS (xP (xA 1 F rfl fun a F=>xJ ?_));obtain⟨o2,hR,hk2⟩:=xK hR;refine xW (fun a w=>∃ (s3:List Rel) (v5:Value),o2= .nx s3∧Sk a 92 [(0,v0),(1,v1),(5,v5),(6,.int .i64 (1+(k1:Int)))]∧Sep [] B w0 w [rl 2 oM 69 v5 s3]) ?_ ?_
   ·
    refine xS ?_;obtain⟨fl2,hf2,hR⟩:=zI hR;refine oR (fun g a w=>∃ (k2:Nat) (s4:List Rel) (v6:Value),k2+g=(1+(k1:Int)).toNat∧vQ fl2 g k2 s4=some o2∧Sk a 92 [(7,.int .i64 (k2:Int)),(0,v0),(1,v1),(5,v6),(6,.int .i64 (1+(k1:Int)))]∧Sep [] B w0 w [rl 2 oM 69 v6 s4]) (1+(k1:Int)).toNat ?_ ?_
    ·
     exact⟨0,s2,v4,(Nat.zero_add _),hR,F.su,H⟩
    intro g2 a w ⟨k2,s4,v6,hd2,hR,F,H⟩
    cases g2 with
    | zero=>
     replace hR:=vT hR;have l2:=kZ hd2;refine xC (xP (xA 3 F rfl fun a F=>xJ (qV F rfl l2 (oO (oQ ?_)))));refine oQ (vJ (xF ?_));exact⟨s4,v6,(Option.some.inj hR).symm,F.su,H⟩
    | succ g2=>
     obtain⟨ck2,hR,hn2⟩:=vU hR;rw[hf2] at hR;have l2:=kE hd2;refine xC (xP (xA 3 F rfl fun a F=>xJ (qY F rfl l2 (xL (xF ?_)))));refine xC ?_;have j2:=k64I hd2 j1;have m2:=inc64I hd2 j1;refine xS (xP (o_build underlying69 zeroValue69 (fun w=>by simp [sizeOf2,sizeOf67];rfl) F rfl rfl rfl rfl rfl (oc rfl on) rfl rfl fun a F=>oA zeroValue69 F rfl rfl H fun a w b1 H F=>oWA (vs:=[.int .i64 2,(.slice none 0 0)]) sizeOf69 F rfl rfl rfl H (oc rfl (oc rfl on)) rfl rfl fun w H=>xJ (xC (xP ?_))));refine xA 1 F rfl fun a F=>xJ ?_;obtain⟨o3,hR,hk3⟩:=xK hR;refine xW (fun a w=>∃ (s5:Int) (s6:List (List Int)) (v7:Value),o3= .nx (s5,s6)∧Sk a 92 [(0,v0),(1,v1),(5,v6),(6,.int .i64 (1+(k1:Int))),(7,.int .i64 (k2:Int)),(8,.pointer (some ⟨b1,0,none⟩))]∧Sep [] B w0 w [rl 1 (vY 1 xH) 30 v7 s6,bx b1 [.int .i64 2,v7] 69,rl 2 oM 69 v6 s4]∧xY s5) ?_ ?_
     ·
      refine xS ?_;obtain⟨fl3,hf3,hR⟩:=whl_gen hR;refine oR (fun g a w=>∃ (s7:Int) (s8:List (List Int)) (v8:Value),whl fl3 g (s7,s8)=some o3∧Sk a 92 [(0,v0),(1,v1),(5,v6),(6,.int .i64 (1+(k1:Int))),(7,.int .i64 (k2:Int)),(8,.pointer (some ⟨b1,0,none⟩)),(9,.int .i64 s7)]∧Sep [] B w0 w [rl 1 (vY 1 xH) 30 v8 s8,bx b1 [.int .i64 2,v8] 69,rl 2 oM 69 v6 s4]∧xY s7) N ?_ ?_
      ·
       exact⟨0,[],(.slice none 0 0),hR,F.su,(H.nl 1 (vY 1 xH) 30),(show xY (0) by decide)⟩
      intro g3 a w ⟨s7,s8,v8,hR,F,H,i3⟩;obtain⟨ck3,t1,hg1,hR,hn3⟩:=zU hR;rw[hf3] at hR;refine xC (xC (xQ H (by kernel_rfl) (by kernel_rfl) (xU F rfl (fun w l=>xM F rfl) fun a F=>xU F rfl (fun w l=>xM F rfl) fun a F=>qN F rfl rfl A0 fun a F=>qF (s':=1) fa35_0 F rfl rfl A0 xG.f0 fun a p3 h3 F=>qlI isAgg2 F rfl rfl H.q h3 fun a i4 F=>xU F rfl (fun w l=>xM F rfl) fun a F=>qN F rfl rfl A0 fun a F=>qF (s':=1) fa35_0 F rfl rfl A0 xG.f0 (fun a p4 h4 F=>?_))));refine qlI isAgg2 F rfl rfl H.q h4 (fun a i5 F=>?_);obtain⟨z1,c1,hR⟩:=xB hR;refine xU F rfl (fun w l=>r_mul F rfl rfl c1) fun a F=>xU F rfl (fun w l=>r_lss F rfl rfl) fun a F=>kP fun w H=>xF (qT F rfl (fun hb1=>?_) (fun hb1=>?_))
      ·
       replace hR:=vS hb1 hR;refine xL (xF (xC (xS (xP (xA 2 F rfl fun a F=>oN F rfl rfl A0 fun a F=>oF (s':=1) fa35_0 F rfl rfl A0 xG.f0 fun a p5 h5 F=>olI isAgg2 F rfl rfl H.sm h5 (fun a i6 F=>?_))))));obtain⟨z2,c2,hR⟩:=xB hR;refine o_quo F rfl rfl rfl c2 fun a F=>xA 1 F rfl fun a F=>qU (xA 2 F rfl fun a F=>oN F rfl rfl A0 fun a F=>oF (s':=1) fa35_0 F rfl rfl A0 xG.f0 fun a p6 h6 F=>olI isAgg2 F rfl rfl H.sm h6 (fun a i7 F=>?_));obtain⟨z3,c3,hR⟩:=xB hR;refine o_rem F rfl rfl rfl c3 fun a F=>xA 1 F rfl fun a F=>qU (xA 1 F rfl fun a F=>xJ (xC (xC ?_)));refine xR (xA 1 F rfl fun a F=>xJ ?_);obtain⟨o4,hR,hk4⟩:=xK hR;refine xW (fun a w=>∃ (s9:Bool) (s10:Int),o4= .nx (s9,s10)∧Sk a 92 [(0,v0),(1,v1),(5,v6),(6,.int .i64 (1+(k1:Int))),(7,.int .i64 (k2:Int)),(8,.pointer (some ⟨b1,0,none⟩)),(9,.int .i64 s7),(10,.int .i64 z2),(11,.int .i64 z3),(12,.bool s9)]∧Sep [] B w0 w [rl 1 (vY 1 xH) 30 v8 s8,bx b1 [.int .i64 2,v8] 69,rl 2 oM 69 v6 s4]∧xY s10) ?_ ?_
       ·
        refine xS ?_;obtain⟨fl4,hf4,hR⟩:=whl_gen hR;refine oR (fun g a w=>∃ (s11:Bool) (s12:Int),whl fl4 g (s11,s12)=some o4∧Sk a 92 [(0,v0),(1,v1),(5,v6),(6,.int .i64 (1+(k1:Int))),(7,.int .i64 (k2:Int)),(8,.pointer (some ⟨b1,0,none⟩)),(9,.int .i64 s7),(10,.int .i64 z2),(11,.int .i64 z3),(12,.bool s11),(13,.int .i64 s12)]∧Sep [] B w0 w [rl 1 (vY 1 xH) 30 v8 s8,bx b1 [.int .i64 2,v8] 69,rl 2 oM 69 v6 s4]∧xY s12) N ?_ ?_
        ·
         exact⟨true,0,hR,F.su,H,(show xY (0) by decide)⟩
        intro g4 a w ⟨s11,s12,hR,F,H,i8⟩;obtain⟨ck4,t2,hg2,hR,hn4⟩:=zU hR;rw[hf4] at hR;refine xC (xC ?_);obtain⟨o5,hR,hk5⟩:=xK hR;refine xW (fun a w=>∃ (s13:Bool),o5= .nx s13∧Sk a 92 [(0,v0),(1,v1),(5,v6),(6,.int .i64 (1+(k1:Int))),(7,.int .i64 (k2:Int)),(8,.pointer (some ⟨b1,0,none⟩)),(9,.int .i64 s7),(10,.int .i64 z2),(11,.int .i64 z3),(12,.bool s11),(13,.int .i64 s12),(63,.bool s13)]∧Sep [] B w0 w [rl 1 (vY 1 xH) 30 v8 s8,bx b1 [.int .i64 2,v8] 69,rl 2 oM 69 v6 s4]) ?_ ?_
        ·
         refine xR (xA 2 F rfl fun a F=>oN F rfl rfl A1 fun a F=>oF (s':=1) fa39_1 F rfl rfl A1 xI.f1 fun a p7 h7 F=>olS isAgg37 F rfl rfl H.sm h7 fun a v9 h8 F=>oL underlying37 F rfl rfl h8 fun a i9 F=>xA 2 F rfl fun a F=>?_)
         rcases vG (decide (s12<(x1.cons.length:Int))) with hb2 | hb2
         ·
          replace hR:=vS hb2 hR;have F:=F.eq (t:=61) rfl (congrArg Value.bool hb2);refine xA 2 F rfl fun a F=>xJ ?_;exact⟨s11,(Option.some.inj hR).symm,F.su,H⟩
         replace hR:=vR hb2 hR;have F:=F.eq (t:=61) rfl (congrArg Value.bool hb2);refine xA 2 F rfl fun a F=>xJ ?_;exact⟨false,(Option.some.inj hR).symm,F.su,H⟩
        intro a w ⟨s13,ho1,F,H⟩;subst ho1;have hR:=xN hk5;refine xF (qT F rfl (fun hb3=>?_) (fun hb3=>?_))
        ·
         replace hR:=vS hb3 hR;refine xL (xF (xC (xS (xR (xA 2 F rfl fun a F=>oN F rfl rfl A1 fun a F=>oF (s':=1) fa39_1 F rfl rfl A1 xI.f1 fun a p8 h9 F=>olS isAgg37 F rfl rfl H.sm h9 fun a v10 h10 F=>xA 1 F rfl fun a F=>?_)))));obtain⟨z4,c4,hR⟩:=xB hR;refine oI underlying37 sizeOf85 F rfl rfl rfl h10 c4 fun a p9 h11 F=>xA 4 F rfl fun a F=>?_;obtain⟨z5,c5,hR⟩:=xB hR;refine oK F rfl call130 rfl H (spec_l05Tells_c z5 c5 _ aA (H.a A0) (H.a h11) j2 j1 (dv64 c2) (rm64 c3 i3 i7)) fun a w H F=>xA 1 F rfl fun a F=>qD (qW (xF (xR (xA 1 F rfl fun a F=>?_))));obtain⟨z6,c6,hR⟩:=xB hR;refine kX F rfl rfl rfl c6 fun a F=>xA 1 F rfl fun a F=>xJ ?_;replace hR:=qZ hR hn4;exact⟨t2,(by omega),z5,z6,hR,F.su,H,(ck64 c6)⟩
        replace hR:=vR hb3 hR;refine oO (oQ (oQ ?_));replace hR:=l_brk hR hn4;refine vJ (xF ?_);exact⟨s11,s12,(Option.some.inj hR).symm,F.su,H,i8⟩
       intro a w ⟨s9,s10,ho2,F,H,i10⟩;subst ho2;have hR:=xN hk4;refine xF (xP (xA 1 F rfl fun a F=>xJ (qT F rfl (fun hb4=>?_) (fun hb4=>?_))))
       ·
        replace hR:=vS hb4 hR;refine xR (oY vX F rfl rfl rfl fun a F=>oB isAgg67 F rfl rfl (H.b 1 rfl) rfl fun a F=>xA 2 F rfl fun a F=>oRI (xs:=[.tmp 81,.tmp 82]) (l:=[z2,z3]) underlying30 sizeOf2 zeroValue2 rfl F rfl rfl rfl rfl rfl rfl (by simp only[List.forall_mem_cons,List.not_mem_nil,false_implies,implies_true,and_true];exact⟨(dv64 c2),(rm64 c3 i3 i7)⟩) H (fun a w v12 H F=>?_));have H:=H.os;refine oR1L (R:=(vY 1 xH)) (y:=[z2,z3]) underlying67 sizeOf30 zeroValue30 rfl rfl F rfl rfl H El.sl (fun a w v13 H F=>?_);obtain⟨z7,c7,hR⟩:=xB hR;refine oPL (sz:=1) (R:=(vY 1 xH)) (z:=((.slice none 0 0))) (bytes:=24) underlying67 (by kernel_rfl) rfl rfl F rfl rfl rfl (H.s [1,0,2,3] rfl rfl) c7 fun a w v14 H F=>oY vX F rfl rfl rfl fun a F=>oW sizeOf67 F rfl rfl rfl (H.s [1,0,2] rfl rfl) ((H.s [1,0,2] rfl rfl).l 1 rfl).one rfl rfl fun w H=>qD (qW (xF (xR (xA 1 F rfl fun a F=>?_))));obtain⟨z8,c8,hR⟩:=xB hR;refine kX F rfl rfl rfl c8 fun a F=>xA 1 F rfl fun a F=>xJ ?_;replace hR:=qZ hR hn3;exact⟨t1,(by omega),z8,z7,v14,hR,F.su,(H.s [1,0,2] rfl rfl),(ck64 c8)⟩
       replace hR:=vR hb4 hR;refine xL (qW (xF (xR (xA 1 F rfl fun a F=>?_))));obtain⟨z9,c9,hR⟩:=xB hR;refine kX F rfl rfl rfl c9 fun a F=>xA 1 F rfl fun a F=>xJ ?_;replace hR:=qZ hR hn3;exact⟨t1,(by omega),z9,s8,v8,hR,F.su,H,(ck64 c9)⟩
      replace hR:=vR hb1 hR;refine oO (oQ (oQ ?_));replace hR:=l_brk hR hn3;refine vJ (xF ?_);exact⟨s7,s8,v8,(Option.some.inj hR).symm,F.su,H,i3⟩
     intro a w ⟨s5,s6,v7,ho3,F,H,i11⟩;subst ho3;have hR:=xN hk3;refine xF (xR (xA 1 F rfl fun a F=>oBA isAgg69 sizeOf69 F rfl rfl (H.b 1 rfl) rfl rfl (fun a F=>?_)));have H:=(oM.w (show xY (2) by decide) H);refine oR1L (R:=oM) (y:=(Rel.mk 2 s6)) underlying33 sizeOf69 zeroValue69 rfl rfl F rfl rfl H El.agg (fun a w v15 H F=>?_);obtain⟨z10,c10,hR⟩:=xB hR;refine oPL (sz:=2) (R:=oM) (z:=(.agg #[.int .i64 0,(.slice none 0 0)])) (bytes:=32) underlying33 (by kernel_rfl) rfl rfl F rfl rfl rfl (H.s [2,0,1] rfl rfl) c10 fun a w v16 H F=>xA 1 F rfl fun a F=>qD (qW (xF (xR (xA 1 F rfl fun a F=>qR F rfl rfl rfl m2 fun a F=>xA 1 F rfl fun a F=>xJ ?_))));replace hR:=qZ hR hn2;exact⟨_,Nat.lt_succ_self _,k2+1,z10,v16,(by omega),hR,F.su,(H.s [0] rfl rfl)⟩
   intro a w ⟨s3,v5,ho4,F,H⟩;subst ho4;have hR:=xN hk2;refine qW (xF (xR (xA 1 F rfl fun a F=>o_incO F rfl rfl rfl m1 fun a F=>xA 1 F rfl fun a F=>xJ ?_)));replace hR:=qZ hR hn1;exact⟨_,Nat.lt_succ_self _,k1+1,s3,v5,(by omega),hR,F.su,H⟩
 intro a w ⟨s1,v3,ho5,F,H⟩;subst ho5;have hR:=xN hk1;refine xF (xP (xA 2 F rfl fun a F=>xJ (xT (xO F rfl (oD F rfl) ?_))));obtain rfl:=Option.some.inj hR;exact⟨_,rfl,v3,rfl,H⟩
def spec_l05Index (x0:Int) (x1:Int):Option Int:=
 xX (ck (x1 - 1)) fun z1=>
 xX (ck (x1*z1)) fun z2=>
 xX (dv z2 2) fun z3=>
 xX (ck (z3+x0)) fun z4=>
 some z4
theorem spec_l05Index_c {B:Nat→Prop} {x0:Int} {x1:Int} (r:Int) (hR:spec_l05Index x0 x1=some r)  (w0:World) (hN:∀ c,B c→c<w0.heap.size) (hx0:xY x0) (hx1:xY x1):Calls Tryz.prog 133 #[.int .i64 x0,.int .i64 x1] w0 (SaysI r w0):=by
 unfold spec_l05Index at hR
 refine xV (L:=[(0,.int .i64 x0),(1,.int .i64 x1)]) func133 rfl rfl rfl (sc rfl (sc rfl sn)) (fun a F=>?_);have H:=Sep.start hN;refine xP (xA 1 F rfl fun a F=>qU (xA 2 F rfl fun a F=>?_));obtain⟨z1,c1,hR⟩:=xB hR;refine o_sub F rfl rfl rfl c1 (fun a F=>?_);obtain⟨z2,c2,hR⟩:=xB hR;refine o_mul F rfl rfl rfl c2 (fun a F=>?_);obtain⟨z3,c16,hR⟩:=xB hR;refine o_quo F rfl rfl rfl c16 fun a F=>xA 1 F rfl fun a F=>?_;obtain⟨z4,c3,hR⟩:=xB hR;refine kX F rfl rfl rfl c3 fun a F=>xA 1 F rfl fun a F=>xJ (xT (xO F rfl (oD F rfl) ?_));obtain rfl:=Option.some.inj hR;exact⟨⟨rfl,H.bl⟩,(ck64 c3)⟩
def kF (x0:List Rel) (x1:Int) (x2:Int) (x3:Int) (x4:Int):Option Bool:=
 if (decide (x2<x1)) then
  xX (spec_l05Index x2 x1) fun z1=>
  xX (ix x0 z1) fun z2=>
  xX (spec_l01Has z2 ([x4,x3])) fun z3=>
  some z3
 else
  xX (spec_l05Index x1 x2) fun z4=>
  xX (ix x0 z4) fun z5=>
  xX (spec_l01Has z5 ([x3,x4])) fun z6=>
  some z6
theorem spec_l05Left_c {B:Nat→Prop} {x0:List Rel} {x1:Int} {x2:Int} {x3:Int} {x4:Int} (r:Bool) (hR:kF x0 x1 x2 x3 x4=some r) {v0:Value} (w0:World) (hN:∀ c,B c→c<w0.heap.size) (A0:Bo B w0 (Sl 2 oM) v0 x0) (hx1:xY x1) (hx2:xY x2) (hx3:xY x3) (hx4:xY x4):Calls Tryz.prog 90 #[v0,.int .i64 x1,.int .i64 x2,.int .i64 x3,.int .i64 x4] w0 (vV (.bool r) w0):=by
 unfold kF at hR
 refine xV (L:=[(0,v0),(1,.int .i64 x1),(2,.int .i64 x2),(3,.int .i64 x3),(4,.int .i64 x4)]) func90 rfl rfl rfl (sc rfl (sc rfl (sc rfl (sc rfl (sc rfl sn))))) (fun a F=>?_);have H:=Sep.start hN;refine xP (xA 1 F rfl fun a F=>xJ (xC (xP (xA 3 F rfl fun a F=>?_))));refine xJ (qT F rfl (fun hb1=>?_) (fun hb1=>?_))
 ·
  replace hR:=vS hb1 hR;refine xP (xA 3 F rfl fun a F=>?_);obtain⟨z1,c1,hR⟩:=xB hR;refine oKI F rfl call133 rfl H (spec_l05Index_c z1 c1 _ aA hx2 hx1) (fun a w H iz1 F=>?_);obtain⟨z2,c2,hR⟩:=xB hR;refine oI underlying33 sizeOf69 F rfl rfl rfl A0 c2 fun a p16 h1 F=>xA 2 F rfl fun a F=>oRI (xs:=[.tmp 19,.tmp 20]) (l:=[x4,x3]) underlying30 sizeOf2 zeroValue2 rfl F rfl rfl rfl rfl rfl rfl (by simp only[List.forall_mem_cons,List.not_mem_nil,false_implies,implies_true,and_true];exact⟨hx4,hx3⟩) H (fun a w v1 H F=>?_);obtain⟨z3,c3,hR⟩:=xB hR;refine oK F rfl call132 rfl H (spec_l01Has_c z3 c3 _ aA (H.a h1) (H.l 0 rfl)) fun a w H F=>xA 1 F rfl fun a F=>xJ (xT (oE (xO F rfl (oD F rfl) ?_)));obtain rfl:=Option.some.inj hR;exact⟨rfl,H.bl⟩
 replace hR:=vR hb1 hR;refine xL (xF (xP (xA 3 F rfl fun a F=>?_)));obtain⟨z4,c4,hR⟩:=xB hR;refine oKI F rfl call133 rfl H (spec_l05Index_c z4 c4 _ aA hx1 hx2) (fun a w H iz2 F=>?_);obtain⟨z5,c5,hR⟩:=xB hR;refine oI underlying33 sizeOf69 F rfl rfl rfl A0 c5 fun a p1 h2 F=>xA 2 F rfl fun a F=>oRI (xs:=[.tmp 28,.tmp 29]) (l:=[x3,x4]) underlying30 sizeOf2 zeroValue2 rfl F rfl rfl rfl rfl rfl rfl (by simp only[List.forall_mem_cons,List.not_mem_nil,false_implies,implies_true,and_true];exact⟨hx3,hx4⟩) H (fun a w v2 H F=>?_);obtain⟨z6,c6,hR⟩:=xB hR;refine oK F rfl call132 rfl H (spec_l01Has_c z6 c6 _ aA (H.a h2) (H.l 0 rfl)) fun a w H F=>xA 1 F rfl fun a F=>xJ (xT (xO F rfl (oD F rfl) ?_));obtain rfl:=Option.some.inj hR;exact⟨rfl,H.bl⟩
def spec_l09Equations (N:Nat) (x0:Rel):Option (List (List Int)):=
 xX (ck (x0.arity+1)) fun z16=>
 xX (zD N 2 z16) fun z1=>
 vO (σ:=(List (List Int))) (
  vQ (σ:=(List (List Int))) (ρ:=(List (List Int))) (fun(k1:Nat) (s1:(List (List Int)))=>
   xX (spec_l01Digits N 2 z16 (1+(k1:Int))) fun z2=>
   vO (σ:=Bool×Int) (
    whl (σ:=Bool×Int) (ρ:=(Ctl ((List (List Int))) (List (List Int)))) (fun(s:Bool×Int)=>
      match s with
      | (s2,s3)=>
      vO (σ:=Bool) (
       if (decide (s3<(x0.tuples.length:Int))) then  some (.nx s2) else  some (.nx false)) fun s4=>
      if s4 then
       xX (ix z2 x0.arity) fun z3=>
       vO (σ:=Int) (
        vQ (σ:=Int) (ρ:=(Ctl (Bool×Int) (Ctl ((List (List Int))) (List (List Int))))) (fun(k2:Nat) (s5:Int)=>
         xX (ix z2 (k2:Int)) fun z4=>
         xX (ix x0.tuples s3) fun z5=>
         xX (ix z5 (k2:Int)) fun z6=>
         xX (ck (z4*z6)) fun z7=>
         xX (ck (s5+z7)) fun z8=>
         some (.go z8)) x0.arity.toNat 0 z3) fun s6=>
       xX (rm s6 2) fun z9=>
       xX (ck (s3+1)) fun z10=>
       some (.go ((z9==0),z10))
      else
       some (.brk (s2,s3))) N (true,0)) fun(s7,s8)=>
   if s7 then
    xX (ap s1 ([z2])) fun z11=>
    some (.go z11)
   else
    some (.go s1)) (z1 - 1).toNat 0 []) fun s9=>
 some s9
theorem spec_l09Equations_c {B:Nat→Prop} {N:Nat} {x0:Rel} (r:(List (List Int))) (hR:spec_l09Equations N x0=some r) {v0:Value} (w0:World) (hN:∀ c,B c→c<w0.heap.size) (A0:Bo B w0 (Pt 2 oM) v0 x0):Calls Tryz.prog 91 #[v0] w0 (Gv (fun v w'=>∃ (v1':Value),v=v1'∧Sep [] B w0 w' [rl 1 (vY 1 xH) 30 v1' r])):=by
 unfold spec_l09Equations at hR
 refine xV (L:=[(0,v0)]) func91 rfl rfl rfl (sc rfl sn) (fun a F=>?_);have H:=Sep.start hN;refine xP (xA 1 F rfl fun a F=>qU (oR0 (R:=(vY 1 xH)) underlying67 sizeOf30 F rfl H fun a w v1 H F=>xA 1 F rfl fun a F=>xJ ?_));refine xC (xP (xA 1 F rfl fun a F=>xJ ?_));obtain⟨z16,c1,hR⟩:=xB hR;obtain⟨z1,c2,hR⟩:=xB hR;obtain⟨o1,hR,hk1⟩:=xK hR;refine xW (fun a w=>∃ (s1:List (List Int)) (v2:Value),o1= .nx s1∧Sk a 81 [(3,v2)]∧Sep [] B w0 w [rl 1 (vY 1 xH) 30 v2 s1]) ?_ ?_
 ·
  refine xS ?_;obtain⟨fl1,hf1,hR⟩:=zI hR;refine oR (fun g a w=>∃ (k1:Nat) (s2:List (List Int)) (v3:Value),k1+g=(z1 - 1).toNat∧vQ fl1 g k1 s2=some o1∧Sk a 81 [(4,.int .i64 (1+(k1:Int))),(0,v0),(3,v3)]∧Sep [] B w0 w [rl 1 (vY 1 xH) 30 v3 s2]) (z1 - 1).toNat ?_ ?_
  ·
   exact⟨0,[],v1,(Nat.zero_add _),hR,F.su,H⟩
  intro g1 a w ⟨k1,s2,v3,hd1,hR,F,H⟩
  cases g1 with
  | zero=>
   replace hR:=vT hR;have l1:=dec_noIO hd1;refine xC (xP (xA 2 F rfl fun a F=>oN F rfl rfl A0 fun a F=>oF (s':=1) fa69_0 F rfl rfl A0 oM.f0 fun a p1 h1 F=>olI isAgg2 F rfl rfl H.sm h1 fun a i1 F=>kX F rfl rfl rfl c1 fun a F=>oKI F rfl call134 rfl H (spec_l01Power_c z1 c2 _ aA (show xY (2) by decide) (ck64 c1)) fun a w H iz1 F=>xA 1 F rfl fun a F=>?_));refine xJ (qV F rfl l1 (oO (oQ (oQ (vJ (xF ?_))))));exact⟨s2,v3,(Option.some.inj hR).symm,F.su,H⟩
  | succ g1=>
   obtain⟨ck1,hR,hn1⟩:=vU hR;rw[hf1] at hR;have l1:=dec_yesIO hd1;refine xC (xP (xA 2 F rfl fun a F=>oN F rfl rfl A0 fun a F=>oF (s':=1) fa69_0 F rfl rfl A0 oM.f0 fun a p2 h2 F=>olI isAgg2 F rfl rfl H.sm h2 fun a i2 F=>kX F rfl rfl rfl c1 fun a F=>oKI F rfl call134 rfl H (spec_l01Power_c z1 c2 _ aA (show xY (2) by decide) (ck64 c1)) fun a w H iz1 F=>xA 1 F rfl fun a F=>?_));refine xJ (qY F rfl l1 (xL (xF (xC ?_))));have j1:=k64O hd1 (show xY (1) by decide) iz1;have m1:=inc64O hd1 (show xY (1) by decide) iz1;refine xS (xP (xA 1 F rfl fun a F=>oN F rfl rfl A0 fun a F=>oF (s':=1) fa69_0 F rfl rfl A0 oM.f0 fun a p3 h3 F=>olI isAgg2 F rfl rfl H.sm h3 fun a i3 F=>kX F rfl rfl rfl c1 fun a F=>xA 1 F rfl fun a F=>?_));obtain⟨z2,c3,hR⟩:=xB hR;refine oG F rfl call135 rfl (spec_l01Digits_c z2 c3 _ aA (show xY (2) by decide) (ck64 c1) j1) (fun a vv w ⟨v4,hv1,S⟩ F=>?_);subst vv;have H:=H.r1 S n0;refine xA 1 F rfl fun a F=>qU (xA 1 F rfl fun a F=>xJ (xC (xP ?_)));refine xA 1 F rfl fun a F=>xJ ?_;obtain⟨o2,hR,hk2⟩:=xK hR;refine xW (fun a w=>∃ (s3:Bool) (s4:Int),o2= .nx (s3,s4)∧Sk a 81 [(0,v0),(3,v3),(4,.int .i64 (1+(k1:Int))),(5,v4),(6,.bool s3)]∧Sep [] B w0 w [rl 1 xH 2 v4 z2,rl 1 (vY 1 xH) 30 v3 s2]∧xY s4) ?_ ?_
   ·
    refine xS ?_;obtain⟨fl2,hf2,hR⟩:=whl_gen hR;refine oR (fun g a w=>∃ (s5:Bool) (s6:Int),whl fl2 g (s5,s6)=some o2∧Sk a 81 [(0,v0),(3,v3),(4,.int .i64 (1+(k1:Int))),(5,v4),(6,.bool s5),(7,.int .i64 s6)]∧Sep [] B w0 w [rl 1 xH 2 v4 z2,rl 1 (vY 1 xH) 30 v3 s2]∧xY s6) N ?_ ?_
    ·
     exact⟨true,0,hR,F.su,H,(show xY (0) by decide)⟩
    intro g2 a w ⟨s5,s6,hR,F,H,i4⟩;obtain⟨ck2,t1,hg1,hR,hn2⟩:=zU hR;rw[hf2] at hR;refine xC (xC ?_);obtain⟨o3,hR,hk3⟩:=xK hR;refine xW (fun a w=>∃ (s7:Bool),o3= .nx s7∧Sk a 81 [(0,v0),(3,v3),(4,.int .i64 (1+(k1:Int))),(5,v4),(6,.bool s5),(7,.int .i64 s6),(37,.bool s7)]∧Sep [] B w0 w [rl 1 xH 2 v4 z2,rl 1 (vY 1 xH) 30 v3 s2]) ?_ ?_
    ·
     refine xR (xA 2 F rfl fun a F=>oN F rfl rfl A0 fun a F=>oF (s':=1) vX F rfl rfl A0 oM.f1 fun a p4 h4 F=>olS isAgg67 F rfl rfl H.sm h4 fun a v5 h5 F=>oL underlying67 F rfl rfl h5 fun a i5 F=>xA 2 F rfl fun a F=>?_)
     rcases vG (decide (s6<(x0.tuples.length:Int))) with hb1 | hb1
     ·
      replace hR:=vS hb1 hR;have F:=F.eq (t:=35) rfl (congrArg Value.bool hb1);refine xA 2 F rfl fun a F=>xJ ?_;exact⟨s5,(Option.some.inj hR).symm,F.su,H⟩
     replace hR:=vR hb1 hR;have F:=F.eq (t:=35) rfl (congrArg Value.bool hb1);refine xA 2 F rfl fun a F=>xJ ?_;exact⟨false,(Option.some.inj hR).symm,F.su,H⟩
    intro a w ⟨s7,ho1,F,H⟩;subst ho1;have hR:=xN hk3;refine xF (qT F rfl (fun hb2=>?_) (fun hb2=>?_))
    ·
     replace hR:=vS hb2 hR;refine xL (xF (xC (xS (xP (xA 2 F rfl fun a F=>oN F rfl rfl A0 fun a F=>oF (s':=1) fa69_0 F rfl rfl A0 oM.f0 fun a p5 h6 F=>olI isAgg2 F rfl rfl H.sm h6 (fun a i6 F=>?_))))));obtain⟨z3,c4,hR⟩:=xB hR;refine oI underlying30 sizeOf2 F rfl rfl rfl (H.l 0 rfl) c4 fun a p6 h7 F=>olI isAgg2 F rfl rfl (Sm.refl _ _) h7 fun a i7 F=>xA 1 F rfl fun a F=>xJ (xC (xP (xA 1 F rfl fun a F=>xJ ?_)));obtain⟨o4,hR,hk4⟩:=xK hR;refine xW (fun a w=>∃ (s8:Int),o4= .nx s8∧Sk a 81 [(0,v0),(3,v3),(4,.int .i64 (1+(k1:Int))),(5,v4),(7,.int .i64 s6),(8,.int .i64 s8)]∧Sep [] B w0 w [rl 1 xH 2 v4 z2,rl 1 (vY 1 xH) 30 v3 s2]∧xY s8) ?_ ?_
     ·
      refine xS ?_;obtain⟨fl3,hf3,hR⟩:=zI hR;refine oR (fun g a w=>∃ (k2:Nat) (s9:Int),k2+g=x0.arity.toNat∧vQ fl3 g k2 s9=some o4∧Sk a 81 [(9,.int .i64 (k2:Int)),(0,v0),(3,v3),(4,.int .i64 (1+(k1:Int))),(5,v4),(7,.int .i64 s6),(8,.int .i64 s9)]∧Sep [] B w0 w [rl 1 xH 2 v4 z2,rl 1 (vY 1 xH) 30 v3 s2]∧xY s9) x0.arity.toNat ?_ ?_
      ·
       exact⟨0,z3,(Nat.zero_add _),hR,F.su,H,i7⟩
      intro g3 a w ⟨k2,s9,hd2,hR,F,H,i8⟩
      cases g3 with
      | zero=>
       replace hR:=vT hR;have l2:=kZ hd2;refine xC (xP (xA 2 F rfl fun a F=>oN F rfl rfl A0 fun a F=>oF (s':=1) fa69_0 F rfl rfl A0 oM.f0 fun a p7 h8 F=>olI isAgg2 F rfl rfl H.sm h8 fun a i9 F=>xA 1 F rfl fun a F=>xJ ?_));refine qV F rfl l2 (oO (oQ (oQ (vJ (xF ?_)))));exact⟨s9,(Option.some.inj hR).symm,F.su,H,i8⟩
      | succ g3=>
       obtain⟨ck3,hR,hn3⟩:=vU hR;rw[hf3] at hR;have l2:=kE hd2;refine xC (xP (xA 2 F rfl fun a F=>oN F rfl rfl A0 fun a F=>oF (s':=1) fa69_0 F rfl rfl A0 oM.f0 fun a p8 h9 F=>olI isAgg2 F rfl rfl H.sm h9 fun a i10 F=>xA 1 F rfl fun a F=>xJ ?_));refine qY F rfl l2 (xL (xF (xC ?_)));have j2:=k64I hd2 i10;have m2:=inc64I hd2 i10;refine xS (xQ H (by kernel_rfl) (by kernel_rfl) (xU F rfl (fun w l=>xM F rfl) fun a F=>xU F rfl (fun w l=>xM F rfl) fun a F=>xU F rfl (fun w l=>xM F rfl) (fun a F=>?_)));obtain⟨z4,c5,hR⟩:=xB hR;refine qI underlying30 sizeOf2 F rfl rfl rfl (H.l 0 rfl) c5 fun a p9 h10 F=>qlI isAgg2 F rfl rfl qA h10 fun a i11 F=>xU F rfl (fun w l=>xM F rfl) fun a F=>qN F rfl rfl A0 fun a F=>qF (s':=1) vX F rfl rfl A0 oM.f1 fun a p10 h11 F=>qlS isAgg67 F rfl rfl H.q h11 fun a v6 h12 F=>xU F rfl (fun w l=>xM F rfl) (fun a F=>?_);obtain⟨z5,c6,hR⟩:=xB hR;refine qI underlying67 sizeOf30 F rfl rfl rfl h12 c6 fun a p11 h13 F=>qlS isAgg30 F rfl rfl H.q h13 fun a v7 h14 F=>xU F rfl (fun w l=>xM F rfl) (fun a F=>?_);obtain⟨z6,c7,hR⟩:=xB hR;refine qI underlying30 sizeOf2 F rfl rfl rfl h14 c7 fun a p12 h15 F=>qlI isAgg2 F rfl rfl H.q h15 (fun a i12 F=>?_);obtain⟨z7,c8,hR⟩:=xB hR;refine xU F rfl (fun w l=>r_mul F rfl rfl c8) (fun a F=>?_);obtain⟨z8,c9,hR⟩:=xB hR;refine xU F rfl (fun w l=>r_add F rfl rfl c9) fun a F=>xU F rfl (fun w l=>kL F rfl) fun a F=>kP fun w H=>qW (xF (xR (xA 1 F rfl fun a F=>qR F rfl rfl rfl m2 fun a F=>xA 1 F rfl fun a F=>xJ ?_)));replace hR:=qZ hR hn3;exact⟨_,Nat.lt_succ_self _,k2+1,z8,(by omega),hR,F.su,H,(ck64 c9)⟩
     intro a w ⟨s8,ho2,F,H,i13⟩;subst ho2;have hR:=xN hk4;refine xF (xR (xA 1 F rfl fun a F=>?_));obtain⟨z9,c10,hR⟩:=xB hR;refine o_rem F rfl rfl rfl c10 fun a F=>xA 2 F rfl fun a F=>qD (qW (xF (xR (xA 1 F rfl fun a F=>?_))));obtain⟨z10,c11,hR⟩:=xB hR;refine kX F rfl rfl rfl c11 fun a F=>xA 1 F rfl fun a F=>xJ ?_;replace hR:=qZ hR hn2;exact⟨t1,(by omega),(z9==0),z10,hR,F.su,H,(ck64 c11)⟩
    replace hR:=vR hb2 hR;refine oO (oQ (oQ ?_));replace hR:=l_brk hR hn2;refine vJ (xF ?_);exact⟨s5,s6,(Option.some.inj hR).symm,F.su,H,i4⟩
   intro a w ⟨s3,s4,ho3,F,H,i14⟩;subst ho3;have hR:=xN hk2;refine xF (xP (xA 1 F rfl fun a F=>xJ (qT F rfl (fun hb3=>?_) (fun hb3=>?_))))
   ·
    replace hR:=vS hb3 hR;refine xR (xA 2 F rfl fun a F=>?_);have H:=H.os;refine oR1L (R:=(vY 1 xH)) (y:=z2) underlying67 sizeOf30 zeroValue30 rfl rfl F rfl rfl H El.sl (fun a w v8 H F=>?_);obtain⟨z11,c12,hR⟩:=xB hR;refine oPL (sz:=1) (R:=(vY 1 xH)) (z:=((.slice none 0 0))) (bytes:=24) underlying67 (by kernel_rfl) rfl rfl F rfl rfl rfl (H.s [1,0] rfl rfl) c12 fun a w v9 H F=>xA 1 F rfl fun a F=>qD (qW (xF (xR (xA 1 F rfl fun a F=>o_incO F rfl rfl rfl m1 fun a F=>xA 1 F rfl fun a F=>xJ ?_))));replace hR:=qZ hR hn1;exact⟨_,Nat.lt_succ_self _,k1+1,z11,v9,(by omega),hR,F.su,H⟩
   replace hR:=vR hb3 hR;refine xL (qW (xF (xR (xA 1 F rfl fun a F=>o_incO F rfl rfl rfl m1 fun a F=>xA 1 F rfl fun a F=>xJ ?_))));replace hR:=qZ hR hn1;exact⟨_,Nat.lt_succ_self _,k1+1,s2,v3,(by omega),hR,F.su,(H.s [1] rfl rfl)⟩
 intro a w ⟨s1,v2,ho4,F,H⟩;subst ho4;have hR:=xN hk1;refine xF (xP (xA 2 F rfl fun a F=>xJ (xT (xO F rfl (oD F rfl) ?_))));obtain rfl:=Option.some.inj hR;exact⟨_,rfl,v2,rfl,H⟩
def spec_l05Through (N:Nat) (x0:Int) (x1:List Rel) (x2:Int) (x3:Int) (x4:Int):Option (Bool×(List Rel)):=
 xX (spec_l05Index x2 x3) fun z1=>
 xX (ix x1 z1) fun z2=>
 vO (σ:=(List (List Int))) (
  qK (σ:=(List (List Int))) (ρ:=Bool×(List Rel)) (fun(k1:Nat) (x5:(List Int)) (s1:(List (List Int)))=>
   vO (σ:=Bool×Int) (
    whl (σ:=Bool×Int) (ρ:=(Ctl ((List (List Int))) (Bool×(List Rel)))) (fun(s:Bool×Int)=>
      match s with
      | (s2,s3)=>
      vO (σ:=Bool) (
       if (decide (s3<x0)) then  some (.nx (!s2)) else  some (.nx false)) fun s4=>
      if s4 then
       vO (σ:=Bool) (
        xX (ix x5 0) fun z3=>
        xX (kF x1 x2 x4 z3 s3) fun z4=>
        if z4 then  xX (ix x5 1) fun z5=>
         xX (kF x1 x4 x3 s3 z5) fun z6=>
         some (.nx z6) else  some (.nx false)) fun s5=>
       xX (ck (s3+1)) fun z7=>
       some (.go (s5,z7))
      else
       some (.brk (s2,s3))) N (false,0)) fun(s6,s7)=>
   if s6 then
    xX (ap s1 ([x5])) fun z8=>
    some (.go z8)
   else
    some (.go s1)) z2.tuples 0 []) fun s8=>
 some ((decide ((s8.length:Int)<(z2.tuples.length:Int))),(x1.set (z1).toNat (Rel.mk 2 s8)))
theorem spec_l05Through_c {B:Nat→Prop} {N:Nat} {x0:Int} {x1:List Rel} {x2:Int} {x3:Int} {x4:Int} (r:Bool×(List Rel)) (hR:spec_l05Through N x0 x1 x2 x3 x4=some r) {v1:Value} {X0:List Nat} (w0:World) (hN:∀ c,B c→c<w0.heap.size) (S0:Sep X0 B w0 w0 [rw B 2 oM 69 v1 x1]) (hx0:xY x0) (hx2:xY x2) (hx3:xY x3) (hx4:xY x4):Calls Tryz.prog 131 #[.int .i64 x0,v1,.int .i64 x2,.int .i64 x3,.int .i64 x4] w0 (Gv (fun v w'=>v= .bool r.1∧Sep X0 B w0 w' [rw B 2 oM 69 v1 r.2])):=by
 unfold spec_l05Through at hR
 refine xV (L:=[(0,.int .i64 x0),(1,v1),(2,.int .i64 x2),(3,.int .i64 x3),(4,.int .i64 x4)]) func131 rfl rfl rfl (sc rfl (sc rfl (sc rfl (sc rfl (sc rfl sn))))) (fun a F=>?_);have H:=S0;have sm1:=H.sm;obtain⟨X1,N2,e1,H,th1,ab16⟩:=H.spl;refine xP (xA 1 F rfl fun a F=>qU (xA 3 F rfl fun a F=>?_));obtain⟨z1,c1,hR⟩:=xB hR;refine oKI F rfl call133 rfl H (spec_l05Index_c z1 c1 _ aA hx2 hx3) (fun a w H iz1 F=>?_);obtain⟨z2,c2,hR⟩:=xB hR;obtain⟨w1,rfl⟩:∃ x,x=w:=⟨_,rfl⟩;have sm2:=H.sm;obtain⟨X2,N3,g1,e2,H,th2,ab1⟩:=H.fza;have h1:=g1.rzd;have hz32:=g1.zd;refine oIz underlying33 sizeOf69 F rfl rfl rfl hz32 c2 fun a p1 h2 F=>xA 1 F rfl fun a F=>qU (o_build underlying69 zeroValue69 (fun w=>by simp [sizeOf2,sizeOf67];rfl) F rfl rfl rfl rfl rfl (oc rfl on) rfl rfl fun a F=>oA zeroValue69 F rfl rfl H fun a w b1 H F=>oWA (vs:=[.int .i64 2,(.slice none 0 0)]) sizeOf69 F rfl rfl rfl H (oc rfl (oc rfl on)) rfl rfl fun w H=>xJ ?_);refine xC (xP (xA 1 F rfl fun a F=>xJ ?_));obtain⟨o1,hR,hk1⟩:=xK hR;refine xW (fun a w=>∃ (s1:List (List Int)) (v2:Value),o1= .nx s1∧Sk a 100 [(1,v1),(2,.int .i64 x2),(3,.int .i64 x3),(11,p1),(12,.pointer (some ⟨b1,0,none⟩))]∧Sep X2 N3 w1 w [rw N2 1 (vY 1 xH) 30 v2 s1,bx b1 [.int .i64 2,v2] 69]) ?_ ?_
 ·
  refine xS ?_;obtain⟨fl1,hf1,hR⟩:=qE hR;refine oR (fun g a w=>∃ (k1:Nat) (t1:List (List Int)) (s2:List (List Int)) (v3:Value),(k1≤z2.tuples.length∧z2.tuples.drop k1=t1)∧t1.length=g∧qK fl1 t1 k1 s2=some o1∧Sk a 100 [(13,.int .i64 (k1:Int)),(0,.int .i64 x0),(1,v1),(2,.int .i64 x2),(3,.int .i64 x3),(4,.int .i64 x4),(11,p1),(12,.pointer (some ⟨b1,0,none⟩))]∧Sep X2 N3 w1 w [rw N2 1 (vY 1 xH) 30 v3 s2,bx b1 [.int .i64 2,v3] 69]) z2.tuples.length ?_ ?_
  ·
   exact⟨0,z2.tuples,[],(.slice none 0 0),⟨Nat.zero_le _,rfl⟩,rfl,hR,F.su,((H.nl 1 (vY 1 xH) 30).lw.upt (fun c h=>h.elim) (fun c h=>(th2.2.2 c h)))⟩
  intro g2 a w ⟨k1,t1,s2,v3,hd1,hg1,hR,F,H⟩
  cases t1 with
  | nil=>
   replace hR:=qG hR;have q1:=qH hd1.1 hd1.2;have l1:=vA q1;refine xC (xP (xA 2 F rfl fun a F=>oN F rfl rfl (Pz.bo h2 (fun c h=>(th2.2.2 c h))) fun a F=>oFz (s':=1) vX F rfl rfl h2 oM.f1 fun a p2 h3 F=>olSz isAgg67 F rfl rfl H.sm h3 (fun a v4 h4 F=>?_)));have h4:=Bo.to h4 (Sm.symm sm2);refine oL underlying67 F rfl rfl h4 fun a i1 F=>xA 1 F rfl fun a F=>xJ (qV F rfl l1 (oO (oQ (oQ (vJ (xF ?_))))));exact⟨s2,v3,(Option.some.inj hR).symm,F.su,H⟩
  | cons x5 t1=>
   subst hg1;replace hd1:=oH hd1.2;have y1:=oV hd1.2.1;obtain⟨ck1,hR,hn1⟩:=oU hR;rw[hf1] at hR;have l1:=qP hd1.1;refine xC (xP (xA 2 F rfl fun a F=>oN F rfl rfl (Pz.bo h2 (fun c h=>(th2.2.2 c h))) fun a F=>oFz (s':=1) vX F rfl rfl h2 oM.f1 fun a p3 h5 F=>olSz isAgg67 F rfl rfl H.sm h5 (fun a v5 h6 F=>?_)));have h6:=Bo.to h6 (Sm.symm sm2);refine oL underlying67 F rfl rfl h6 fun a i2 F=>xA 1 F rfl fun a F=>xJ (qY F rfl l1 (xL (xF (xC ?_))));have j1:=k64 (Nat.le_of_lt hd1.1) i2;have m1:=zA hd1.1 i2;refine xS (xP (xA 1 F rfl fun a F=>xJ (xC (xP (xA 1 F rfl fun a F=>qD ?_)))));refine xF ?_;obtain⟨o2,hR,hk2⟩:=xK hR;refine xW (fun a w=>∃ (s3:Bool) (s4:Int),o2= .nx (s3,s4)∧Sk a 100 [(0,.int .i64 x0),(1,v1),(2,.int .i64 x2),(3,.int .i64 x3),(4,.int .i64 x4),(11,p1),(12,.pointer (some ⟨b1,0,none⟩)),(13,.int .i64 (k1:Int)),(14,.bool s3)]∧Sep X2 N3 w1 w [rw N2 1 (vY 1 xH) 30 v3 s2,bx b1 [.int .i64 2,v3] 69]∧xY s4) ?_ ?_
   ·
    refine xS ?_;obtain⟨fl2,hf2,hR⟩:=whl_gen hR;refine oR (fun g a w=>∃ (s5:Bool) (s6:Int),whl fl2 g (s5,s6)=some o2∧Sk a 100 [(0,.int .i64 x0),(1,v1),(2,.int .i64 x2),(3,.int .i64 x3),(4,.int .i64 x4),(11,p1),(12,.pointer (some ⟨b1,0,none⟩)),(13,.int .i64 (k1:Int)),(14,.bool s5),(15,.int .i64 s6)]∧Sep X2 N3 w1 w [rw N2 1 (vY 1 xH) 30 v3 s2,bx b1 [.int .i64 2,v3] 69]∧xY s6) N ?_ ?_
    ·
     exact⟨false,0,hR,F.su,H,(show xY (0) by decide)⟩
    intro g3 a w ⟨s5,s6,hR,F,H,i3⟩;obtain⟨ck2,t2,hg2,hR,hn2⟩:=zU hR;rw[hf2] at hR;refine xC (xC ?_);obtain⟨o3,hR,hk3⟩:=xK hR;refine xW (fun a w=>∃ (s7:Bool),o3= .nx s7∧Sk a 100 [(0,.int .i64 x0),(1,v1),(2,.int .i64 x2),(3,.int .i64 x3),(4,.int .i64 x4),(11,p1),(12,.pointer (some ⟨b1,0,none⟩)),(13,.int .i64 (k1:Int)),(14,.bool s5),(15,.int .i64 s6),(38,.bool s7)]∧Sep X2 N3 w1 w [rw N2 1 (vY 1 xH) 30 v3 s2,bx b1 [.int .i64 2,v3] 69]) ?_ ?_
    ·
     refine xR (xA 4 F rfl fun a F=>?_)
     rcases vG (decide (s6<x0)) with hb1 | hb1
     ·
      replace hR:=vS hb1 hR;have F:=F.eq (t:=35) rfl (congrArg Value.bool hb1);refine xA 3 F rfl fun a F=>xJ ?_;exact⟨(!s5),(Option.some.inj hR).symm,F.su,H⟩
     replace hR:=vR hb1 hR;have F:=F.eq (t:=35) rfl (congrArg Value.bool hb1);refine xA 3 F rfl fun a F=>xJ ?_;exact⟨false,(Option.some.inj hR).symm,F.su,H⟩
    intro a w ⟨s7,ho1,F,H⟩;subst ho1;have hR:=xN hk3;refine xF (qT F rfl (fun hb2=>?_) (fun hb2=>?_))
    ·
     replace hR:=vS hb2 hR;refine xL (xF (xC (xS ?_)));obtain⟨o4,hR,hk4⟩:=xK hR;refine xW (fun a w=>∃ (s8:Bool),o4= .nx s8∧Sk a 100 [(0,.int .i64 x0),(1,v1),(2,.int .i64 x2),(3,.int .i64 x3),(4,.int .i64 x4),(11,p1),(12,.pointer (some ⟨b1,0,none⟩)),(13,.int .i64 (k1:Int)),(14,.bool s8),(15,.int .i64 s6)]∧Sep X2 N3 w1 w [rw N2 1 (vY 1 xH) 30 v3 s2,bx b1 [.int .i64 2,v3] 69]) ?_ ?_
     ·
      refine xR (xA 4 F rfl fun a F=>oN F rfl rfl (Pz.bo h2 (fun c h=>(th2.2.2 c h))) fun a F=>oFz (s':=1) vX F rfl rfl h2 oM.f1 fun a p4 h7 F=>olSz isAgg67 F rfl rfl H.sm h7 (fun a v6 h8 F=>?_));have h8:=Bo.to h8 (Sm.symm sm2);refine xA 1 F rfl fun a F=>oI underlying67 sizeOf30 F rfl rfl rfl h8 y1 fun a p5 h9 F=>olS isAgg30 F rfl rfl (sm2.trans (Sm.mono H.sm th2.2.2)) h9 (fun a v7 h10 F=>?_);obtain⟨z3,c3,hR⟩:=xB hR;refine oI underlying30 sizeOf2 F rfl rfl rfl h10 c3 fun a p6 h11 F=>olI isAgg2 F rfl rfl (sm2.trans (Sm.mono H.sm th2.2.2)) h11 fun a i4 F=>xA 1 F rfl fun a F=>?_;obtain⟨z4,c4,hR⟩:=xB hR;refine oK F rfl call90 rfl H (spec_l05Left_c z4 c4 _ aA (H.a h1) hx2 hx4 i4 i3) fun a w H F=>xA 1 F rfl fun a F=>?_
      rcases vG z4 with hb3 | hb3
      ·
       replace hR:=vS hb3 hR;have F:=F.eq (t:=55) rfl (congrArg Value.bool hb3);refine xA 5 F rfl fun a F=>oN F rfl rfl (Pz.bo h2 (fun c h=>(th2.2.2 c h))) fun a F=>oFz (s':=1) vX F rfl rfl h2 oM.f1 fun a p7 h12 F=>olSz isAgg67 F rfl rfl H.sm h12 (fun a v8 h13 F=>?_);have h13:=Bo.to h13 (Sm.symm sm2);refine xA 1 F rfl fun a F=>oI underlying67 sizeOf30 F rfl rfl rfl h13 y1 fun a p8 h14 F=>olS isAgg30 F rfl rfl (sm2.trans (Sm.mono H.sm th2.2.2)) h14 (fun a v9 h15 F=>?_);obtain⟨z5,c5,hR⟩:=xB hR;refine oI underlying30 sizeOf2 F rfl rfl rfl h15 c5 fun a p9 h16 F=>olI isAgg2 F rfl rfl (sm2.trans (Sm.mono H.sm th2.2.2)) h16 (fun a i5 F=>?_);obtain⟨z6,c6,hR⟩:=xB hR;refine oK F rfl call90 rfl H (spec_l05Left_c z6 c6 _ aA (H.a h1) hx4 hx3 i3 i5) fun a w H F=>xA 2 F rfl fun a F=>xJ ?_;exact⟨z6,(Option.some.inj hR).symm,F.su,H⟩
      replace hR:=vR hb3 hR;have F:=F.eq (t:=55) rfl (congrArg Value.bool hb3);refine xA 11 F rfl fun a F=>?_;refine xA 5 F rfl fun a F=>xJ ?_;exact⟨false,(Option.some.inj hR).symm,F.su,H⟩
     intro a w ⟨s8,ho2,F,H⟩;subst ho2;have hR:=xN hk4;refine qW (xF (xR (xA 1 F rfl fun a F=>?_)));obtain⟨z7,c7,hR⟩:=xB hR;refine kX F rfl rfl rfl c7 fun a F=>xA 1 F rfl fun a F=>xJ ?_;replace hR:=qZ hR hn2;exact⟨t2,(by omega),s8,z7,hR,F.su,H,(ck64 c7)⟩
    replace hR:=vR hb2 hR;refine oO (oQ (oQ ?_));replace hR:=l_brk hR hn2;refine vJ (xF ?_);exact⟨s5,s6,(Option.some.inj hR).symm,F.su,H,i3⟩
   intro a w ⟨s3,s4,ho3,F,H,i6⟩;subst ho3;have hR:=xN hk2;refine xF (xP (xA 1 F rfl fun a F=>xJ (qT F rfl (fun hb4=>?_) (fun hb4=>?_))))
   ·
    replace hR:=vS hb4 hR;obtain⟨z8,c8,hR⟩:=xB hR;refine xD H (by kernel_rfl) fun w H=>dp (fun G=>∀ (v10:Value) (a:Act) (w:World),Sk a 100 [(0,.int .i64 x0),(1,v1),(2,.int .i64 x2),(3,.int .i64 x3),(4,.int .i64 x4),(11,p1),(12,.pointer (some ⟨b1,0,none⟩)),(13,.int .i64 (k1:Int)),(73,v3),(81,v10)]→Sep X2 N3 w1 w [rw N2 1 (vY 1 xH) 30 v10 ([x5]),rw N2 1 (vY 1 xH) 30 v3 s2,bx b1 [.int .i64 2,v3] 69]→∀ ls,ls = #[true,true,true,true,true,true,true,true,true,true,false,false,false]→G 3 ls a w) ?_ (fun H1=>?_)
    ·
     intro v10 a w F H ls hls;subst hls;refine xE H 10 rfl (by kernel_rfl) (oP (sz:=1) (R:=(vY 1 xH)) (z:=((.slice none 0 0))) (bytes:=24) underlying67 (by kernel_rfl) rfl rfl F rfl rfl rfl (H.s [1,0,2] rfl rfl) c8 fun a w v11 H F=>xJ ⟨⟨_,H⟩,?_⟩);refine kO 11 (by kernel_rfl) rfl (by kernel_rfl) (by kernel_rfl) (by kernel_rfl) (by kernel_rfl) (oJ F rfl (fun w l=>zQ vX F rfl rfl) fun a F=>xE H 12 rfl (by kernel_rfl) (oW sizeOf67 F rfl rfl rfl (H.s [1,0] rfl rfl) ((H.s [1,0] rfl rfl).r 1 rfl).one rfl rfl fun w H=>xJ ⟨⟨_,H⟩,?_⟩));refine b_end (by kernel_rfl) (qW (xF (xR (xA 1 F rfl fun a F=>qR F rfl rfl rfl m1 fun a F=>xA 1 F rfl fun a F=>xJ ?_))));replace hR:=qZ hR hn1;exact⟨_,Nat.lt_succ_self _,k1+1,t1,z8,v11,⟨hd1.1,hd1.2.2⟩,rfl,hR,F.su,(H.s [1,0] rfl rfl)⟩
    refine kO 0 (by kernel_rfl) rfl (by kernel_rfl) (by kernel_rfl) (by kernel_rfl) (by kernel_rfl) (oJ F rfl (fun w l=>zQ vX F rfl rfl) fun a F=>vD 2 rfl (by kernel_rfl) (by kernel_rfl) (by kernel_rfl) (oJ F rfl (fun w l=>xM F rfl) fun a F=>kO 3 (by kernel_rfl) rfl (by kernel_rfl) (by kernel_rfl) (by kernel_rfl) (by kernel_rfl) (vN F rfl rfl (Pz.bo h2 (fun c h=>(th2.2.2 c h))) fun a F=>kO 4 (by kernel_rfl) rfl (by kernel_rfl) (by kernel_rfl) (by kernel_rfl) (by kernel_rfl) (vFz (s':=1) vX F rfl rfl h2 oM.f1 fun a p10 h17 F=>kO 5 (by kernel_rfl) rfl (by kernel_rfl) (by kernel_rfl) (by kernel_rfl) (by kernel_rfl) (vlSz isAgg67 F rfl rfl H.v h17 (fun a v12 h18 F=>?_))))));have h18:=Bo.to h18 (Sm.symm sm2);refine vD 6 rfl (by kernel_rfl) (by kernel_rfl) (by kernel_rfl) (oJ F rfl (fun w l=>xM F rfl) fun a F=>kO 7 (by kernel_rfl) rfl (by kernel_rfl) (by kernel_rfl) (by kernel_rfl) (by kernel_rfl) (vI underlying67 sizeOf30 F rfl rfl rfl h18 y1 fun a p11 h19 F=>kO 8 (by kernel_rfl) rfl (by kernel_rfl) (by kernel_rfl) (by kernel_rfl) (by kernel_rfl) (vlS isAgg30 F rfl rfl (fun w l=>(sm2.trans (Sm.mono (H.v w l) th2.2.2))) h19 fun a v13 h20 F=>b_es [1,9] (by kernel_rfl) (by simp) ⟨⟨_,rfl,?_⟩,⟨_,rfl,?_⟩,trivial⟩)))
    ·
     refine xEs H (oB isAgg67 F rfl rfl (H.b 1 rfl) rfl fun a F=>xJ ⟨⟨_,H⟩,?_⟩);refine xE H 9 rfl (by kernel_rfl) (oR1 (R:=(vY 1 xH)) (y:=x5) (N1:=N2) underlying67 sizeOf30 zeroValue30 rfl rfl F rfl rfl H (fun c h=>(th2.2.2 c h)) (Eo.sl (Bo.to h20 (sm2.trans (Sm.mono H.sm th2.2.2)))) fun a w v14 H F=>xJ ⟨⟨_,H⟩,?_⟩);exact H1 v14 _ _ (F.su) H _ (by kernel_rfl)
    refine xEs H (oR1 (R:=(vY 1 xH)) (y:=x5) (N1:=N2) underlying67 sizeOf30 zeroValue30 rfl rfl F rfl rfl H (fun c h=>(th2.2.2 c h)) (Eo.sl (Bo.to h20 (sm2.trans (Sm.mono H.sm th2.2.2)))) fun a w v15 H F=>xJ ⟨⟨_,H⟩,?_⟩);refine xE H 1 rfl (by kernel_rfl) (oB isAgg67 F rfl rfl (H.b 2 rfl) rfl fun a F=>xJ ⟨⟨_,H⟩,?_⟩);exact H1 v15 _ _ (F.su) H _ (by kernel_rfl)
   replace hR:=vR hb4 hR;refine xL (qW (xF (xR (xA 1 F rfl fun a F=>qR F rfl rfl rfl m1 fun a F=>xA 1 F rfl fun a F=>xJ ?_))));replace hR:=qZ hR hn1;exact⟨_,Nat.lt_succ_self _,k1+1,t1,s2,v3,⟨hd1.1,hd1.2.2⟩,rfl,hR,F.su,H⟩
 intro a w ⟨s1,v2,ho4,F,H⟩;subst ho4;have hR:=xN hk1;refine xF (xC (xQ H (by kernel_rfl) (by kernel_rfl) (xU F rfl (fun w l=>zQ vX F rfl rfl) fun a F=>qB isAgg67 F rfl rfl (H.qb 1 rfl) rfl fun a F=>qL underlying67 F rfl rfl (H.r 0 rfl) fun a i7 F=>xU F rfl (fun w l=>xM F rfl) fun a F=>qN F rfl rfl (Pz.bo h2 (fun c h=>(th2.2.2 c h))) fun a F=>qFz (s':=1) vX F rfl rfl h2 oM.f1 fun a p12 h21 F=>qlSz isAgg67 F rfl rfl H.q h21 (fun a v16 h23 F=>?_))));have h23:=Bo.to h23 (Sm.symm sm2);refine qL underlying67 F rfl rfl h23 fun a i8 F=>xU F rfl (fun w l=>r_lss F rfl rfl) fun a F=>xU F rfl (fun w l=>kL F rfl) fun a F=>kP fun w H=>xF (xC ?_);have H:=(th2.1 H (Ns.all ⟨n1,⟨n0,trivial⟩⟩));obtain⟨w2,rfl⟩:∃ x,x=w:=⟨_,rfl⟩;have sm3:=H.sm;obtain⟨X3,N4,g4,e3,H,th3,ab2⟩:=(H.s [2,0,1] rfl rfl).fza;have K1:=g4.bk;refine xD H (by kernel_rfl) fun w H=>vD 0 rfl (by kernel_rfl) (by kernel_rfl) (by kernel_rfl) (oJ F rfl (fun w l=>xM F rfl) fun a F=>vD 1 rfl (by kernel_rfl) (by kernel_rfl) (by kernel_rfl) (oJ F rfl (fun w l=>xM F rfl) fun a F=>vD 2 rfl (by kernel_rfl) (by kernel_rfl) (by kernel_rfl) (oJ F rfl (fun w l=>xM F rfl) fun a F=>kO 4 (by kernel_rfl) rfl (by kernel_rfl) (by kernel_rfl) (by kernel_rfl) (by kernel_rfl) (vBA isAgg69 sizeOf69 F rfl rfl (K1.v H.sm) rfl rfl fun a F=>xE H 3 rfl (by kernel_rfl) (oKI F rfl call133 rfl H (spec_l05Index_c z1 c1 _ aA hx2 hx3) (fun a w H iz1 F=>?_))))));refine xJ ⟨⟨_,H⟩,?_⟩;refine xE H 5 rfl (by kernel_rfl) ?_;have H:=H.zw;refine oRi underlying33 sizeOf69 F rfl rfl rfl H 0 rfl c2 fun a p13 h24 rp1 F=>xJ ⟨⟨_,H⟩,?_⟩;refine xE H 6 rfl (by kernel_rfl) (oSX (vs:=[.int .i64 2,v2]) F rfl rfl rfl (.inl ⟨sizeOf69,rfl,(oc rfl (oc (H.r 1 rfl).one on))⟩) H (RPt.o rp1) (ix_get c2) n1 (fun e q=>(Eo.agg (oM.m (show xY (2) by decide) q.rd)).tn) rfl fun w H=>xJ ⟨⟨_,H⟩,?_⟩);refine b_end (by kernel_rfl) (xF (xP (xA 2 F rfl fun a F=>xJ (xT ?_))));have H:=(ab16 Ab.rw ((th3.1 H (Ns.all ⟨n1,trivial⟩)).s [1,0] rfl rfl) (Ns.all ⟨n0,trivial⟩));refine xO F rfl (oD F rfl) ?_;obtain rfl:=Option.some.inj hR;exact⟨_,rfl,rfl,(H.s [0] rfl rfl)⟩
def spec_l05Pairs (N:Nat) (x0:Template) (x1:Instance) (x2:List Rel):Option ((List PairStep)×(List Rel)):=
 vO (σ:=(List PairStep)×Int×(List Rel)) (
  whl (σ:=(List PairStep)×Int×(List Rel)) (ρ:=(List PairStep)×(List Rel)) (fun(s:(List PairStep)×Int×(List Rel))=>
    match s with
    | (s1,s2,s3)=>
    if (s2 != (s1.length:Int)) then
     vO (σ:=(List PairStep)×(List Rel)) (
      vQ (σ:=(List PairStep)×(List Rel)) (ρ:=(Ctl ((List PairStep)×Int×(List Rel)) ((List PairStep)×(List Rel)))) (fun(k1:Nat) (s:(List PairStep)×(List Rel))=>
        match s with
        | (s4,s5)=>
        vO (σ:=(List PairStep)×(List Rel)) (
         vQ (σ:=(List PairStep)×(List Rel)) (ρ:=(Ctl ((List PairStep)×(List Rel)) (Ctl ((List PairStep)×Int×(List Rel)) ((List PairStep)×(List Rel))))) (fun(k2:Nat) (s:(List PairStep)×(List Rel))=>
           match s with
           | (s6,s7)=>
           vO (σ:=(List PairStep)×(List Rel)) (
            vQ (σ:=(List PairStep)×(List Rel)) (ρ:=(Ctl ((List PairStep)×(List Rel)) (Ctl ((List PairStep)×(List Rel)) (Ctl ((List PairStep)×Int×(List Rel)) ((List PairStep)×(List Rel)))))) (fun(k3:Nat) (s:(List PairStep)×(List Rel))=>
              match s with
              | (s8,s9)=>
              vO (σ:=(List Rel)×Bool) (
               if ((k3:Int) != (k2:Int)) then  if ((k3:Int) != (1+(k1:Int))) then  xX (spec_l05Through N x0.size s9 (k2:Int) (1+(k1:Int)) (k3:Int)) fun z1=>
                 some (.nx (z1.2,z1.1)) else  some (.nx (s9,false)) else  some (.nx (s9,false))) fun(s10,s11)=>
              if s11 then
               xX (ap s8 ([(PairStep.mk (k2:Int) (1+(k1:Int)) (k3:Int))])) fun z2=>
               some (.go (z2,s10))
              else
               some (.go (s8,s10))) x1.vars.toNat 0 (s6,s7)) fun(s12,s13)=>
           some (.go (s12,s13))) (1+(k1:Int)).toNat 0 (s4,s5)) fun(s14,s15)=>
        some (.go (s14,s15))) (x1.vars - 1).toNat 0 (s1,s3)) fun(s16,s17)=>
     some (.go (s16,(s1.length:Int),s17))
    else
     some (.brk (s1,s2,s3))) N ([],(-1),x2)) fun(s18,s19,s20)=>
 some (s18,s20)
theorem spec_l05Pairs_c {B:Nat→Prop} {N:Nat} {x0:Template} {x1:Instance} {x2:List Rel} (r:(List PairStep)×(List Rel)) (hR:spec_l05Pairs N x0 x1 x2=some r) {v0:Value} {v1:Value} {v2:Value} {X0:List Nat} (w0:World) (hN:∀ c,B c→c<w0.heap.size) (S0:Sep X0 B w0 w0 [rw B 2 oM 69 v2 x2]) (A0:Bo B w0 (Pt 2 xG) v0 x0) (A1:Bo B w0 (Pt 2 xI) v1 x1):Calls Tryz.prog 89 #[v0,v1,v2] w0 (Gv (fun v w'=>∃ (v1':Value),v=v1'∧Sep X0 B w0 w' [rl 3 xZ 163 v1' r.1,rw B 2 oM 69 v2 r.2])):=by
 unfold spec_l05Pairs at hR
 refine xV (L:=[(0,v0),(1,v1),(2,v2)]) func89 rfl rfl rfl (sc rfl (sc rfl (sc rfl sn))) (fun a F=>?_);have H:=S0;refine xP (xA 1 F rfl fun a F=>qU (oR0 (R:=xZ) underlying112 sizeOf163 F rfl H fun a w v3 H F=>xA 1 F rfl fun a F=>xJ ?_));refine xC (xP (xA 1 F rfl fun a F=>xJ ?_));obtain⟨o1,hR,hk1⟩:=xK hR;refine xW (fun a w=>∃ (s1:List PairStep) (v4:Value) (s2:Int) (s3:List Rel),o1= .nx (s1,s2,s3)∧Sk a 67 [(2,v2),(7,v4)]∧Sep X0 B w0 w [rl 3 xZ 163 v4 s1,rw B 2 oM 69 v2 s3]∧xY s2) ?_ ?_
 ·
  refine xS ?_;obtain⟨fl1,hf1,hR⟩:=whl_gen hR;refine oR (fun g a w=>∃ (s4:List PairStep) (v5:Value) (s5:Int) (s6:List Rel),whl fl1 g (s4,s5,s6)=some o1∧Sk a 67 [(0,v0),(1,v1),(2,v2),(7,v5),(8,.int .i64 s5)]∧Sep X0 B w0 w [rl 3 xZ 163 v5 s4,rw B 2 oM 69 v2 s6]∧xY s5) N ?_ ?_
  ·
   exact⟨[],v3,(-1),x2,hR,F.su,H,(show xY (-1) by decide)⟩
  intro g1 a w ⟨s4,v5,s5,s6,hR,F,H,i1⟩;obtain⟨ck1,t1,hg1,hR,hn1⟩:=zU hR;rw[hf1] at hR;refine xC (xP (xA 2 F rfl fun a F=>oL underlying112 F rfl rfl (H.l 0 rfl) fun a i2 F=>xA 1 F rfl fun a F=>xJ (qT F rfl (fun hb1=>?_) (fun hb1=>?_))))
  ·
   replace hR:=vS hb1 hR;refine xL (xF (xS (xP (xA 1 F rfl fun a F=>oL underlying112 F rfl rfl (H.l 0 rfl) fun a i3 F=>xA 1 F rfl fun a F=>xJ (xC ?_)))));refine xR (xA 1 F rfl fun a F=>xJ ?_);obtain⟨o2,hR,hk2⟩:=xK hR;refine xW (fun a w=>∃ (s7:List PairStep) (v6:Value) (s8:List Rel),o2= .nx (s7,s8)∧Sk a 67 [(0,v0),(1,v1),(2,v2),(7,v6),(8,.int .i64 (s4.length:Int))]∧Sep X0 B w0 w [rl 3 xZ 163 v6 s7,rw B 2 oM 69 v2 s8]) ?_ ?_
   ·
    refine xS ?_;obtain⟨fl2,hf2,hR⟩:=zI hR;refine oR (fun g a w=>∃ (k1:Nat) (s9:List PairStep) (v7:Value) (s10:List Rel),k1+g=(x1.vars - 1).toNat∧vQ fl2 g k1 (s9,s10)=some o2∧Sk a 67 [(9,.int .i64 (1+(k1:Int))),(0,v0),(1,v1),(2,v2),(7,v7),(8,.int .i64 (s4.length:Int))]∧Sep X0 B w0 w [rl 3 xZ 163 v7 s9,rw B 2 oM 69 v2 s10]) (x1.vars - 1).toNat ?_ ?_
    ·
     exact⟨0,s4,v5,s6,(Nat.zero_add _),hR,F.su,H⟩
    intro g2 a w ⟨k1,s9,v7,s10,hd1,hR,F,H⟩
    cases g2 with
    | zero=>
     replace hR:=vT hR;have l1:=dec_noIO hd1;refine xC (xP (xA 2 F rfl fun a F=>oN F rfl rfl A1 fun a F=>oF (s':=1) zY F rfl rfl A1 xI.f0 fun a p1 h1 F=>olI isAgg2 F rfl rfl H.sm h1 fun a i4 F=>xA 1 F rfl fun a F=>xJ ?_));refine qV F rfl l1 (oO (oQ (oQ (vJ (xF ?_)))));exact⟨s9,v7,s10,(Option.some.inj hR).symm,F.su,H⟩
    | succ g2=>
     obtain⟨ck2,hR,hn2⟩:=vU hR;rw[hf2] at hR;have l1:=dec_yesIO hd1;refine xC (xP (xA 2 F rfl fun a F=>oN F rfl rfl A1 fun a F=>oF (s':=1) zY F rfl rfl A1 xI.f0 fun a p2 h2 F=>olI isAgg2 F rfl rfl H.sm h2 fun a i5 F=>xA 1 F rfl fun a F=>xJ ?_));refine qY F rfl l1 (xL (xF (xC ?_)));have j1:=k64O hd1 (show xY (1) by decide) i5;have m1:=inc64O hd1 (show xY (1) by decide) i5;refine xS (xP (xA 1 F rfl fun a F=>xJ ?_));obtain⟨o3,hR,hk3⟩:=xK hR;refine xW (fun a w=>∃ (s11:List PairStep) (v8:Value) (s12:List Rel),o3= .nx (s11,s12)∧Sk a 67 [(0,v0),(1,v1),(2,v2),(7,v8),(8,.int .i64 (s4.length:Int)),(9,.int .i64 (1+(k1:Int)))]∧Sep X0 B w0 w [rl 3 xZ 163 v8 s11,rw B 2 oM 69 v2 s12]) ?_ ?_
     ·
      refine xS ?_;obtain⟨fl3,hf3,hR⟩:=zI hR;refine oR (fun g a w=>∃ (k2:Nat) (s13:List PairStep) (v9:Value) (s14:List Rel),k2+g=(1+(k1:Int)).toNat∧vQ fl3 g k2 (s13,s14)=some o3∧Sk a 67 [(10,.int .i64 (k2:Int)),(0,v0),(1,v1),(2,v2),(7,v9),(8,.int .i64 (s4.length:Int)),(9,.int .i64 (1+(k1:Int)))]∧Sep X0 B w0 w [rl 3 xZ 163 v9 s13,rw B 2 oM 69 v2 s14]) (1+(k1:Int)).toNat ?_ ?_
      ·
       exact⟨0,s9,v7,s10,(Nat.zero_add _),hR,F.su,H⟩
      intro g3 a w ⟨k2,s13,v9,s14,hd2,hR,F,H⟩
      cases g3 with
      | zero=>
       replace hR:=vT hR;have l2:=kZ hd2;refine xC (xP (xA 3 F rfl fun a F=>xJ (qV F rfl l2 (oO (oQ ?_)))));refine oQ (vJ (xF ?_));exact⟨s13,v9,s14,(Option.some.inj hR).symm,F.su,H⟩
      | succ g3=>
       obtain⟨ck3,hR,hn3⟩:=vU hR;rw[hf3] at hR;have l2:=kE hd2;refine xC (xP (xA 3 F rfl fun a F=>xJ (qY F rfl l2 (xL (xF ?_)))));refine xC ?_;have j2:=k64I hd2 j1;have m2:=inc64I hd2 j1;refine xS (xP (xA 1 F rfl fun a F=>xJ ?_));obtain⟨o4,hR,hk4⟩:=xK hR;refine xW (fun a w=>∃ (s15:List PairStep) (v10:Value) (s16:List Rel),o4= .nx (s15,s16)∧Sk a 67 [(0,v0),(1,v1),(2,v2),(7,v10),(8,.int .i64 (s4.length:Int)),(9,.int .i64 (1+(k1:Int))),(10,.int .i64 (k2:Int))]∧Sep X0 B w0 w [rl 3 xZ 163 v10 s15,rw B 2 oM 69 v2 s16]) ?_ ?_
       ·
        refine xS ?_;obtain⟨fl4,hf4,hR⟩:=zI hR;refine oR (fun g a w=>∃ (k3:Nat) (s17:List PairStep) (v12:Value) (s18:List Rel),k3+g=x1.vars.toNat∧vQ fl4 g k3 (s17,s18)=some o4∧Sk a 67 [(11,.int .i64 (k3:Int)),(0,v0),(1,v1),(2,v2),(7,v12),(8,.int .i64 (s4.length:Int)),(9,.int .i64 (1+(k1:Int))),(10,.int .i64 (k2:Int))]∧Sep X0 B w0 w [rl 3 xZ 163 v12 s17,rw B 2 oM 69 v2 s18]) x1.vars.toNat ?_ ?_
        ·
         exact⟨0,s13,v9,s14,(Nat.zero_add _),hR,F.su,H⟩
        intro g4 a w ⟨k3,s17,v12,s18,hd3,hR,F,H⟩
        cases g4 with
        | zero=>
         replace hR:=vT hR;have l3:=kZ hd3;refine xC (xP (xA 2 F rfl fun a F=>oN F rfl rfl A1 fun a F=>oF (s':=1) zY F rfl rfl A1 xI.f0 fun a p3 h3 F=>olI isAgg2 F rfl rfl H.sm h3 fun a i6 F=>xA 1 F rfl fun a F=>xJ ?_));refine qV F rfl l3 (oO (oQ (oQ (vJ (xF ?_)))));exact⟨s17,v12,s18,(Option.some.inj hR).symm,F.su,H⟩
        | succ g4=>
         obtain⟨ck4,hR,hn4⟩:=vU hR;rw[hf4] at hR;have l3:=kE hd3;refine xC (xP (xA 2 F rfl fun a F=>oN F rfl rfl A1 fun a F=>oF (s':=1) zY F rfl rfl A1 xI.f0 fun a p4 h4 F=>olI isAgg2 F rfl rfl H.sm h4 fun a i7 F=>xA 1 F rfl fun a F=>xJ ?_));refine qY F rfl l3 (xL (xF (xC ?_)));have j3:=k64I hd3 i7;have m3:=inc64I hd3 i7;refine xS (xC ?_);obtain⟨o5,hR,hk5⟩:=xK hR;refine xW (fun a w=>∃ (s19:List Rel) (s20:Bool),o5= .nx (s19,s20)∧Sk a 67 [(0,v0),(1,v1),(2,v2),(7,v12),(8,.int .i64 (s4.length:Int)),(9,.int .i64 (1+(k1:Int))),(10,.int .i64 (k2:Int)),(11,.int .i64 (k3:Int)),(58,.bool s20)]∧Sep X0 B w0 w [rl 3 xZ 163 v12 s17,rw B 2 oM 69 v2 s19]) ?_ ?_
         ·
          refine xR (xA 4 F rfl fun a F=>?_)
          rcases vG ((k3:Int) != (k2:Int)) with hb2 | hb2
          ·
           replace hR:=vS hb2 hR;have F:=F.eq (t:=43) rfl (congrArg Value.bool hb2);refine xA 5 F rfl fun a F=>?_
           rcases vG ((k3:Int) != (1+(k1:Int))) with hb3 | hb3
           ·
            replace hR:=vS hb3 hR;have F:=F.eq (t:=48) rfl (congrArg Value.bool hb3);refine xA 1 F rfl fun a F=>oN F rfl rfl A0 fun a F=>oF (s':=1) fa35_0 F rfl rfl A0 xG.f0 fun a p5 h5 F=>olI isAgg2 F rfl rfl H.sm h5 fun a i8 F=>xA 4 F rfl fun a F=>?_;obtain⟨z1,c1,hR⟩:=xB hR;obtain⟨X1,K1,bk1⟩:=Sep.lend (K:=[rw B 2 oM 69 v2 s18]) (L:=[rl 3 xZ 163 v12 s17]) (H.s [1,0] rfl rfl);refine oG F rfl call131 rfl (spec_l05Through_c z1 c1 _ H.hN K1 i8 j2 j1 j3) (fun a vv w ⟨hv1,S⟩ F=>?_);subst vv;have H:Sep X0 B w0 w [rw B 2 oM 69 v2 z1.2,rl 3 xZ 163 v12 s17]:=bk1 S;refine xA 1 F rfl fun a F=>xJ ?_;exact⟨z1.2,z1.1,(Option.some.inj hR).symm,F.su,(H.s [1,0] rfl rfl)⟩
           replace hR:=vR hb3 hR;have F:=F.eq (t:=48) rfl (congrArg Value.bool hb3);refine xA 10 F rfl fun a F=>qD ?_;refine xF ?_;exact⟨s18,false,(Option.some.inj hR).symm,F.su,H⟩
          replace hR:=vR hb2 hR;have F:=F.eq (t:=43) rfl (congrArg Value.bool hb2);refine xA 11 F rfl fun a F=>?_;refine xA 4 F rfl fun a F=>xJ ?_;exact⟨s18,false,(Option.some.inj hR).symm,F.su,H⟩
         intro a w ⟨s19,s20,ho1,F,H⟩;subst ho1;have hR:=xN hk5;refine xF (qT F rfl (fun hb4=>?_) (fun hb4=>?_))
         ·
          replace hR:=vS hb4 hR;refine xR (xA 4 F rfl fun a F=>o_build underlying163 zeroValue163 (fun w=>by simp [sizeOf2];rfl) F rfl rfl rfl rfl rfl (oc rfl (oc rfl (oc rfl on))) rfl rfl fun a F=>oR1z (R:=xZ) (y:=(PairStep.mk (k2:Int) (1+(k1:Int)) (k3:Int))) underlying112 sizeOf163 zeroValue163 rfl rfl F rfl rfl H (Eo.agg (xZ.m j2 j1 j3)) (fun a w v13 H F=>?_));obtain⟨z2,c2,hR⟩:=xB hR;refine oPL (sz:=3) (R:=xZ) (z:=(.agg #[.int .i64 0,.int .i64 0,.int .i64 0])) (bytes:=24) underlying112 (by kernel_rfl) rfl rfl F rfl rfl rfl (H.s [1,0,2] rfl rfl) c2 fun a w v14 H F=>xA 1 F rfl fun a F=>qD (qW (xF (xR (xA 1 F rfl fun a F=>qR F rfl rfl rfl m3 fun a F=>xA 1 F rfl fun a F=>xJ ?_))));replace hR:=qZ hR hn4;exact⟨_,Nat.lt_succ_self _,k3+1,z2,v14,s19,(by omega),hR,F.su,H⟩
         replace hR:=vR hb4 hR;refine xL (qW (xF (xR (xA 1 F rfl fun a F=>qR F rfl rfl rfl m3 fun a F=>xA 1 F rfl fun a F=>xJ ?_))));replace hR:=qZ hR hn4;exact⟨_,Nat.lt_succ_self _,k3+1,s17,v12,s19,(by omega),hR,F.su,H⟩
       intro a w ⟨s15,v10,s16,ho2,F,H⟩;subst ho2;have hR:=xN hk4;refine qW (xF (xR (xA 1 F rfl fun a F=>qR F rfl rfl rfl m2 fun a F=>xA 1 F rfl fun a F=>xJ ?_)));replace hR:=qZ hR hn3;exact⟨_,Nat.lt_succ_self _,k2+1,s15,v10,s16,(by omega),hR,F.su,H⟩
     intro a w ⟨s11,v8,s12,ho3,F,H⟩;subst ho3;have hR:=xN hk3;refine qW (xF (xR (xA 1 F rfl fun a F=>o_incO F rfl rfl rfl m1 fun a F=>xA 1 F rfl fun a F=>xJ ?_)));replace hR:=qZ hR hn2;exact⟨_,Nat.lt_succ_self _,k1+1,s11,v8,s12,(by omega),hR,F.su,H⟩
   intro a w ⟨s7,v6,s8,ho4,F,H⟩;subst ho4;have hR:=xN hk2;refine qW (xF ?_);replace hR:=qZ hR hn1;exact⟨t1,(by omega),s7,v6,(s4.length:Int),s8,hR,F.su,H,i3⟩
  replace hR:=vR hb1 hR;refine oO (oQ (oQ ?_));replace hR:=l_brk hR hn1;refine vJ (xF ?_);exact⟨s4,v5,s5,s6,(Option.some.inj hR).symm,F.su,H,i1⟩
 intro a w ⟨s1,v4,s2,s3,ho5,F,H,i9⟩;subst ho5;have hR:=xN hk1;refine xF (xP (xA 2 F rfl fun a F=>xJ (xT (xO F rfl (oD F rfl) ?_))));obtain rfl:=Option.some.inj hR;exact⟨_,rfl,v4,rfl,H⟩
def spec_l09Pairs (N:Nat) (x0:Template) (x1:Instance):Option ((List Int)×Bool):=
 if (x1.vars==1) then
  xX (spec_l05Solutions N x0 x1 1) fun z1=>
  if ((z1.length:Int)==0) then
   some ([],false)
  else
   xX (ix z1 0) fun z2=>
   some (z2,true)
 else
  xX (spec_l05First N x0 x1) fun z3=>
  xX (spec_l05Pairs N x0 x1 z3) fun z4=>
  vO (σ:=Unit) (
   qK (σ:=Unit) (ρ:=(List Int)×Bool) (fun(k1:Nat) (x2:Rel) (s:Unit)=>
     match s with
     | _=>
     if ((x2.tuples.length:Int)==0) then
      some (.ret ([],false))
     else
      some (.go ())) z4.2 0 ()) fun _=>
  xX (ix z4.2 0) fun z5=>
  xX (ix z5.tuples 0) fun z6=>
  xX (ix z6 0) fun z7=>
  vO (σ:=(List Int)) (
   vQ (σ:=(List Int)) (ρ:=(List Int)×Bool) (fun(k2:Nat) (s1:(List Int))=>
    vO (σ:=Int×Bool) (
     whl (σ:=Int×Bool) (ρ:=(Ctl ((List Int)) ((List Int)×Bool))) (fun(s:Int×Bool)=>
       match s with
       | (s2,s3)=>
       vO (σ:=Bool) (
        if (!s3) then  some (.nx (decide (s2<x0.size))) else  some (.nx false)) fun s4=>
       if s4 then
        vO (σ:=Bool×Int) (
         whl (σ:=Bool×Int) (ρ:=(Ctl (Int×Bool) (Ctl ((List Int)) ((List Int)×Bool)))) (fun(s:Bool×Int)=>
           match s with
           | (s5,s6)=>
           vO (σ:=Bool) (
            if (decide (s6<(1+(k2:Int)))) then  some (.nx s5) else  some (.nx false)) fun s7=>
           if s7 then
            xX (ix s1 s6) fun z8=>
            xX (kF z4.2 s6 (1+(k2:Int)) z8 s2) fun z9=>
            xX (ck (s6+1)) fun z10=>
            some (.go (z9,z10))
           else
            some (.brk (s5,s6))) N (true,0)) fun(s8,s9)=>
        if (!s8) then
         xX (ck (s2+1)) fun z11=>
         some (.go (z11,s8))
        else
         some (.go (s2,s8))
       else
        some (.brk (s2,s3))) N (0,false)) fun(s10,s11)=>
    xX (ap s1 ([s10])) fun z12=>
    some (.go z12)) (x1.vars - 1).toNat 0 [z7]) fun s12=>
  some (s12,true)
theorem spec_l09Pairs_c {B:Nat→Prop} {N:Nat} {x0:Template} {x1:Instance} (r:(List Int)×Bool) (hR:spec_l09Pairs N x0 x1=some r) {v0:Value} {v1:Value} (w0:World) (hN:∀ c,B c→c<w0.heap.size) (A0:Bo B w0 (Pt 2 xG) v0 x0) (A1:Bo B w0 (Pt 2 xI) v1 x1):Calls Tryz.prog 49 #[v0,v1] w0 (Gv (fun v w'=>∃ (v1':Value),v= .tuple #[v1',.bool r.2]∧Sep [] B w0 w' [ro B (V:=(Sl 1 xH)) v1' r.1])):=by
 unfold spec_l09Pairs at hR
 refine xV (L:=[(0,v0),(1,v1)]) func49 rfl rfl rfl (sc rfl (sc rfl sn)) (fun a F=>?_);have H:=Sep.start hN;refine xP (xA 2 F rfl fun a F=>xJ (xC (xP (xA 1 F rfl fun a F=>oN F rfl rfl A1 (fun a F=>?_)))));refine oF (s':=1) zY F rfl rfl A1 xI.f0 fun a p1 h1 F=>olI isAgg2 F rfl rfl H.sm h1 fun a i1 F=>xA 1 F rfl fun a F=>xJ (qT F rfl (fun hb1=>?_) (fun hb1=>?_))
 ·
  replace hR:=vS hb1 hR;refine xP (xA 2 F rfl fun a F=>?_);obtain⟨z1,c16,hR⟩:=xB hR;refine oG F rfl call87 rfl (spec_l05Solutions_c z1 c16 _ aA (H.a A0) (H.a A1) (show xY (1) by decide)) (fun a vv w ⟨v2,hv1,S⟩ F=>?_);subst vv;have H:=H.r1 S n0;refine xA 1 F rfl fun a F=>xJ (xC (xP (xA 1 F rfl fun a F=>oL underlying67 F rfl rfl (H.l 0 rfl) fun a i2 F=>xA 1 F rfl fun a F=>xJ ?_)));refine qT F rfl (fun hb2=>?_) (fun hb2=>?_)
  ·
   replace hR:=vS hb2 hR;refine xP (oR0 (R:=xH) underlying30 sizeOf2 F rfl H fun a w v3 H F=>xA 2 F rfl fun a F=>xJ (xT (oE (oE ?_))));have H:=(H.s [0] rfl rfl);have H:=H.lw.rwo.rok;refine zV F rfl (oD F rfl) (oD F rfl) ?_;obtain rfl:=Option.some.inj hR;exact⟨_,rfl,v3,rfl,H⟩
  replace hR:=vR hb2 hR;refine xL (xF (xP (xA 1 F rfl fun a F=>?_)));obtain⟨z2,c1,hR⟩:=xB hR;obtain⟨w1,rfl⟩:∃ x,x=w:=⟨_,rfl⟩;have sm1:=H.sm;obtain⟨X1,N1,g1,e1,H,th32,ab1⟩:=H.fza;have h2:=g1.ld;refine oI underlying67 sizeOf30 F rfl rfl rfl h2 c1 fun a p2 h3 F=>olS isAgg30 F rfl rfl H.sm h3 fun a v4 h4 F=>xA 2 F rfl fun a F=>xJ (xT (oE ?_));have H:=H.rob h4;have H:=(th32.2.1 H (Ns.all trivial));refine zV F rfl (oD F rfl) (oD F rfl) ?_;obtain rfl:=Option.some.inj hR;exact⟨_,rfl,v4,rfl,H⟩
 replace hR:=vR hb1 hR;refine xL (xF (xP (xA 2 F rfl fun a F=>?_)));obtain⟨z3,c2,hR⟩:=xB hR;refine oG F rfl call88 rfl (spec_l05First_c z3 c2 _ aA (H.a A0) (H.a A1)) (fun a vv w ⟨v5,hv2,S⟩ F=>?_);subst vv;have H:=H.r1 S n0;refine xA 1 F rfl fun a F=>qU (xA 3 F rfl fun a F=>?_);obtain⟨z4,c3,hR⟩:=xB hR;have H:=H.lw.wk;obtain⟨X2,K1,bk1⟩:=Sep.lend (K:=[rw B 2 oM 69 v5 z3]) (L:=[]) H;refine oG F rfl call89 rfl (spec_l05Pairs_c z4 c3 _ H.hN K1 (H.u A0) (H.u A1)) (fun a vv w ⟨v6,hv3,S⟩ F=>?_);subst vv;have H:Sep [] B w0 w [rl 3 xZ 163 v6 z4.1,rw B 2 oM 69 v5 z4.2]:=bk1 S;refine xJ (xC (xP (xA 1 F rfl fun a F=>xJ ?_)));obtain⟨o1,hR,hk1⟩:=xK hR;refine xW (fun a w=>o1= .nx ()∧Sk a 103 [(0,v0),(1,v1),(7,v5)]∧Sep [] B w0 w [rw B 2 oM 69 v5 z4.2]) ?_ ?_
 ·
  refine xS ?_;obtain⟨fl1,hf1,hR⟩:=qE hR;refine oR (fun g a w=>∃ (k1:Nat) (t1:List Rel),(k1≤z4.2.length∧z4.2.drop k1=t1)∧t1.length=g∧qK fl1 t1 k1 ()=some o1∧Sk a 103 [(8,.int .i64 (k1:Int)),(0,v0),(1,v1),(7,v5)]∧Sep [] B w0 w [rw B 2 oM 69 v5 z4.2]) z4.2.length ?_ ?_
  ·
   exact⟨0,z4.2,⟨Nat.zero_le _,rfl⟩,rfl,hR,F.su,(H.s [1] rfl rfl)⟩
  intro g2 a w ⟨k1,t1,hd1,hg1,hR,F,H⟩
  cases t1 with
  | nil=>
   replace hR:=qG hR;have q1:=qH hd1.1 hd1.2;have l1:=vA q1;refine xC (xP (xA 2 F rfl fun a F=>oL underlying33 F rfl rfl (H.r 0 rfl) fun a i3 F=>xA 1 F rfl fun a F=>xJ (qV F rfl l1 (oO ?_))));refine oQ (oQ (vJ (xF ?_)));exact⟨(Option.some.inj hR).symm,F.su,H⟩
  | cons x2 t1=>
   subst hg1;replace hd1:=oH hd1.2;have y1:=oV hd1.2.1;obtain⟨ck1,hR,hn1⟩:=oU hR;rw[hf1] at hR;have l1:=qP hd1.1;refine xC (xP (xA 2 F rfl fun a F=>oL underlying33 F rfl rfl (H.r 0 rfl) fun a i4 F=>xA 1 F rfl fun a F=>xJ (qY F rfl l1 (xL ?_))));refine xF (xC ?_);have j1:=k64 (Nat.le_of_lt hd1.1) i4;have m1:=zA hd1.1 i4;refine xS (xP (xA 2 F rfl fun a F=>oI underlying33 sizeOf69 F rfl rfl rfl (H.r 0 rfl) y1 fun a p3 h5 F=>oF (s':=1) vX F rfl rfl h5 oM.f1 fun a p4 h6 F=>olS isAgg67 F rfl rfl (Sm.refl _ _) h6 fun a v7 h7 F=>oL underlying67 F rfl rfl h7 fun a i5 F=>xA 1 F rfl fun a F=>qD ?_));refine xF (qT F rfl (fun hb3=>?_) (fun hb3=>?_))
   ·
    replace hR:=vS hb3 hR;refine xP (oR0 (R:=xH) underlying30 sizeOf2 F rfl H fun a w v8 H F=>xA 2 F rfl fun a F=>xJ (xT (vH (oE (oE ?_)))));replace hR:=zS hR hn1;refine vH (oE ?_);replace hR:=zR hR hk1;refine oE ?_;have H:=(H.s [0] rfl rfl);have H:=H.lw.rwo.rok;refine zV F rfl (oD F rfl) (oD F rfl) ?_;obtain rfl:=Option.some.inj hR;exact⟨_,rfl,v8,rfl,H⟩
   replace hR:=vR hb3 hR;refine xL (qW (xF (xR (xA 1 F rfl fun a F=>qR F rfl rfl rfl m1 fun a F=>xA 1 F rfl fun a F=>xJ ?_))));replace hR:=qZ hR hn1;exact⟨_,Nat.lt_succ_self _,k1+1,t1,⟨hd1.1,hd1.2.2⟩,rfl,hR,F.su,H⟩
 intro a w ⟨ho1,F,H⟩;subst ho1;have hR:=xN hk1;refine xF (xP (xA 1 F rfl fun a F=>?_));obtain⟨z5,c4,hR⟩:=xB hR;refine oI underlying33 sizeOf69 F rfl rfl rfl (H.r 0 rfl) c4 fun a p5 h8 F=>oF (s':=1) vX F rfl rfl h8 oM.f1 fun a p6 h9 F=>olS isAgg67 F rfl rfl (Sm.refl _ _) h9 (fun a v9 h10 F=>?_);obtain⟨z6,c5,hR⟩:=xB hR;refine oI underlying67 sizeOf30 F rfl rfl rfl h10 c5 fun a p7 h11 F=>olS isAgg30 F rfl rfl (Sm.refl _ _) h11 (fun a v10 h13 F=>?_);obtain⟨z7,c6,hR⟩:=xB hR;refine oI underlying30 sizeOf2 F rfl rfl rfl h13 c6 fun a p8 h14 F=>olI isAgg2 F rfl rfl (Sm.refl _ _) h14 fun a i6 F=>oR1z (R:=xH) (y:=z7) underlying30 sizeOf2 zeroValue2 rfl rfl F rfl rfl H (Eo.int i6) fun a w v11 H F=>xA 1 F rfl fun a F=>xJ (xC (xP (xA 1 F rfl fun a F=>qD ?_)));refine xF ?_;obtain⟨o2,hR,hk2⟩:=xK hR;refine xW (fun a w=>∃ (s1:List Int) (v12:Value),o2= .nx s1∧Sk a 103 [(9,v12)]∧Sep [] B w0 w [rl 1 xH 2 v12 s1]) ?_ ?_
 ·
  refine xS ?_;obtain⟨fl2,hf2,hR⟩:=zI hR;refine oR (fun g a w=>∃ (k2:Nat) (s2:List Int) (v13:Value),k2+g=(x1.vars - 1).toNat∧vQ fl2 g k2 s2=some o2∧Sk a 103 [(10,.int .i64 (1+(k2:Int))),(0,v0),(1,v1),(7,v5),(9,v13)]∧Sep [] B w0 w [rl 1 xH 2 v13 s2,rw B 2 oM 69 v5 z4.2]) (x1.vars - 1).toNat ?_ ?_
  ·
   exact⟨0,[z7],v11,(Nat.zero_add _),hR,F.su,H⟩
  intro g3 a w ⟨k2,s2,v13,hd2,hR,F,H⟩
  cases g3 with
  | zero=>
   replace hR:=vT hR;have l2:=dec_noIO hd2;refine xC (xP (xA 2 F rfl fun a F=>oN F rfl rfl A1 fun a F=>oF (s':=1) zY F rfl rfl A1 xI.f0 fun a p9 h15 F=>olI isAgg2 F rfl rfl H.sm h15 fun a i7 F=>xA 1 F rfl fun a F=>xJ ?_));refine qV F rfl l2 (oO (oQ (oQ (vJ (xF ?_)))));exact⟨s2,v13,(Option.some.inj hR).symm,F.su,(H.s [0] rfl rfl)⟩
  | succ g3=>
   obtain⟨ck2,hR,hn2⟩:=vU hR;rw[hf2] at hR;have l2:=dec_yesIO hd2;refine xC (xP (xA 2 F rfl fun a F=>oN F rfl rfl A1 fun a F=>oF (s':=1) zY F rfl rfl A1 xI.f0 fun a p10 h16 F=>olI isAgg2 F rfl rfl H.sm h16 fun a i8 F=>xA 1 F rfl fun a F=>xJ ?_));refine qY F rfl l2 (xL (xF (xC ?_)));have j2:=k64O hd2 (show xY (1) by decide) i8;have m2:=inc64O hd2 (show xY (1) by decide) i8;refine xS (xP (xA 1 F rfl fun a F=>xJ (xC (xP (xA 1 F rfl fun a F=>qD ?_)))));refine xF ?_;obtain⟨o3,hR,hk3⟩:=xK hR;refine xW (fun a w=>∃ (s3:Int) (s4:Bool),o3= .nx (s3,s4)∧Sk a 103 [(0,v0),(1,v1),(7,v5),(9,v13),(10,.int .i64 (1+(k2:Int))),(11,.int .i64 s3)]∧Sep [] B w0 w [rl 1 xH 2 v13 s2,rw B 2 oM 69 v5 z4.2]∧xY s3) ?_ ?_
   ·
    refine xS ?_;obtain⟨fl3,hf3,hR⟩:=whl_gen hR;refine oR (fun g a w=>∃ (s5:Int) (s6:Bool),whl fl3 g (s5,s6)=some o3∧Sk a 103 [(0,v0),(1,v1),(7,v5),(9,v13),(10,.int .i64 (1+(k2:Int))),(11,.int .i64 s5),(12,.bool s6)]∧Sep [] B w0 w [rl 1 xH 2 v13 s2,rw B 2 oM 69 v5 z4.2]∧xY s5) N ?_ ?_
    ·
     exact⟨0,false,hR,F.su,H,(show xY (0) by decide)⟩
    intro g4 a w ⟨s5,s6,hR,F,H,i9⟩;obtain⟨ck3,t2,hg2,hR,hn3⟩:=zU hR;rw[hf3] at hR;refine xC (xC ?_);obtain⟨o4,hR,hk4⟩:=xK hR;refine xW (fun a w=>∃ (s7:Bool),o4= .nx s7∧Sk a 103 [(0,v0),(1,v1),(7,v5),(9,v13),(10,.int .i64 (1+(k2:Int))),(11,.int .i64 s5),(12,.bool s6),(76,.bool s7)]∧Sep [] B w0 w [rl 1 xH 2 v13 s2,rw B 2 oM 69 v5 z4.2]) ?_ ?_
    ·
     refine xR (xA 3 F rfl fun a F=>?_)
     rcases vG (!s6) with hb4 | hb4
     ·
      replace hR:=vS hb4 hR;have F:=F.eq (t:=69) rfl (congrArg Value.bool hb4);refine xA 2 F rfl fun a F=>oN F rfl rfl A0 fun a F=>oF (s':=1) fa35_0 F rfl rfl A0 xG.f0 fun a p12 h17 F=>olI isAgg2 F rfl rfl H.sm h17 fun a i10 F=>xA 2 F rfl fun a F=>xJ ?_;exact⟨(decide (s5<x0.size)),(Option.some.inj hR).symm,F.su,H⟩
     replace hR:=vR hb4 hR;have F:=F.eq (t:=69) rfl (congrArg Value.bool hb4);refine xA 7 F rfl fun a F=>xJ ?_;exact⟨false,(Option.some.inj hR).symm,F.su,H⟩
    intro a w ⟨s7,ho2,F,H⟩;subst ho2;have hR:=xN hk4;refine xF (qT F rfl (fun hb5=>?_) (fun hb5=>?_))
    ·
     replace hR:=vS hb5 hR;refine xL (xF (xS (xP (xA 1 F rfl fun a F=>xJ (xC (xP ?_))))));refine xA 1 F rfl fun a F=>xJ ?_;obtain⟨o5,hR,hk5⟩:=xK hR;refine xW (fun a w=>∃ (s8:Bool) (s9:Int),o5= .nx (s8,s9)∧Sk a 103 [(0,v0),(1,v1),(7,v5),(9,v13),(10,.int .i64 (1+(k2:Int))),(11,.int .i64 s5),(12,.bool s8)]∧Sep [] B w0 w [rl 1 xH 2 v13 s2,rw B 2 oM 69 v5 z4.2]∧xY s9) ?_ ?_
     ·
      refine xS ?_;obtain⟨fl4,hf4,hR⟩:=whl_gen hR;refine oR (fun g a w=>∃ (s10:Bool) (s11:Int),whl fl4 g (s10,s11)=some o5∧Sk a 103 [(0,v0),(1,v1),(7,v5),(9,v13),(10,.int .i64 (1+(k2:Int))),(11,.int .i64 s5),(12,.bool s10),(13,.int .i64 s11)]∧Sep [] B w0 w [rl 1 xH 2 v13 s2,rw B 2 oM 69 v5 z4.2]∧xY s11) N ?_ ?_
      ·
       exact⟨true,0,hR,F.su,H,(show xY (0) by decide)⟩
      intro g5 a w ⟨s10,s11,hR,F,H,i11⟩;obtain⟨ck4,t3,hg3,hR,hn4⟩:=zU hR;rw[hf4] at hR;refine xC (xC ?_);obtain⟨o6,hR,hk6⟩:=xK hR;refine xW (fun a w=>∃ (s12:Bool),o6= .nx s12∧Sk a 103 [(0,v0),(1,v1),(7,v5),(9,v13),(10,.int .i64 (1+(k2:Int))),(11,.int .i64 s5),(12,.bool s10),(13,.int .i64 s11),(82,.bool s12)]∧Sep [] B w0 w [rl 1 xH 2 v13 s2,rw B 2 oM 69 v5 z4.2]) ?_ ?_
      ·
       refine xR (xA 4 F rfl fun a F=>?_)
       rcases vG (decide (s11<(1+(k2:Int)))) with hb6 | hb6
       ·
        replace hR:=vS hb6 hR;have F:=F.eq (t:=80) rfl (congrArg Value.bool hb6);refine xA 2 F rfl fun a F=>xJ ?_;exact⟨s10,(Option.some.inj hR).symm,F.su,H⟩
       replace hR:=vR hb6 hR;have F:=F.eq (t:=80) rfl (congrArg Value.bool hb6);refine xA 2 F rfl fun a F=>xJ ?_;exact⟨false,(Option.some.inj hR).symm,F.su,H⟩
      intro a w ⟨s12,ho3,F,H⟩;subst ho3;have hR:=xN hk6;refine xF (qT F rfl (fun hb7=>?_) (fun hb7=>?_))
      ·
       replace hR:=vS hb7 hR;refine xL (xF (xC (xS (xR (xA 5 F rfl fun a F=>?_)))));obtain⟨z8,c7,hR⟩:=xB hR;refine oI underlying30 sizeOf2 F rfl rfl rfl (H.l 0 rfl) c7 fun a p13 h18 F=>olI isAgg2 F rfl rfl (Sm.refl _ _) h18 fun a i12 F=>xA 1 F rfl fun a F=>?_;obtain⟨z9,c8,hR⟩:=xB hR;refine oK F rfl call90 rfl H (spec_l05Left_c z9 c8 _ aA (H.r 1 rfl) i11 j2 i12 i9) fun a w H F=>xA 1 F rfl fun a F=>qD (qW (xF (xR (xA 1 F rfl fun a F=>?_))));obtain⟨z10,c9,hR⟩:=xB hR;refine kX F rfl rfl rfl c9 fun a F=>xA 1 F rfl fun a F=>xJ ?_;replace hR:=qZ hR hn4;exact⟨t3,(by omega),z9,z10,hR,F.su,H,(ck64 c9)⟩
      replace hR:=vR hb7 hR;refine oO (oQ (oQ ?_));replace hR:=l_brk hR hn4;refine vJ (xF ?_);exact⟨s10,s11,(Option.some.inj hR).symm,F.su,H,i11⟩
     intro a w ⟨s8,s9,ho4,F,H,i14⟩;subst ho4;have hR:=xN hk5;refine xF (xP (xA 2 F rfl fun a F=>xJ (qT F rfl (fun hb8=>?_) (fun hb8=>?_))))
     ·
      replace hR:=vS hb8 hR;refine xR (xA 1 F rfl fun a F=>?_);obtain⟨z11,c10,hR⟩:=xB hR;refine kX F rfl rfl rfl c10 fun a F=>xA 1 F rfl fun a F=>qD (qW (xF ?_));replace hR:=qZ hR hn3;exact⟨t2,(by omega),z11,s8,hR,F.su,H,(ck64 c10)⟩
     replace hR:=vR hb8 hR;refine xL (qW (xF ?_));replace hR:=qZ hR hn3;exact⟨t2,(by omega),s5,s8,hR,F.su,H,i9⟩
    replace hR:=vR hb5 hR;refine oO (oQ (oQ ?_));replace hR:=l_brk hR hn3;refine vJ (xF ?_);exact⟨s5,s6,(Option.some.inj hR).symm,F.su,H,i9⟩
   intro a w ⟨s3,s4,ho5,F,H,i15⟩;subst ho5;have hR:=xN hk3;refine xF (xR (xA 2 F rfl fun a F=>oR1z (R:=xH) (y:=s3) underlying30 sizeOf2 zeroValue2 rfl rfl F rfl rfl H (Eo.int i15) (fun a w v14 H F=>?_)));obtain⟨z12,c11,hR⟩:=xB hR;refine oPL (sz:=1) (R:=xH) (z:=(.int .i64 0)) (bytes:=8) underlying30 (by kernel_rfl) rfl rfl F rfl rfl rfl (H.s [1,0,2] rfl rfl) c11 fun a w v15 H F=>xA 1 F rfl fun a F=>qD (qW (xF (xR (xA 1 F rfl fun a F=>o_incO F rfl rfl rfl m2 fun a F=>xA 1 F rfl fun a F=>xJ ?_))));replace hR:=qZ hR hn2;exact⟨_,Nat.lt_succ_self _,k2+1,z12,v15,(by omega),hR,F.su,H⟩
 intro a w ⟨s1,v12,ho6,F,H⟩;subst ho6;have hR:=xN hk2;refine xF (xP (xA 3 F rfl fun a F=>xJ (xT ?_)));have H:=H.lw.rwo.rok;refine zV F rfl (oD F rfl) (oD F rfl) ?_;obtain rfl:=Option.some.inj hR;exact⟨_,rfl,v12,rfl,H⟩
end Go.Proofs.YticojbhjloeckaaGreat
