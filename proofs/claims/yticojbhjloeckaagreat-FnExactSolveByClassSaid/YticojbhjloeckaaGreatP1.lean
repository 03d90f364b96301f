import Derived.Test.YticojbhjloeckaaGreatZ
import Derived.Test.YticojbhjloeckaaGreatNG
namespace Go.Proofs.YticojbhjloeckaaGreat
open Go.Proofs.Tryz
set_option maxHeartbeats 1000000
set_option linter.unusedVariables false
set_option linter.unusedSimpArgs false
set_option maxRecDepth 100000
open Go.RowKit
def spec_l00In (x0:Int) (x1:Int) (x2:Int):Option Bool:=
 vO (σ:=Bool) (
  if (decide (x1≤x0)) then  some (.nx (decide (x0≤x2))) else  some (.nx false)) fun s1=>
 some s1
theorem spec_l00In_c {B:Nat→Prop} {x0:Int} {x1:Int} {x2:Int} (r:Bool) (hR:spec_l00In x0 x1 x2=some r)  (w0:World) (hN:∀ c,B c→c<w0.heap.size) (hx0:xY x0) (hx1:xY x1) (hx2:xY x2):Calls Tryz.prog 43 #[.int .i64 x0,.int .i64 x1,.int .i64 x2] w0 (vV (.bool r) w0):=by
 unfold spec_l00In at hR
 refine xV (L:=[(0,.int .i64 x0),(1,.int .i64 x1),(2,.int .i64 x2)]) func43 rfl rfl rfl (sc rfl (sc rfl (sc rfl sn))) (fun a F=>?_);have H:=Sep.start hN;refine xP (xA 1 F rfl fun a F=>xJ (xC ?_));obtain⟨o1,hR,hk1⟩:=xK hR;refine xW (fun a w=>∃ (s1:Bool),o1= .nx s1∧Sk a 15 [(6,.bool s1)]∧Sep [] B w0 w []) ?_ ?_
 ·
  refine xR (xA 4 F rfl fun a F=>?_)
  rcases vG (decide (x1≤x0)) with hb16 | hb16
  ·
   replace hR:=vS hb16 hR;have F:=F.eq (t:=10) rfl (congrArg Value.bool hb16);refine xA 5 F rfl fun a F=>xJ ?_;exact⟨(decide (x0≤x2)),(Option.some.inj hR).symm,F.su,H⟩
  replace hR:=vR hb16 hR;have F:=F.eq (t:=10) rfl (congrArg Value.bool hb16);refine xA 5 F rfl fun a F=>xJ ?_;exact⟨false,(Option.some.inj hR).symm,F.su,H⟩
 intro a w ⟨s1,ho1,F,H⟩;subst ho1;have hR:=xN hk1;refine xF (xT (xO F rfl (oD F rfl) ?_));obtain rfl:=Option.some.inj hR;exact⟨rfl,H.bl⟩
def spec_l01Size (x0:Int):Option Bool:=
 xX (spec_l00In x0 1 4) fun z1=>
 some z1
theorem spec_l01Size_c {B:Nat→Prop} {x0:Int} (r:Bool) (hR:spec_l01Size x0=some r)  (w0:World) (hN:∀ c,B c→c<w0.heap.size) (hx0:xY x0):Calls Tryz.prog 83 #[.int .i64 x0] w0 (vV (.bool r) w0):=by
 unfold spec_l01Size at hR
 refine xV (L:=[(0,.int .i64 x0)]) func83 rfl rfl rfl (sc rfl sn) (fun a F=>?_);have H:=Sep.start hN;refine xP (xA 1 F rfl fun a F=>qU (xA 1 F rfl fun a F=>?_));obtain⟨z1,c1,hR⟩:=xB hR;refine oK F rfl call43 rfl H (spec_l00In_c z1 c1 _ aA hx0 (show xY (1) by decide) (show xY (4) by decide)) fun a w H F=>xA 1 F rfl fun a F=>xJ (xT (xO F rfl (oD F rfl) ?_));obtain rfl:=Option.some.inj hR;exact⟨rfl,H.bl⟩
def spec_l01Arity (x0:Int):Option Bool:=
 xX (spec_l00In x0 1 4) fun z1=>
 some z1
theorem spec_l01Arity_c {B:Nat→Prop} {x0:Int} (r:Bool) (hR:spec_l01Arity x0=some r)  (w0:World) (hN:∀ c,B c→c<w0.heap.size) (hx0:xY x0):Calls Tryz.prog 123 #[.int .i64 x0] w0 (vV (.bool r) w0):=by
 unfold spec_l01Arity at hR
 refine xV (L:=[(0,.int .i64 x0)]) func123 rfl rfl rfl (sc rfl sn) (fun a F=>?_);have H:=Sep.start hN;refine xP (xA 1 F rfl fun a F=>qU (xA 1 F rfl fun a F=>?_));obtain⟨z1,c1,hR⟩:=xB hR;refine oK F rfl call43 rfl H (spec_l00In_c z1 c1 _ aA hx0 (show xY (1) by decide) (show xY (4) by decide)) fun a w H F=>xA 1 F rfl fun a F=>xJ (xT (xO F rfl (oD F rfl) ?_));obtain rfl:=Option.some.inj hR;exact⟨rfl,H.bl⟩
def spec_l01Tuple (x0:Int) (x1:Int) (x2:List Int):Option Bool:=
 vO (σ:=Unit) (
  qK (σ:=Unit) (ρ:=Bool) (fun(k1:Nat) (x3:Int) (s:Unit)=>
    match s with
    | _=>
    xX (ck (x0 - 1)) fun z1=>
    xX (spec_l00In x3 0 z1) fun z2=>
    if (!z2) then
     some (.ret false)
    else
     some (.go ())) x2 0 ()) fun _=>
 some (((x2.length:Int)==x1))
theorem spec_l01Tuple_c {B:Nat→Prop} {x0:Int} {x1:Int} {x2:List Int} (r:Bool) (hR:spec_l01Tuple x0 x1 x2=some r) {v2:Value} (w0:World) (hN:∀ c,B c→c<w0.heap.size) (hx0:xY x0) (hx1:xY x1) (A2:Bo B w0 (Sl 1 xH) v2 x2):Calls Tryz.prog 124 #[.int .i64 x0,.int .i64 x1,v2] w0 (vV (.bool r) w0):=by
 unfold spec_l01Tuple at hR
 refine xV (L:=[(0,.int .i64 x0),(1,.int .i64 x1),(2,v2)]) func124 rfl rfl rfl (sc rfl (sc rfl (sc rfl sn))) (fun a F=>?_);have H:=Sep.start hN;refine xP (xA 1 F rfl fun a F=>xJ (xC (xP (xA 1 F rfl fun a F=>xJ ?_))));obtain⟨o1,hR,hk1⟩:=xK hR;refine xW (fun a w=>o1= .nx ()∧Sk a 26 [(1,.int .i64 x1),(2,v2)]∧Sep [] B w0 w []) ?_ ?_
 ·
  refine xS ?_;obtain⟨fl1,hf1,hR⟩:=qE hR;refine oR (fun g a w=>∃ (k1:Nat) (t1:List Int),(k1≤x2.length∧x2.drop k1=t1)∧t1.length=g∧qK fl1 t1 k1 ()=some o1∧Sk a 26 [(7,.int .i64 (k1:Int)),(0,.int .i64 x0),(1,.int .i64 x1),(2,v2)]∧Sep [] B w0 w []) x2.length ?_ ?_
  ·
   exact⟨0,x2,⟨Nat.zero_le _,rfl⟩,rfl,hR,F.su,H⟩
  intro g1 a w ⟨k1,t1,hd1,hg32,hR,F,H⟩
  cases t1 with
  | nil=>
   replace hR:=qG hR;have q1:=qH hd1.1 hd1.2;have l1:=vA q1;refine xC (xP (xA 2 F rfl fun a F=>oL underlying30 F rfl rfl A2 fun a i1 F=>xA 1 F rfl fun a F=>xJ (qV F rfl l1 (oO ?_))));refine oQ (oQ (vJ (xF ?_)));exact⟨(Option.some.inj hR).symm,F.su,H⟩
  | cons x3 t1=>
   subst hg32;replace hd1:=oH hd1.2;have y1:=oV hd1.2.1;obtain⟨ck1,hR,hn1⟩:=oU hR;rw[hf1] at hR;have l1:=qP hd1.1;refine xC (xP (xA 2 F rfl fun a F=>oL underlying30 F rfl rfl A2 fun a i2 F=>xA 1 F rfl fun a F=>xJ (qY F rfl l1 (xL ?_))));refine xF (xC ?_);have j1:=k64 (Nat.le_of_lt hd1.1) i2;have m1:=zA hd1.1 i2;refine xS (xP (xA 2 F rfl fun a F=>oI underlying30 sizeOf2 F rfl rfl rfl A2 y1 fun a p1 h1 F=>olI isAgg2 F rfl rfl H.sm h1 fun a i3 F=>xA 1 F rfl fun a F=>?_));obtain⟨z1,c1,hR⟩:=xB hR;refine o_sub F rfl rfl rfl c1 (fun a F=>?_);obtain⟨z2,c2,hR⟩:=xB hR;refine oK F rfl call43 rfl H (spec_l00In_c z2 c2 _ aA i3 (show xY (0) by decide) (ck64 c1)) fun a w H F=>xA 1 F rfl fun a F=>xJ (qT F rfl (fun hb1=>?_) (fun hb1=>?_))
   ·
    replace hR:=vS hb1 hR;refine xP (xA 1 F rfl fun a F=>xJ (xT (vH (oE (oE ?_)))));replace hR:=zS hR hn1;refine vH (oE ?_);replace hR:=zR hR hk1;refine oE (xO F rfl (oD F rfl) ?_);obtain rfl:=Option.some.inj hR;exact⟨rfl,H.bl⟩
   replace hR:=vR hb1 hR;refine xL (qW (xF (xR (xA 1 F rfl fun a F=>qR F rfl rfl rfl m1 fun a F=>xA 1 F rfl fun a F=>xJ ?_))));replace hR:=qZ hR hn1;exact⟨_,Nat.lt_succ_self _,k1+1,t1,⟨hd1.1,hd1.2.2⟩,rfl,hR,F.su,H⟩
 intro a w ⟨ho1,F,H⟩;subst ho1;have hR:=xN hk1;refine xF (xP (xA 1 F rfl fun a F=>oL underlying30 F rfl rfl A2 fun a i4 F=>xA 3 F rfl fun a F=>xJ (xT ?_)));refine xO F rfl (oD F rfl) ?_;obtain rfl:=Option.some.inj hR;exact⟨rfl,H.bl⟩
def spec_l01Before (x0:List Int) (x1:List Int):Option Bool:=
 vO (σ:=Unit) (
  qK (σ:=Unit) (ρ:=Bool) (fun(k1:Nat) (x2:Int) (s:Unit)=>
    match s with
    | _=>
    xX (ix x1 (k1:Int)) fun z1=>
    if (x2 != z1) then
     some (.ret ((decide (x2<z1))))
    else
     some (.go ())) x0 0 ()) fun _=>
 some false
theorem spec_l01Before_c {B:Nat→Prop} {x0:List Int} {x1:List Int} (r:Bool) (hR:spec_l01Before x0 x1=some r) {v0:Value} {v1:Value} (w0:World) (hN:∀ c,B c→c<w0.heap.size) (A0:Bo B w0 (Sl 1 xH) v0 x0) (A1:Bo B w0 (Sl 1 xH) v1 x1):Calls Tryz.prog 125 #[v0,v1] w0 (vV (.bool r) w0):=by
 unfold spec_l01Before at hR
 refine xV (L:=[(0,v0),(1,v1)]) func125 rfl rfl rfl (sc rfl (sc rfl sn)) (fun a F=>?_);have H:=Sep.start hN;refine xP (xA 1 F rfl fun a F=>xJ (xC (xP (xA 1 F rfl fun a F=>xJ ?_))));obtain⟨o1,hR,hk1⟩:=xK hR;refine xW (fun a w=>o1= .nx ()∧Sk a 30 []∧Sep [] B w0 w []) ?_ ?_
 ·
  refine xS ?_;obtain⟨fl32,hf1,hR⟩:=qE hR;refine oR (fun g a w=>∃ (k1:Nat) (t1:List Int),(k1≤x0.length∧x0.drop k1=t1)∧t1.length=g∧qK fl32 t1 k1 ()=some o1∧Sk a 30 [(5,.int .i64 (k1:Int)),(0,v0),(1,v1)]∧Sep [] B w0 w []) x0.length ?_ ?_
  ·
   exact⟨0,x0,⟨Nat.zero_le _,rfl⟩,rfl,hR,F.su,H⟩
  intro g1 a w ⟨k1,t1,hd1,hg1,hR,F,H⟩
  cases t1 with
  | nil=>
   replace hR:=qG hR;have q1:=qH hd1.1 hd1.2;have l1:=vA q1;refine xC (xP (xA 2 F rfl fun a F=>oL underlying30 F rfl rfl A0 fun a i1 F=>xA 1 F rfl fun a F=>xJ (qV F rfl l1 (oO ?_))));refine oQ (oQ (vJ (xF ?_)));exact⟨(Option.some.inj hR).symm,F.sub sn,H⟩
  | cons x2 t1=>
   subst hg1;replace hd1:=oH hd1.2;have y1:=oV hd1.2.1;obtain⟨ck1,hR,hn1⟩:=oU hR;rw[hf1] at hR;have l1:=qP hd1.1;refine xC (xP (xA 2 F rfl fun a F=>oL underlying30 F rfl rfl A0 fun a i2 F=>xA 1 F rfl fun a F=>xJ (qY F rfl l1 (xL ?_))));refine xF (xC ?_);have j1:=k64 (Nat.le_of_lt hd1.1) i2;have m1:=zA hd1.1 i2;refine xS (xC (xQ H (by kernel_rfl) (by kernel_rfl) (xU F rfl (fun w l=>xM F rfl) fun a F=>xU F rfl (fun w l=>xM F rfl) fun a F=>qI underlying30 sizeOf2 F rfl rfl rfl A0 y1 fun a p1 h1 F=>qlI isAgg2 F rfl rfl H.q h1 fun a i3 F=>xU F rfl (fun w l=>xM F rfl) fun a F=>xU F rfl (fun w l=>xM F rfl) (fun a F=>?_))));obtain⟨z1,c1,hR⟩:=xB hR;refine qI underlying30 sizeOf2 F rfl rfl rfl A1 c1 fun a p2 h2 F=>qlI isAgg2 F rfl rfl H.q h2 fun a i4 F=>xU F rfl (fun w l=>r_neq F rfl rfl) fun a F=>kP fun w H=>xF (qT F rfl (fun hb1=>?_) (fun hb1=>?_))
   ·
    replace hR:=vS hb1 hR;refine xC (xQ H (by kernel_rfl) (by kernel_rfl) (xU F rfl (fun w l=>xM F rfl) fun a F=>xU F rfl (fun w l=>xM F rfl) fun a F=>qI underlying30 sizeOf2 F rfl rfl rfl A0 y1 fun a p3 h3 F=>qlI isAgg2 F rfl rfl H.q h3 fun a i5 F=>xU F rfl (fun w l=>xM F rfl) fun a F=>xU F rfl (fun w l=>xM F rfl) fun a F=>qI underlying30 sizeOf2 F rfl rfl rfl A1 c1 fun a p4 h4 F=>qlI isAgg2 F rfl rfl H.q h4 fun a i6 F=>xU F rfl (fun w l=>r_lss F rfl rfl) (fun a F=>?_)));refine xU F rfl (fun w l=>kL F rfl) fun a F=>kP fun w H=>xF (xT (vH (oE (oE ?_))));replace hR:=zS hR hn1;refine vH (oE ?_);replace hR:=zR hR hk1;refine oE (xO F rfl (oD F rfl) ?_);obtain rfl:=Option.some.inj hR;exact⟨rfl,H.bl⟩
   replace hR:=vR hb1 hR;refine xL (qW (xF (xR (xA 1 F rfl fun a F=>qR F rfl rfl rfl m1 fun a F=>xA 1 F rfl fun a F=>xJ ?_))));replace hR:=qZ hR hn1;exact⟨_,Nat.lt_succ_self _,k1+1,t1,⟨hd1.1,hd1.2.2⟩,rfl,hR,F.su,H⟩
 intro a w ⟨ho1,F,H⟩;subst ho1;have hR:=xN hk1;refine xF (xP (xA 1 F rfl fun a F=>xJ (xT (xO F rfl (oD F rfl) ?_))));obtain rfl:=Option.some.inj hR;exact⟨rfl,H.bl⟩
def spec_l01Ok (x0:Int) (x1:Rel):Option Bool:=
 vO (σ:=Bool) (
  xX (spec_l01Size x0) fun z1=>
  if (!z1) then  some (.nx true) else  xX (spec_l01Arity x1.arity) fun z2=>
   some (.nx (!z2))) fun s1=>
 if s1 then
  some false
 else
  vO (σ:=Unit) (
   qK (σ:=Unit) (ρ:=Bool) (fun(k1:Nat) (x2:(List Int)) (s:Unit)=>
     match s with
     | _=>
     vO (σ:=Bool) (
      xX (spec_l01Tuple x0 x1.arity x2) fun z3=>
      if (!z3) then  some (.nx true) else  if (decide (0<(k1:Int))) then  xX (ck ((k1:Int) - 1)) fun z4=>
        xX (ix x1.tuples z4) fun z5=>
        xX (spec_l01Before z5 x2) fun z6=>
        some (.nx (!z6)) else  some (.nx false)) fun s2=>
     if s2 then
      some (.ret false)
     else
      some (.go ())) x1.tuples 0 ()) fun _=>
  some true
theorem spec_l01Ok_c {B:Nat→Prop} {x0:Int} {x1:Rel} (r:Bool) (hR:spec_l01Ok x0 x1=some r) {v1:Value} (w0:World) (hN:∀ c,B c→c<w0.heap.size) (hx0:xY x0) (A1:Bo B w0 (Pt 2 oM) v1 x1):Calls Tryz.prog 82 #[.int .i64 x0,v1] w0 (vV (.bool r) w0):=by
 unfold spec_l01Ok at hR
 refine xV (L:=[(0,.int .i64 x0),(1,v1)]) func82 rfl rfl rfl (sc rfl (sc rfl sn)) (fun a F=>?_);have H:=Sep.start hN;refine xP (xA 1 F rfl fun a F=>xJ (xC (xC ?_)));obtain⟨o1,hR,hk1⟩:=xK hR;refine xW (fun a w=>∃ (s1:Bool),o1= .nx s1∧Sk a 63 [(0,.int .i64 x0),(1,v1),(16,.bool s1)]∧Sep [] B w0 w []) ?_ ?_
 ·
  refine xR (xA 1 F rfl fun a F=>?_);obtain⟨z1,c1,hR⟩:=xB hR;refine oK F rfl call83 rfl H (spec_l01Size_c z1 c1 _ aA hx0) fun a w H F=>xA 2 F rfl fun a F=>?_
  rcases vG (!z1) with hb1 | hb1
  ·
   replace hR:=vS hb1 hR;have F:=F.eq (t:=9) rfl (congrArg Value.bool hb1);refine xA 7 F rfl fun a F=>xJ ?_;exact⟨true,(Option.some.inj hR).symm,F.su,H⟩
  replace hR:=vR hb1 hR;have F:=F.eq (t:=9) rfl (congrArg Value.bool hb1);refine xA 1 F rfl fun a F=>oN F rfl rfl A1 fun a F=>oF (s':=1) fa69_0 F rfl rfl A1 oM.f0 fun a p1 h1 F=>olI isAgg2 F rfl rfl H.sm h1 (fun a i1 F=>?_);obtain⟨z2,c2,hR⟩:=xB hR;refine oK F rfl call123 rfl H (spec_l01Arity_c z2 c2 _ aA i1) fun a w H F=>xA 2 F rfl fun a F=>xJ ?_;exact⟨(!z2),(Option.some.inj hR).symm,F.su,H⟩
 intro a w ⟨s1,ho1,F,H⟩;subst ho1;have hR:=xN hk1;refine xF (qT F rfl (fun hb2=>?_) (fun hb2=>?_))
 ·
  replace hR:=vS hb2 hR;refine xP (xA 1 F rfl fun a F=>xJ (xT (oE (xO F rfl (oD F rfl) ?_))));obtain rfl:=Option.some.inj hR;exact⟨rfl,H.bl⟩
 replace hR:=vR hb2 hR;refine xL (xF (xC (xP (xA 1 F rfl fun a F=>xJ ?_))));obtain⟨o2,hR,hk2⟩:=xK hR;refine xW (fun a w=>o2= .nx ()∧Sk a 63 []∧Sep [] B w0 w []) ?_ ?_
 ·
  refine xS ?_;obtain⟨fl1,hf1,hR⟩:=qE hR;refine oR (fun g a w=>∃ (k1:Nat) (t1:List (List Int)),(k1≤x1.tuples.length∧x1.tuples.drop k1=t1)∧t1.length=g∧qK fl1 t1 k1 ()=some o2∧Sk a 63 [(5,.int .i64 (k1:Int)),(0,.int .i64 x0),(1,v1)]∧Sep [] B w0 w []) x1.tuples.length ?_ ?_
  ·
   exact⟨0,x1.tuples,⟨Nat.zero_le _,rfl⟩,rfl,hR,F.su,H⟩
  intro g1 a w ⟨k1,t1,hd1,hg1,hR,F,H⟩
  cases t1 with
  | nil=>
   replace hR:=qG hR;have q1:=qH hd1.1 hd1.2;have l1:=vA q1;refine xC (xP (xA 2 F rfl fun a F=>oN F rfl rfl A1 fun a F=>oF (s':=1) vX F rfl rfl A1 oM.f1 fun a p2 h2 F=>olS isAgg67 F rfl rfl H.sm h2 fun a v2 h3 F=>oL underlying67 F rfl rfl h3 fun a i2 F=>xA 1 F rfl fun a F=>qD ?_));refine xF (qV F rfl l1 (oO (oQ (oQ (vJ (xF ?_))))));exact⟨(Option.some.inj hR).symm,F.sub sn,H⟩
  | cons x2 t1=>
   subst hg1;replace hd1:=oH hd1.2;have y1:=oV hd1.2.1;obtain⟨ck1,hR,hn1⟩:=oU hR;rw[hf1] at hR;have l1:=qP hd1.1;refine xC (xP (xA 2 F rfl fun a F=>oN F rfl rfl A1 fun a F=>oF (s':=1) vX F rfl rfl A1 oM.f1 fun a p3 h4 F=>olS isAgg67 F rfl rfl H.sm h4 fun a v3 h5 F=>oL underlying67 F rfl rfl h5 fun a i3 F=>xA 1 F rfl fun a F=>qD ?_));refine xF (qY F rfl l1 (xL (xF (xC ?_))));have j1:=k64 (Nat.le_of_lt hd1.1) i3;have m1:=zA hd1.1 i3;refine xS (xC ?_);obtain⟨o3,hR,hk3⟩:=xK hR;refine xW (fun a w=>∃ (s2:Bool),o3= .nx s2∧Sk a 63 [(0,.int .i64 x0),(1,v1),(5,.int .i64 (k1:Int)),(62,.bool s2)]∧Sep [] B w0 w []) ?_ ?_
   ·
    refine xQ H (by kernel_rfl) (by kernel_rfl) (xU F rfl (fun w l=>xM F rfl) fun a F=>xU F rfl (fun w l=>xM F rfl) fun a F=>qN F rfl rfl A1 fun a F=>qF (s':=1) fa69_0 F rfl rfl A1 oM.f0 fun a p4 h6 F=>qlI isAgg2 F rfl rfl H.q h6 fun a i4 F=>xU F rfl (fun w l=>xM F rfl) fun a F=>qN F rfl rfl A1 fun a F=>qF (s':=1) vX F rfl rfl A1 oM.f1 fun a p5 h7 F=>qlS isAgg67 F rfl rfl H.q h7 fun a v4 h8 F=>xU F rfl (fun w l=>xM F rfl) (fun a F=>?_));refine qI underlying67 sizeOf30 F rfl rfl rfl h8 y1 fun a p6 h9 F=>qlS isAgg30 F rfl rfl H.q h9 (fun a v5 h10 F=>?_);obtain⟨z3,c3,hR⟩:=xB hR;refine q_says F rfl call124 rfl (fun w w' h l=>l.through h) (fun w l=>spec_l01Tuple_c z3 c3 w aA hx0 i4 ((H.go l).a h10)) fun a F=>xU F rfl (fun w l=>r_not F rfl) fun a F=>xU F rfl (fun w l=>xM F rfl) (fun a F=>?_)
    rcases vG (!z3) with hb3 | hb3
    ·
     replace hR:=vS hb3 hR;have F:=F.eq (t:=40) rfl (congrArg Value.bool hb3);refine qS F rfl rfl fun a F=>qS F rfl rfl fun a F=>qS F rfl rfl fun a F=>qS F rfl rfl fun a F=>qS F rfl rfl fun a F=>qS F rfl rfl fun a F=>qS F rfl rfl fun a F=>qS F rfl rfl fun a F=>qS F rfl rfl fun a F=>qS F rfl rfl fun a F=>qS F rfl rfl (fun a F=>?_);refine qS F rfl rfl fun a F=>qS F rfl rfl fun a F=>qS F rfl rfl fun a F=>qS F rfl rfl fun a F=>qS F rfl rfl fun a F=>qS F rfl rfl fun a F=>qS F rfl rfl fun a F=>qS F rfl rfl fun a F=>qS F rfl rfl fun a F=>qS F rfl rfl fun a F=>xU F rfl (fun w l=>r_pickt F rfl rfl) (fun a F=>?_);refine kP fun w H=>xF ?_;exact⟨true,(Option.some.inj hR).symm,F.su,H⟩
    replace hR:=vR hb3 hR;have F:=F.eq (t:=40) rfl (congrArg Value.bool hb3);refine xU F rfl (fun w l=>xM F rfl) fun a F=>xU F rfl (fun w l=>r_gtr F rfl rfl) fun a F=>xU F rfl (fun w l=>xM F rfl) (fun a F=>?_)
    rcases vG (decide (0<(k1:Int))) with hb4 | hb4
    ·
     replace hR:=vS hb4 hR;have F:=F.eq (t:=43) rfl (congrArg Value.bool hb4);refine xU F rfl (fun w l=>xM F rfl) fun a F=>qN F rfl rfl A1 fun a F=>qF (s':=1) vX F rfl rfl A1 oM.f1 fun a p7 h11 F=>qlS isAgg67 F rfl rfl H.q h11 fun a v6 h12 F=>xU F rfl (fun w l=>xM F rfl) (fun a F=>?_);obtain⟨z4,c4,hR⟩:=xB hR;refine xU F rfl (fun w l=>r_sub F rfl rfl c4) (fun a F=>?_);obtain⟨z5,c5,hR⟩:=xB hR;refine qI underlying67 sizeOf30 F rfl rfl rfl h12 c5 fun a p8 h13 F=>qlS isAgg30 F rfl rfl H.q h13 fun a v7 h14 F=>xU F rfl (fun w l=>xM F rfl) fun a F=>qN F rfl rfl A1 fun a F=>qF (s':=1) vX F rfl rfl A1 oM.f1 fun a p9 h15 F=>qlS isAgg67 F rfl rfl H.q h15 fun a v8 h16 F=>xU F rfl (fun w l=>xM F rfl) fun a F=>qI underlying67 sizeOf30 F rfl rfl rfl h16 y1 fun a p10 h17 F=>qlS isAgg30 F rfl rfl H.q h17 (fun a v9 h18 F=>?_);obtain⟨z6,c6,hR⟩:=xB hR;refine q_says F rfl call125 rfl (fun w w' h l=>l.through h) (fun w l=>spec_l01Before_c z6 c6 w aA ((H.go l).a h14) ((H.go l).a h18)) fun a F=>xU F rfl (fun w l=>r_not F rfl) fun a F=>xU F rfl (fun w l=>r_pickt F rfl rfl) fun a F=>xU F rfl (fun w l=>r_pickf F rfl rfl) fun a F=>kP fun w H=>xF ?_;exact⟨(!z6),(Option.some.inj hR).symm,F.su,H⟩
    replace hR:=vR hb4 hR;have F:=F.eq (t:=43) rfl (congrArg Value.bool hb4);refine qS F rfl rfl fun a F=>qS F rfl rfl fun a F=>qS F rfl rfl fun a F=>qS F rfl rfl fun a F=>qS F rfl rfl fun a F=>qS F rfl rfl fun a F=>qS F rfl rfl fun a F=>qS F rfl rfl fun a F=>qS F rfl rfl fun a F=>qS F rfl rfl fun a F=>qS F rfl rfl (fun a F=>?_);refine qS F rfl rfl fun a F=>qS F rfl rfl fun a F=>qS F rfl rfl fun a F=>qS F rfl rfl fun a F=>qS F rfl rfl fun a F=>qS F rfl rfl fun a F=>xU F rfl (fun w l=>r_pickf F rfl rfl) fun a F=>xU F rfl (fun w l=>r_pickf F rfl rfl) fun a F=>kP fun w H=>xF ?_;exact⟨false,(Option.some.inj hR).symm,F.su,H⟩
   intro a w ⟨s2,ho2,F,H⟩;subst ho2;have hR:=xN hk3;refine xF (qT F rfl (fun hb5=>?_) (fun hb5=>?_))
   ·
    replace hR:=vS hb5 hR;refine xP (xA 1 F rfl fun a F=>xJ (xT (vH (oE (oE ?_)))));replace hR:=zS hR hn1;refine vH (oE ?_);replace hR:=zR hR hk2;refine oE (xO F rfl (oD F rfl) ?_);obtain rfl:=Option.some.inj hR;exact⟨rfl,H.bl⟩
   replace hR:=vR hb5 hR;refine xL (qW (xF (xR (xA 1 F rfl fun a F=>qR F rfl rfl rfl m1 fun a F=>xA 1 F rfl fun a F=>xJ ?_))));replace hR:=qZ hR hn1;exact⟨_,Nat.lt_succ_self _,k1+1,t1,⟨hd1.1,hd1.2.2⟩,rfl,hR,F.su,H⟩
 intro a w ⟨ho3,F,H⟩;subst ho3;have hR:=xN hk2;refine xF (xP (xA 1 F rfl fun a F=>xJ (xT (xO F rfl (oD F rfl) ?_))));obtain rfl:=Option.some.inj hR;exact⟨rfl,H.bl⟩
def spec_l01Template (x0:Template):Option Bool:=
 vO (σ:=Unit) (
  qK (σ:=Unit) (ρ:=Bool) (fun(k1:Nat) (x1:Rel) (s:Unit)=>
    match s with
    | _=>
    xX (spec_l01Ok x0.size x1) fun z1=>
    if (!z1) then
     some (.ret false)
    else
     some (.go ())) x0.rels 0 ()) fun _=>
 vO (σ:=Bool) (
  xX (spec_l01Size x0.size) fun z2=>
  if z2 then  some (.nx (decide ((x0.rels.length:Int)≤6))) else  some (.nx false)) fun s1=>
 some s1
theorem spec_l01Template_c {B:Nat→Prop} {x0:Template} (r:Bool) (hR:spec_l01Template x0=some r) {v0:Value} (w0:World) (hN:∀ c,B c→c<w0.heap.size) (A0:Bo B w0 (Pt 2 xG) v0 x0):Calls Tryz.prog 42 #[v0] w0 (vV (.bool r) w0):=by
 unfold spec_l01Template at hR
 refine xV (L:=[(0,v0)]) func42 rfl rfl rfl (sc rfl sn) (fun a F=>?_);have H:=Sep.start hN;refine xP (xA 1 F rfl fun a F=>xJ (xC (xP (xA 1 F rfl fun a F=>xJ ?_))));obtain⟨o1,hR,hk1⟩:=xK hR;refine xW (fun a w=>o1= .nx ()∧Sk a 38 [(0,v0)]∧Sep [] B w0 w []) ?_ ?_
 ·
  refine xS ?_;obtain⟨fl1,hf1,hR⟩:=qE hR;refine oR (fun g a w=>∃ (k1:Nat) (t1:List Rel),(k1≤x0.rels.length∧x0.rels.drop k1=t1)∧t1.length=g∧qK fl1 t1 k1 ()=some o1∧Sk a 38 [(3,.int .i64 (k1:Int)),(0,v0)]∧Sep [] B w0 w []) x0.rels.length ?_ ?_
  ·
   exact⟨0,x0.rels,⟨Nat.zero_le _,rfl⟩,rfl,hR,F.su,H⟩
  intro g1 a w ⟨k1,t1,hd1,hg1,hR,F,H⟩
  cases t1 with
  | nil=>
   replace hR:=qG hR;have q1:=qH hd1.1 hd1.2;have l1:=vA q1;refine xC (xP (xA 2 F rfl fun a F=>oN F rfl rfl A0 fun a F=>oF (s':=1) fa35_1 F rfl rfl A0 xG.f1 fun a p1 h1 F=>olS isAgg33 F rfl rfl H.sm h1 fun a v64 h2 F=>oL underlying33 F rfl rfl h2 fun a i1 F=>xA 1 F rfl fun a F=>qD ?_));refine xF (qV F rfl l1 (oO (oQ (oQ (vJ (xF ?_))))));exact⟨(Option.some.inj hR).symm,F.su,H⟩
  | cons x1 t1=>
   subst hg1;replace hd1:=oH hd1.2;have y1:=oV hd1.2.1;obtain⟨ck1,hR,hn1⟩:=oU hR;rw[hf1] at hR;have l1:=qP hd1.1;refine xC (xP (xA 2 F rfl fun a F=>oN F rfl rfl A0 fun a F=>oF (s':=1) fa35_1 F rfl rfl A0 xG.f1 fun a p2 h3 F=>olS isAgg33 F rfl rfl H.sm h3 fun a v1 h4 F=>oL underlying33 F rfl rfl h4 fun a i2 F=>xA 1 F rfl fun a F=>qD ?_));refine xF (qY F rfl l1 (xL (xF (xC ?_))));have j1:=k64 (Nat.le_of_lt hd1.1) i2;have m1:=zA hd1.1 i2;refine xS (xC (xQ H (by kernel_rfl) (by kernel_rfl) (xU F rfl (fun w l=>xM F rfl) fun a F=>qN F rfl rfl A0 fun a F=>qF (s':=1) fa35_0 F rfl rfl A0 xG.f0 fun a p3 h5 F=>qlI isAgg2 F rfl rfl H.q h5 fun a i3 F=>xU F rfl (fun w l=>xM F rfl) fun a F=>qN F rfl rfl A0 fun a F=>qF (s':=1) fa35_1 F rfl rfl A0 xG.f1 fun a p4 h6 F=>qlS isAgg33 F rfl rfl H.q h6 (fun a v2 h7 F=>?_))));refine xU F rfl (fun w l=>xM F rfl) fun a F=>qI underlying33 sizeOf69 F rfl rfl rfl h7 y1 (fun a p5 h8 F=>?_);obtain⟨z1,c1,hR⟩:=xB hR;refine q_says F rfl call82 rfl (fun w w' h l=>l.through h) (fun w l=>spec_l01Ok_c z1 c1 w aA i3 ((H.go l).a h8)) fun a F=>xU F rfl (fun w l=>r_not F rfl) fun a F=>kP fun w H=>xF (qT F rfl (fun hb1=>?_) (fun hb1=>?_))
   ·
    replace hR:=vS hb1 hR;refine xP (xA 1 F rfl fun a F=>xJ (xT (vH (oE (oE ?_)))));replace hR:=zS hR hn1;refine vH (oE ?_);replace hR:=zR hR hk1;refine oE (xO F rfl (oD F rfl) ?_);obtain rfl:=Option.some.inj hR;exact⟨rfl,H.bl⟩
   replace hR:=vR hb1 hR;refine xL (qW (xF (xR (xA 1 F rfl fun a F=>qR F rfl rfl rfl m1 fun a F=>xA 1 F rfl fun a F=>xJ ?_))));replace hR:=qZ hR hn1;exact⟨_,Nat.lt_succ_self _,k1+1,t1,⟨hd1.1,hd1.2.2⟩,rfl,hR,F.su,H⟩
 intro a w ⟨ho1,F,H⟩;subst ho1;have hR:=xN hk1;refine xF (xC ?_);obtain⟨o2,hR,hk2⟩:=xK hR;refine xW (fun a w=>∃ (s1:Bool),o2= .nx s1∧Sk a 38 [(2,.bool s1)]∧Sep [] B w0 w []) ?_ ?_
 ·
  refine xR (xA 1 F rfl fun a F=>oN F rfl rfl A0 fun a F=>oF (s':=1) fa35_0 F rfl rfl A0 xG.f0 fun a p6 h9 F=>olI isAgg2 F rfl rfl H.sm h9 (fun a i4 F=>?_));obtain⟨z2,c2,hR⟩:=xB hR;refine oK F rfl call83 rfl H (spec_l01Size_c z2 c2 _ aA i4) fun a w H F=>xA 1 F rfl fun a F=>?_
  rcases vG z2 with hb2 | hb2
  ·
   replace hR:=vS hb2 hR;have F:=F.eq (t:=30) rfl (congrArg Value.bool hb2);refine xA 1 F rfl fun a F=>oN F rfl rfl A0 fun a F=>oF (s':=1) fa35_1 F rfl rfl A0 xG.f1 fun a p7 h10 F=>olS isAgg33 F rfl rfl H.sm h10 fun a v3 h11 F=>oL underlying33 F rfl rfl h11 fun a i5 F=>xA 3 F rfl fun a F=>xJ ?_;exact⟨(decide ((x0.rels.length:Int)≤6)),(Option.some.inj hR).symm,F.su,H⟩
  replace hR:=vR hb2 hR;have F:=F.eq (t:=30) rfl (congrArg Value.bool hb2);refine xA 8 F rfl fun a F=>xJ ?_;exact⟨false,(Option.some.inj hR).symm,F.su,H⟩
 intro a w ⟨s1,ho2,F,H⟩;subst ho2;have hR:=xN hk2;refine xF (xT (xO F rfl (oD F rfl) ?_));obtain rfl:=Option.some.inj hR;exact⟨rfl,H.bl⟩
def spec_l01Places (x0:List Int) (x1:Int):Option Bool:=
 vO (σ:=Unit) (
  qK (σ:=Unit) (ρ:=Bool) (fun(k1:Nat) (x2:Int) (s:Unit)=>
    match s with
    | _=>
    xX (ck (x1 - 1)) fun z1=>
    xX (spec_l00In x2 0 z1) fun z2=>
    if (!z2) then
     some (.ret false)
    else
     some (.go ())) x0 0 ()) fun _=>
 some true
theorem spec_l01Places_c {B:Nat→Prop} {x0:List Int} {x1:Int} (r:Bool) (hR:spec_l01Places x0 x1=some r) {v0:Value} (w0:World) (hN:∀ c,B c→c<w0.heap.size) (A0:Bo B w0 (Sl 1 xH) v0 x0) (hx1:xY x1):Calls Tryz.prog 44 #[v0,.int .i64 x1] w0 (vV (.bool r) w0):=by
 unfold spec_l01Places at hR
 refine xV (L:=[(0,v0),(1,.int .i64 x1)]) func44 rfl rfl rfl (sc rfl (sc rfl sn)) (fun a F=>?_);have H:=Sep.start hN;refine xP (xA 1 F rfl fun a F=>xJ (xC (xP (xA 1 F rfl fun a F=>xJ ?_))));obtain⟨o1,hR,hk1⟩:=xK hR;refine xW (fun a w=>o1= .nx ()∧Sk a 20 []∧Sep [] B w0 w []) ?_ ?_
 ·
  refine xS ?_;obtain⟨fl1,hf1,hR⟩:=qE hR;refine oR (fun g a w=>∃ (k1:Nat) (t1:List Int),(k1≤x0.length∧x0.drop k1=t1)∧t1.length=g∧qK fl1 t1 k1 ()=some o1∧Sk a 20 [(5,.int .i64 (k1:Int)),(0,v0),(1,.int .i64 x1)]∧Sep [] B w0 w []) x0.length ?_ ?_
  ·
   exact⟨0,x0,⟨Nat.zero_le _,rfl⟩,rfl,hR,F.su,H⟩
  intro g1 a w ⟨k1,t1,hd1,hg32,hR,F,H⟩
  cases t1 with
  | nil=>
   replace hR:=qG hR;have q1:=qH hd1.1 hd1.2;have l1:=vA q1;refine xC (xP (xA 2 F rfl fun a F=>oL underlying30 F rfl rfl A0 fun a i1 F=>xA 1 F rfl fun a F=>xJ (qV F rfl l1 (oO ?_))));refine oQ (oQ (vJ (xF ?_)));exact⟨(Option.some.inj hR).symm,F.sub sn,H⟩
  | cons x2 t1=>
   subst hg32;replace hd1:=oH hd1.2;have y1:=oV hd1.2.1;obtain⟨ck1,hR,hn1⟩:=oU hR;rw[hf1] at hR;have l1:=qP hd1.1;refine xC (xP (xA 2 F rfl fun a F=>oL underlying30 F rfl rfl A0 fun a i2 F=>xA 1 F rfl fun a F=>xJ (qY F rfl l1 (xL ?_))));refine xF (xC ?_);have j1:=k64 (Nat.le_of_lt hd1.1) i2;have m1:=zA hd1.1 i2;refine xS (xP (xA 2 F rfl fun a F=>oI underlying30 sizeOf2 F rfl rfl rfl A0 y1 fun a p1 h1 F=>olI isAgg2 F rfl rfl H.sm h1 fun a i3 F=>xA 1 F rfl fun a F=>?_));obtain⟨z1,c1,hR⟩:=xB hR;refine o_sub F rfl rfl rfl c1 (fun a F=>?_);obtain⟨z2,c2,hR⟩:=xB hR;refine oK F rfl call43 rfl H (spec_l00In_c z2 c2 _ aA i3 (show xY (0) by decide) (ck64 c1)) fun a w H F=>xA 1 F rfl fun a F=>xJ (qT F rfl (fun hb1=>?_) (fun hb1=>?_))
   ·
    replace hR:=vS hb1 hR;refine xP (xA 1 F rfl fun a F=>xJ (xT (vH (oE (oE ?_)))));replace hR:=zS hR hn1;refine vH (oE ?_);replace hR:=zR hR hk1;refine oE (xO F rfl (oD F rfl) ?_);obtain rfl:=Option.some.inj hR;exact⟨rfl,H.bl⟩
   replace hR:=vR hb1 hR;refine xL (qW (xF (xR (xA 1 F rfl fun a F=>qR F rfl rfl rfl m1 fun a F=>xA 1 F rfl fun a F=>xJ ?_))));replace hR:=qZ hR hn1;exact⟨_,Nat.lt_succ_self _,k1+1,t1,⟨hd1.1,hd1.2.2⟩,rfl,hR,F.su,H⟩
 intro a w ⟨ho1,F,H⟩;subst ho1;have hR:=xN hk1;refine xF (xP (xA 1 F rfl fun a F=>xJ (xT (xO F rfl (oD F rfl) ?_))));obtain rfl:=Option.some.inj hR;exact⟨rfl,H.bl⟩
def spec_l05Ok (x0:Template) (x1:Instance):Option Bool:=
 vO (σ:=Bool) (
  xX (spec_l01Template x0) fun z1=>
  if (!z1) then  some (.nx true) else  xX (spec_l00In x1.vars 1 10) fun z2=>
   if (!z2) then  some (.nx true) else  some (.nx (decide (24<(x1.cons.length:Int))))) fun s1=>
 if s1 then
  some false
 else
  vO (σ:=Unit) (
   qK (σ:=Unit) (ρ:=Bool) (fun(k1:Nat) (x2:Con) (s:Unit)=>
     match s with
     | _=>
     vO (σ:=Bool) (
      xX (ck ((x0.rels.length:Int) - 1)) fun z3=>
      xX (spec_l00In x2.rel 0 z3) fun z4=>
      if (!z4) then  some (.nx true) else  xX (ix x0.rels x2.rel) fun z5=>
       if ((x2.scope.length:Int) != z5.arity) then  some (.nx true) else  xX (spec_l01Places x2.scope x1.vars) fun z6=>
        some (.nx (!z6))) fun s2=>
     if s2 then
      some (.ret false)
     else
      some (.go ())) x1.cons 0 ()) fun _=>
  some true
theorem spec_l05Ok_c {B:Nat→Prop} {x0:Template} {x1:Instance} (r:Bool) (hR:spec_l05Ok x0 x1=some r) {v0:Value} {v1:Value} (w0:World) (hN:∀ c,B c→c<w0.heap.size) (A0:Bo B w0 (Pt 2 xG) v0 x0) (A1:Bo B w0 (Pt 2 xI) v1 x1):Calls Tryz.prog 19 #[v0,v1] w0 (vV (.bool r) w0):=by
 unfold spec_l05Ok at hR
 refine xV (L:=[(0,v0),(1,v1)]) func19 rfl rfl rfl (sc rfl (sc rfl sn)) (fun a F=>?_);have H:=Sep.start hN;refine xP (xA 1 F rfl fun a F=>xJ (xC (xC ?_)));obtain⟨o1,hR,hk1⟩:=xK hR;refine xW (fun a w=>∃ (s1:Bool),o1= .nx s1∧Sk a 84 [(0,v0),(1,v1),(25,.bool s1)]∧Sep [] B w0 w []) ?_ ?_
 ·
  refine xR (xA 1 F rfl fun a F=>?_);obtain⟨z1,c1,hR⟩:=xB hR;refine oK F rfl call42 rfl H (spec_l01Template_c z1 c1 _ aA (H.a A0)) fun a w H F=>xA 2 F rfl fun a F=>?_
  rcases vG (!z1) with hb1 | hb1
  ·
   replace hR:=vS hb1 hR;have F:=F.eq (t:=10) rfl (congrArg Value.bool hb1);refine xA 11 F rfl fun a F=>?_;refine xA 4 F rfl fun a F=>xJ ?_;exact⟨true,(Option.some.inj hR).symm,F.su,H⟩
  replace hR:=vR hb1 hR;have F:=F.eq (t:=10) rfl (congrArg Value.bool hb1);refine xA 1 F rfl fun a F=>oN F rfl rfl A1 fun a F=>oF (s':=1) zY F rfl rfl A1 xI.f0 fun a p32 h1 F=>olI isAgg2 F rfl rfl H.sm h1 (fun a i1 F=>?_);obtain⟨z2,c2,hR⟩:=xB hR;refine oK F rfl call43 rfl H (spec_l00In_c z2 c2 _ aA i1 (show xY (1) by decide) (show xY (10) by decide)) fun a w H F=>xA 3 F rfl fun a F=>?_
  rcases vG (!z2) with hb2 | hb2
  ·
   replace hR:=vS hb2 hR;have F:=F.eq (t:=18) rfl (congrArg Value.bool hb2);refine xA 7 F rfl fun a F=>xJ ?_;exact⟨true,(Option.some.inj hR).symm,F.su,H⟩
  replace hR:=vR hb2 hR;have F:=F.eq (t:=18) rfl (congrArg Value.bool hb2);refine xA 1 F rfl fun a F=>oN F rfl rfl A1 fun a F=>oF (s':=1) fa39_1 F rfl rfl A1 xI.f1 fun a p1 h2 F=>olS isAgg37 F rfl rfl H.sm h2 fun a v2 h3 F=>oL underlying37 F rfl rfl h3 fun a i2 F=>xA 2 F rfl fun a F=>xJ ?_;exact⟨(decide (24<(x1.cons.length:Int))),(Option.some.inj hR).symm,F.su,H⟩
 intro a w ⟨s1,ho1,F,H⟩;subst ho1;have hR:=xN hk1;refine xF (qT F rfl (fun hb3=>?_) (fun hb3=>?_))
 ·
  replace hR:=vS hb3 hR;refine xP (xA 1 F rfl fun a F=>xJ (xT (oE (xO F rfl (oD F rfl) ?_))));obtain rfl:=Option.some.inj hR;exact⟨rfl,H.bl⟩
 replace hR:=vR hb3 hR;refine xL (xF (xC (xP (xA 1 F rfl fun a F=>xJ ?_))));obtain⟨o2,hR,hk2⟩:=xK hR;refine xW (fun a w=>o2= .nx ()∧Sk a 84 []∧Sep [] B w0 w []) ?_ ?_
 ·
  refine xS ?_;obtain⟨fl1,hf1,hR⟩:=qE hR;refine oR (fun g a w=>∃ (k1:Nat) (t1:List Con),(k1≤x1.cons.length∧x1.cons.drop k1=t1)∧t1.length=g∧qK fl1 t1 k1 ()=some o2∧Sk a 84 [(5,.int .i64 (k1:Int)),(0,v0),(1,v1)]∧Sep [] B w0 w []) x1.cons.length ?_ ?_
  ·
   exact⟨0,x1.cons,⟨Nat.zero_le _,rfl⟩,rfl,hR,F.su,H⟩
  intro g1 a w ⟨k1,t1,hd1,hg1,hR,F,H⟩
  cases t1 with
  | nil=>
   replace hR:=qG hR;have q1:=qH hd1.1 hd1.2;have l1:=vA q1;refine xC (xP (xA 2 F rfl fun a F=>oN F rfl rfl A1 fun a F=>oF (s':=1) fa39_1 F rfl rfl A1 xI.f1 fun a p2 h4 F=>olS isAgg37 F rfl rfl H.sm h4 fun a v3 h5 F=>oL underlying37 F rfl rfl h5 fun a i3 F=>xA 1 F rfl fun a F=>qD ?_));refine xF (qV F rfl l1 (oO (oQ (oQ (vJ (xF ?_))))));exact⟨(Option.some.inj hR).symm,F.sub sn,H⟩
  | cons x2 t1=>
   subst hg1;replace hd1:=oH hd1.2;have y1:=oV hd1.2.1;obtain⟨ck1,hR,hn1⟩:=oU hR;rw[hf1] at hR;have l1:=qP hd1.1;refine xC (xP (xA 2 F rfl fun a F=>oN F rfl rfl A1 fun a F=>oF (s':=1) fa39_1 F rfl rfl A1 xI.f1 fun a p3 h6 F=>olS isAgg37 F rfl rfl H.sm h6 fun a v4 h7 F=>oL underlying37 F rfl rfl h7 fun a i4 F=>xA 1 F rfl fun a F=>qD ?_));refine xF (qY F rfl l1 (xL (xF (xC ?_))));have j1:=k64 (Nat.le_of_lt hd1.1) i4;have m1:=zA hd1.1 i4;refine xS (xP (xA 1 F rfl fun a F=>oN F rfl rfl A1 fun a F=>oF (s':=1) fa39_1 F rfl rfl A1 xI.f1 fun a p4 h8 F=>olS isAgg37 F rfl rfl H.sm h8 fun a v5 h9 F=>xA 1 F rfl fun a F=>oI underlying37 sizeOf85 F rfl rfl rfl h9 y1 fun a p5 h10 F=>xA 1 F rfl fun a F=>qD ?_));refine xF (xC ?_);obtain⟨o3,hR,hk3⟩:=xK hR;refine xW (fun a w=>∃ (s2:Bool),o3= .nx s2∧Sk a 84 [(0,v0),(1,v1),(5,.int .i64 (k1:Int)),(83,.bool s2)]∧Sep [] B w0 w []) ?_ ?_
   ·
    refine xQ H (by kernel_rfl) (by kernel_rfl) (xU F rfl (fun w l=>xM F rfl) fun a F=>qN F rfl rfl h10 fun a F=>qF (s':=1) fa85_0 F rfl rfl h10 qX.f0 fun a p6 h11 F=>qlI isAgg2 F rfl rfl H.q h11 fun a i5 F=>xU F rfl (fun w l=>xM F rfl) fun a F=>qN F rfl rfl A0 fun a F=>qF (s':=1) fa35_1 F rfl rfl A0 xG.f1 fun a p7 h12 F=>qlS isAgg33 F rfl rfl H.q h12 fun a v6 h13 F=>qL underlying33 F rfl rfl h13 (fun a i6 F=>?_));obtain⟨z3,c3,hR⟩:=xB hR;refine xU F rfl (fun w l=>r_sub F rfl rfl c3) (fun a F=>?_);obtain⟨z4,c4,hR⟩:=xB hR;refine q_says F rfl call43 rfl (fun w w' h l=>l.through h) (fun w l=>spec_l00In_c z4 c4 w aA i5 (show xY (0) by decide) (ck64 c3)) fun a F=>xU F rfl (fun w l=>r_not F rfl) fun a F=>xU F rfl (fun w l=>xM F rfl) (fun a F=>?_)
    rcases vG (!z4) with hb4 | hb4
    ·
     replace hR:=vS hb4 hR;have F:=F.eq (t:=53) rfl (congrArg Value.bool hb4);refine qS F rfl rfl fun a F=>qS F rfl rfl fun a F=>qS F rfl rfl fun a F=>qS F rfl rfl fun a F=>qS F rfl rfl fun a F=>qS F rfl rfl fun a F=>qS F rfl rfl fun a F=>qS F rfl rfl fun a F=>qS F rfl rfl fun a F=>qS F rfl rfl fun a F=>qS F rfl rfl (fun a F=>?_);refine qS F rfl rfl fun a F=>qS F rfl rfl fun a F=>qS F rfl rfl fun a F=>qS F rfl rfl fun a F=>qS F rfl rfl fun a F=>qS F rfl rfl fun a F=>xU F rfl (fun w l=>r_pickt F rfl rfl) fun a F=>xU F rfl (fun w l=>xM F rfl) fun a F=>qS F rfl rfl fun a F=>qS F rfl rfl fun a F=>qS F rfl rfl (fun a F=>?_);refine qS F rfl rfl fun a F=>qS F rfl rfl fun a F=>qS F rfl rfl fun a F=>qS F rfl rfl fun a F=>qS F rfl rfl fun a F=>qS F rfl rfl fun a F=>qS F rfl rfl fun a F=>xU F rfl (fun w l=>r_pickt F rfl rfl) fun a F=>kP fun w H=>xF ?_;exact⟨true,(Option.some.inj hR).symm,F.su,H⟩
    replace hR:=vR hb4 hR;have F:=F.eq (t:=53) rfl (congrArg Value.bool hb4);refine xU F rfl (fun w l=>xM F rfl) fun a F=>qN F rfl rfl h10 fun a F=>qF (s':=1) kV F rfl rfl h10 qX.f1 fun a p8 h14 F=>qlS isAgg30 F rfl rfl H.q h14 fun a v7 h15 F=>qL underlying30 F rfl rfl h15 fun a i7 F=>xU F rfl (fun w l=>xM F rfl) fun a F=>qN F rfl rfl A0 fun a F=>qF (s':=1) fa35_1 F rfl rfl A0 xG.f1 fun a p9 h16 F=>qlS isAgg33 F rfl rfl H.q h16 fun a v8 h17 F=>xU F rfl (fun w l=>xM F rfl) fun a F=>qN F rfl rfl h10 (fun a F=>?_);refine qF (s':=1) fa85_0 F rfl rfl h10 qX.f0 fun a p10 h18 F=>qlI isAgg2 F rfl rfl H.q h18 (fun a i8 F=>?_);obtain⟨z5,c5,hR⟩:=xB hR;refine qI underlying33 sizeOf69 F rfl rfl rfl h17 c5 fun a p11 h19 F=>qF (s':=1) fa69_0 F rfl rfl h19 oM.f0 fun a p12 h20 F=>qlI isAgg2 F rfl rfl H.q h20 fun a i9 F=>xU F rfl (fun w l=>r_neq F rfl rfl) fun a F=>xU F rfl (fun w l=>r_pickf F rfl rfl) fun a F=>xU F rfl (fun w l=>xM F rfl) (fun a F=>?_)
    rcases vG ((x2.scope.length:Int) != z5.arity) with hb5 | hb5
    ·
     replace hR:=vS hb5 hR;have F:=F.eq (t:=72) rfl (congrArg Value.bool hb5);refine qS F rfl rfl fun a F=>qS F rfl rfl fun a F=>qS F rfl rfl fun a F=>qS F rfl rfl fun a F=>qS F rfl rfl fun a F=>qS F rfl rfl fun a F=>qS F rfl rfl fun a F=>qS F rfl rfl fun a F=>qS F rfl rfl fun a F=>qS F rfl rfl fun a F=>xU F rfl (fun w l=>r_pickt F rfl rfl) (fun a F=>?_);refine kP fun w H=>xF ?_;exact⟨true,(Option.some.inj hR).symm,F.su,H⟩
    replace hR:=vR hb5 hR;have F:=F.eq (t:=72) rfl (congrArg Value.bool hb5);refine xU F rfl (fun w l=>xM F rfl) fun a F=>qN F rfl rfl h10 fun a F=>qF (s':=1) kV F rfl rfl h10 qX.f1 fun a p13 h21 F=>qlS isAgg30 F rfl rfl H.q h21 fun a v9 h22 F=>xU F rfl (fun w l=>xM F rfl) fun a F=>qN F rfl rfl A1 fun a F=>qF (s':=1) zY F rfl rfl A1 xI.f0 fun a p14 h23 F=>qlI isAgg2 F rfl rfl H.q h23 (fun a i10 F=>?_);obtain⟨z6,c6,hR⟩:=xB hR;refine q_says F rfl call44 rfl (fun w w' h l=>l.through h) (fun w l=>spec_l01Places_c z6 c6 w aA ((H.go l).a h22) i10) fun a F=>xU F rfl (fun w l=>r_not F rfl) fun a F=>xU F rfl (fun w l=>r_pickf F rfl rfl) fun a F=>kP fun w H=>xF ?_;exact⟨(!z6),(Option.some.inj hR).symm,F.su,H⟩
   intro a w ⟨s2,ho2,F,H⟩;subst ho2;have hR:=xN hk3;refine xF (qT F rfl (fun hb6=>?_) (fun hb6=>?_))
   ·
    replace hR:=vS hb6 hR;refine xP (xA 1 F rfl fun a F=>xJ (xT (vH (oE (oE ?_)))));replace hR:=zS hR hn1;refine vH (oE ?_);replace hR:=zR hR hk2;refine oE (xO F rfl (oD F rfl) ?_);obtain rfl:=Option.some.inj hR;exact⟨rfl,H.bl⟩
   replace hR:=vR hb6 hR;refine xL (qW (xF (xR (xA 1 F rfl fun a F=>qR F rfl rfl rfl m1 fun a F=>xA 1 F rfl fun a F=>xJ ?_))));replace hR:=qZ hR hn1;exact⟨_,Nat.lt_succ_self _,k1+1,t1,⟨hd1.1,hd1.2.2⟩,rfl,hR,F.su,H⟩
 intro a w ⟨ho3,F,H⟩;subst ho3;have hR:=xN hk2;refine xF (xP (xA 1 F rfl fun a F=>xJ (xT (xO F rfl (oD F rfl) ?_))));obtain rfl:=Option.some.inj hR;exact⟨rfl,H.bl⟩
def spec_l09Class (x0:Int):Option Bool:=
 xX (spec_l00In x0 1 6) fun z1=>
 some z1
theorem spec_l09Class_c {B:Nat→Prop} {x0:Int} (r:Bool) (hR:spec_l09Class x0=some r)  (w0:World) (hN:∀ c,B c→c<w0.heap.size) (hx0:xY x0):Calls Tryz.prog 45 #[.int .i64 x0] w0 (vV (.bool r) w0):=by
 unfold spec_l09Class at hR
 refine xV (L:=[(0,.int .i64 x0)]) func45 rfl rfl rfl (sc rfl sn) (fun a F=>?_);have H:=Sep.start hN;refine xP (xA 1 F rfl fun a F=>qU (xA 1 F rfl fun a F=>?_));obtain⟨z1,c1,hR⟩:=xB hR;refine oK F rfl call43 rfl H (spec_l00In_c z1 c1 _ aA hx0 (show xY (1) by decide) (show xY (6) by decide)) fun a w H F=>xA 1 F rfl fun a F=>xJ (xT (xO F rfl (oD F rfl) ?_));obtain rfl:=Option.some.inj hR;exact⟨rfl,H.bl⟩
def spec_l09Two (x0:Template) (x1:Int):Option Int:=
 xX (spec_l01Template x0) fun z1=>
 if (!z1) then
  some 1
 else
  if (x0.size != 2) then
   some 4
  else
   xX (spec_l09Class x1) fun z2=>
   if (!z2) then
    some 2
   else
    some 0
theorem spec_l09Two_c {B:Nat→Prop} {x0:Template} {x1:Int} (r:Int) (hR:spec_l09Two x0 x1=some r) {v0:Value} (w0:World) (hN:∀ c,B c→c<w0.heap.size) (A0:Bo B w0 (Pt 2 xG) v0 x0) (hx1:xY x1):Calls Tryz.prog 20 #[v0,.int .i64 x1] w0 (SaysI r w0):=by
 unfold spec_l09Two at hR
 refine xV (L:=[(0,v0),(1,.int .i64 x1)]) func20 rfl rfl rfl (sc rfl (sc rfl sn)) (fun a F=>?_);have H:=Sep.start hN;refine xP (xA 1 F rfl fun a F=>xJ (xC (xS (xP (xA 1 F rfl fun a F=>?_)))));obtain⟨z1,c1,hR⟩:=xB hR;refine oK F rfl call42 rfl H (spec_l01Template_c z1 c1 _ aA (H.a A0)) fun a w H F=>xA 2 F rfl fun a F=>xJ (qT F rfl (fun hb1=>?_) (fun hb1=>?_))
 ·
  replace hR:=vS hb1 hR;refine xP (xA 1 F rfl fun a F=>xJ (xT (vH (oE (xO F rfl (oD F rfl) ?_)))));obtain rfl:=Option.some.inj hR;exact⟨⟨rfl,H.bl⟩,(show xY (1) by decide)⟩
 replace hR:=vR hb1 hR;refine xP (xA 1 F rfl fun a F=>oN F rfl rfl A0 fun a F=>oF (s':=1) fa35_0 F rfl rfl A0 xG.f0 fun a p1 h1 F=>olI isAgg2 F rfl rfl H.sm h1 fun a i16 F=>xA 2 F rfl fun a F=>xJ (qT F rfl (fun hb2=>?_) (fun hb2=>?_)))
 ·
  replace hR:=vS hb2 hR;refine xP (xA 1 F rfl fun a F=>xJ (xT (vH (oE (xO F rfl (oD F rfl) ?_)))));obtain rfl:=Option.some.inj hR;exact⟨⟨rfl,H.bl⟩,(show xY (4) by decide)⟩
 replace hR:=vR hb2 hR;refine xP (xA 1 F rfl fun a F=>?_);obtain⟨z2,c2,hR⟩:=xB hR;refine oK F rfl call45 rfl H (spec_l09Class_c z2 c2 _ aA hx1) fun a w H F=>xA 2 F rfl fun a F=>xJ (qT F rfl (fun hb3=>?_) (fun hb3=>?_))
 ·
  replace hR:=vS hb3 hR;refine xP (xA 1 F rfl fun a F=>xJ (xT (vH (oE (xO F rfl (oD F rfl) ?_)))));obtain rfl:=Option.some.inj hR;exact⟨⟨rfl,H.bl⟩,(show xY (2) by decide)⟩
 replace hR:=vR hb3 hR;refine xL (qW (xF (xP (xA 1 F rfl fun a F=>xJ (xT (xO F rfl (oD F rfl) ?_))))));obtain rfl:=Option.some.inj hR;exact⟨⟨rfl,H.bl⟩,(show xY (0) by decide)⟩
def spec_l09Op (x0:Int):Option Op:=
 if (x0==1) then
  some ((Op.mk 1 ([0,0])))
 else
  if (x0==2) then
   some ((Op.mk 1 ([1,1])))
  else
   if (x0==3) then
    some ((Op.mk 2 ([0,0,0,1])))
   else
    if (x0==4) then
     some ((Op.mk 2 ([0,1,1,1])))
    else
     if (x0==5) then
      some ((Op.mk 3 ([0,0,0,1,0,1,1,1])))
     else
      some ((Op.mk 3 ([0,1,1,0,1,0,0,1])))
theorem spec_l09Op_c {B:Nat→Prop} {x0:Int} (r:Op) (hR:spec_l09Op x0=some r)  (w0:World) (hN:∀ c,B c→c<w0.heap.size) (hx0:xY x0):Calls Tryz.prog 46 #[.int .i64 x0] w0 (Gv (fun v w'=>∃ (v1':Value),v= .agg #[.int .i64 r.arity,v1']∧Sep [] B w0 w' [rl 1 xH 2 v1' r.table]∧xY r.arity)):=by
 unfold spec_l09Op at hR
 refine xV (L:=[(0,.int .i64 x0)]) func46 rfl rfl rfl (sc rfl sn) (fun a F=>?_);have H:=Sep.start hN;refine xP (oA zeroValue64 F rfl rfl H fun a w b1 H F=>xJ (xC (xP (xA 1 F rfl fun a F=>xJ ?_))));refine xS (xP (xA 2 F rfl fun a F=>xJ (qT F rfl (fun hb1=>?_) (fun hb1=>?_))))
 ·
  replace hR:=vS hb1 hR;refine xP (oRI (xs:=[.const (.int .i64 0),.const (.int .i64 0)]) (l:=[0,0]) underlying30 sizeOf2 zeroValue2 rfl F rfl rfl rfl rfl rfl rfl (by simp only[List.forall_mem_cons,List.not_mem_nil,false_implies,implies_true,and_true];exact⟨(show xY (0) by decide),(show xY (0) by decide)⟩) H fun a w v1 H F=>o_build underlying64 zeroValue64 (fun w=>by simp [sizeOf2,sizeOf30];rfl) F rfl rfl rfl rfl rfl (oc rfl (oc (H.l 0 rfl).one on)) rfl rfl fun a F=>oWA (vs:=[.int .i64 1,v1]) sizeOf64 F rfl rfl rfl (H.s [1,0] rfl rfl) (oc rfl (oc ((H.s [1,0] rfl rfl).l 1 rfl).one on)) rfl rfl fun w H=>xJ (xT (vH (oE (xO F rfl (rv_cA (arr:=#[.int .i64 1,v1]) F isAgg64 sizeOf64 rfl (H.b 0 rfl)) ?_)))));obtain rfl:=Option.some.inj hR;exact⟨_,rfl,v1,rfl,(H.s [1] rfl rfl),(show xY (1) by decide)⟩
 replace hR:=vR hb1 hR;refine xP (xA 2 F rfl fun a F=>xJ (qT F rfl (fun hb2=>?_) (fun hb2=>?_)))
 ·
  replace hR:=vS hb2 hR;refine xP (oRI (xs:=[.const (.int .i64 1),.const (.int .i64 1)]) (l:=[1,1]) underlying30 sizeOf2 zeroValue2 rfl F rfl rfl rfl rfl rfl rfl (by simp only[List.forall_mem_cons,List.not_mem_nil,false_implies,implies_true,and_true];exact⟨(show xY (1) by decide),(show xY (1) by decide)⟩) H fun a w v16 H F=>o_build underlying64 zeroValue64 (fun w=>by simp [sizeOf2,sizeOf30];rfl) F rfl rfl rfl rfl rfl (oc rfl (oc (H.l 0 rfl).one on)) rfl rfl fun a F=>oWA (vs:=[.int .i64 1,v16]) sizeOf64 F rfl rfl rfl (H.s [1,0] rfl rfl) (oc rfl (oc ((H.s [1,0] rfl rfl).l 1 rfl).one on)) rfl rfl fun w H=>xJ (xT (vH (oE (xO F rfl (rv_cA (arr:=#[.int .i64 1,v16]) F isAgg64 sizeOf64 rfl (H.b 0 rfl)) ?_)))));obtain rfl:=Option.some.inj hR;exact⟨_,rfl,v16,rfl,(H.s [1] rfl rfl),(show xY (1) by decide)⟩
 replace hR:=vR hb2 hR;refine xP (xA 2 F rfl fun a F=>xJ (qT F rfl (fun hb3=>?_) (fun hb3=>?_)))
 ·
  replace hR:=vS hb3 hR;refine xP (oRI (xs:=[.const (.int .i64 0),.const (.int .i64 0),.const (.int .i64 0),.const (.int .i64 1)]) (l:=[0,0,0,1]) underlying30 sizeOf2 zeroValue2 rfl F rfl rfl rfl rfl rfl rfl (by simp only[List.forall_mem_cons,List.not_mem_nil,false_implies,implies_true,and_true];exact⟨(show xY (0) by decide),(show xY (0) by decide),(show xY (0) by decide),(show xY (1) by decide)⟩) H fun a w v2 H F=>o_build underlying64 zeroValue64 (fun w=>by simp [sizeOf2,sizeOf30];rfl) F rfl rfl rfl rfl rfl (oc rfl (oc (H.l 0 rfl).one on)) rfl rfl fun a F=>oWA (vs:=[.int .i64 2,v2]) sizeOf64 F rfl rfl rfl (H.s [1,0] rfl rfl) (oc rfl (oc ((H.s [1,0] rfl rfl).l 1 rfl).one on)) rfl rfl fun w H=>xJ (xT (vH (oE (xO F rfl (rv_cA (arr:=#[.int .i64 2,v2]) F isAgg64 sizeOf64 rfl (H.b 0 rfl)) ?_)))));obtain rfl:=Option.some.inj hR;exact⟨_,rfl,v2,rfl,(H.s [1] rfl rfl),(show xY (2) by decide)⟩
 replace hR:=vR hb3 hR;refine xP (xA 2 F rfl fun a F=>xJ (qT F rfl (fun hb4=>?_) (fun hb4=>?_)))
 ·
  replace hR:=vS hb4 hR;refine xP (oRI (xs:=[.const (.int .i64 0),.const (.int .i64 1),.const (.int .i64 1),.const (.int .i64 1)]) (l:=[0,1,1,1]) underlying30 sizeOf2 zeroValue2 rfl F rfl rfl rfl rfl rfl rfl (by simp only[List.forall_mem_cons,List.not_mem_nil,false_implies,implies_true,and_true];exact⟨(show xY (0) by decide),(show xY (1) by decide),(show xY (1) by decide),(show xY (1) by decide)⟩) H fun a w v3 H F=>o_build underlying64 zeroValue64 (fun w=>by simp [sizeOf2,sizeOf30];rfl) F rfl rfl rfl rfl rfl (oc rfl (oc (H.l 0 rfl).one on)) rfl rfl fun a F=>oWA (vs:=[.int .i64 2,v3]) sizeOf64 F rfl rfl rfl (H.s [1,0] rfl rfl) (oc rfl (oc ((H.s [1,0] rfl rfl).l 1 rfl).one on)) rfl rfl fun w H=>xJ (xT (vH (oE (xO F rfl (rv_cA (arr:=#[.int .i64 2,v3]) F isAgg64 sizeOf64 rfl (H.b 0 rfl)) ?_)))));obtain rfl:=Option.some.inj hR;exact⟨_,rfl,v3,rfl,(H.s [1] rfl rfl),(show xY (2) by decide)⟩
 replace hR:=vR hb4 hR;refine xP (xA 2 F rfl fun a F=>xJ (qT F rfl (fun hb5=>?_) (fun hb5=>?_)))
 ·
  replace hR:=vS hb5 hR;refine xP (oRI (xs:=[.const (.int .i64 0),.const (.int .i64 0),.const (.int .i64 0),.const (.int .i64 1),.const (.int .i64 0),.const (.int .i64 1),.const (.int .i64 1),.const (.int .i64 1)]) (l:=[0,0,0,1,0,1,1,1]) underlying30 sizeOf2 zeroValue2 rfl F rfl rfl rfl rfl rfl rfl (by simp only[List.forall_mem_cons,List.not_mem_nil,false_implies,implies_true,and_true];exact⟨(show xY (0) by decide),(show xY (0) by decide),(show xY (0) by decide),(show xY (1) by decide),(show xY (0) by decide),(show xY (1) by decide),(show xY (1) by decide),(show xY (1) by decide)⟩) H fun a w v4 H F=>o_build underlying64 zeroValue64 (fun w=>by simp [sizeOf2,sizeOf30];rfl) F rfl rfl rfl rfl rfl (oc rfl (oc (H.l 0 rfl).one on)) rfl rfl fun a F=>oWA (vs:=[.int .i64 3,v4]) sizeOf64 F rfl rfl rfl (H.s [1,0] rfl rfl) (oc rfl (oc ((H.s [1,0] rfl rfl).l 1 rfl).one on)) rfl rfl fun w H=>xJ (xT (vH (oE (xO F rfl (rv_cA (arr:=#[.int .i64 3,v4]) F isAgg64 sizeOf64 rfl (H.b 0 rfl)) ?_)))));obtain rfl:=Option.some.inj hR;exact⟨_,rfl,v4,rfl,(H.s [1] rfl rfl),(show xY (3) by decide)⟩
 replace hR:=vR hb5 hR;refine xL (qW (xF (xP (oRI (xs:=[.const (.int .i64 0),.const (.int .i64 1),.const (.int .i64 1),.const (.int .i64 0),.const (.int .i64 1),.const (.int .i64 0),.const (.int .i64 0),.const (.int .i64 1)]) (l:=[0,1,1,0,1,0,0,1]) underlying30 sizeOf2 zeroValue2 rfl F rfl rfl rfl rfl rfl rfl (by simp only[List.forall_mem_cons,List.not_mem_nil,false_implies,implies_true,and_true];exact⟨(show xY (0) by decide),(show xY (1) by decide),(show xY (1) by decide),(show xY (0) by decide),(show xY (1) by decide),(show xY (0) by decide),(show xY (0) by decide),(show xY (1) by decide)⟩) H fun a w v5 H F=>o_build underlying64 zeroValue64 (fun w=>by simp [sizeOf2,sizeOf30];rfl) F rfl rfl rfl rfl rfl (oc rfl (oc (H.l 0 rfl).one on)) rfl rfl fun a F=>oWA (vs:=[.int .i64 3,v5]) sizeOf64 F rfl rfl rfl (H.s [1,0] rfl rfl) (oc rfl (oc ((H.s [1,0] rfl rfl).l 1 rfl).one on)) rfl rfl fun w H=>xJ (xT ?_)))));refine xO F rfl (rv_cA (arr:=#[.int .i64 3,v5]) F isAgg64 sizeOf64 rfl (H.b 0 rfl)) ?_;obtain rfl:=Option.some.inj hR;exact⟨_,rfl,v5,rfl,(H.s [1] rfl rfl),(show xY (3) by decide)⟩
def zD (N:Nat) (x0:Int) (x1:Int):Option Int:=
 vO (σ:=Int×Int) (
  whl (σ:=Int×Int) (ρ:=Int) (fun(s:Int×Int)=>
    match s with
    | (s1,s2)=>
    if (decide (0<s1)) then
     xX (ck (s2*x0)) fun z1=>
     xX (ck (s1 - 1)) fun z2=>
     some (.go (z2,z1))
    else
     some (.brk (s1,s2))) N (x1,1)) fun(s3,s32)=>
 some s32
theorem spec_l01Power_c {B:Nat→Prop} {N:Nat} {x0:Int} {x1:Int} (r:Int) (hR:zD N x0 x1=some r)  (w0:World) (hN:∀ c,B c→c<w0.heap.size) (hx0:xY x0) (hx1:xY x1):Calls Tryz.prog 134 #[.int .i64 x0,.int .i64 x1] w0 (SaysI r w0):=by
 unfold zD at hR
 refine xV (L:=[(0,.int .i64 x0),(1,.int .i64 x1)]) func134 rfl rfl rfl (sc rfl (sc rfl sn)) (fun a F=>?_);have H:=Sep.start hN;refine xP (xA 1 F rfl fun a F=>qU (xA 1 F rfl fun a F=>xJ (xC ?_)));obtain⟨o1,hR,hk1⟩:=xK hR;refine xW (fun a w=>∃ (s1:Int) (s32:Int),o1= .nx (s1,s32)∧Sk a 14 [(5,.int .i64 s32)]∧Sep [] B w0 w []∧xY s1∧xY s32) ?_ ?_
 ·
  refine xS ?_;obtain⟨fl1,hf1,hR⟩:=whl_gen hR;refine oR (fun g a w=>∃ (s2:Int) (s3:Int),whl fl1 g (s2,s3)=some o1∧Sk a 14 [(0,.int .i64 x0),(1,.int .i64 s2),(5,.int .i64 s3)]∧Sep [] B w0 w []∧xY s2∧xY s3) N ?_ ?_
  ·
   exact⟨x1,1,hR,F.su,H,hx1,(show xY (1) by decide)⟩
  intro g1 a w ⟨s2,s3,hR,F,H,i1,i2⟩;obtain⟨ck1,t1,hg1,hR,hn1⟩:=zU hR;rw[hf1] at hR;refine xC (xP (xA 2 F rfl fun a F=>xJ (qT F rfl (fun hb1=>?_) (fun hb1=>?_))))
  ·
   replace hR:=vS hb1 hR;refine xL (xF (xC (xS (xR (xA 2 F rfl fun a F=>?_)))));obtain⟨z1,c1,hR⟩:=xB hR;refine o_mul F rfl rfl rfl c1 fun a F=>xA 1 F rfl fun a F=>qD (qW (xF (xR (xA 1 F rfl fun a F=>?_))));obtain⟨z2,c2,hR⟩:=xB hR;refine o_sub F rfl rfl rfl c2 fun a F=>xA 1 F rfl fun a F=>xJ ?_;replace hR:=qZ hR hn1;exact⟨t1,(by omega),z2,z1,hR,F.su,H,(ck64 c2),(ck64 c1)⟩
  replace hR:=vR hb1 hR;refine oO (oQ (oQ ?_));replace hR:=l_brk hR hn1;refine vJ (xF ?_);exact⟨s2,s3,(Option.some.inj hR).symm,F.su,H,i1,i2⟩
 intro a w ⟨s1,s32,ho1,F,H,i3,i4⟩;subst ho1;have hR:=xN hk1;refine xF (xP (xA 2 F rfl fun a F=>xJ (xT (xO F rfl (oD F rfl) ?_))));obtain rfl:=Option.some.inj hR;exact⟨⟨rfl,H.bl⟩,i4⟩
def spec_l01Empty (N:Nat) (x0:Int) (x1:Int):Option (Int×Int×(List Bool)):=
 xX (zD N x0 x1) fun z1=>
 xX (mkz (false:Bool) z1) fun z2=>
 some ((x0,x1,z2))
theorem spec_l01Empty_c {B:Nat→Prop} {N:Nat} {x0:Int} {x1:Int} (r:(Int×Int×(List Bool))) (hR:spec_l01Empty N x0 x1=some r)  (w0:World) (hN:∀ c,B c→c<w0.heap.size) (hx0:xY x0) (hx1:xY x1):Calls Tryz.prog 173 #[.int .i64 x0,.int .i64 x1] w0 (Gv (fun v w'=>∃ (b1':Nat) (v2':Value),v= .pointer (some ⟨b1',0,none⟩)∧Sep [] B w0 w' [bx b1' [.int .i64 r.1,.int .i64 r.2.1,v2'] 205,rl 1 RBool 4 v2' r.2.2]∧xY r.1∧xY r.2.1)):=by
 unfold spec_l01Empty at hR
 refine xV (L:=[(0,.int .i64 x0),(1,.int .i64 x1)]) func173 rfl rfl rfl (sc rfl (sc rfl sn)) (fun a F=>?_);have H:=Sep.start hN;refine xP (xA 1 F rfl fun a F=>qU (xA 4 F rfl fun a F=>?_));obtain⟨z1,c1,hR⟩:=xB hR;refine oKI F rfl call134 rfl H (spec_l01Power_c z1 c1 _ aA hx0 hx1) (fun a w H iz1 F=>?_);obtain⟨z2,c2,hR⟩:=xB hR;refine oRM (sz:=1) (R:=RBool) (z:=(.bool false)) (bytes:=1) underlying203 (by kernel_rfl) rfl (by decide) (by decide) (fun w=>⟨rfl,rfl⟩) F rfl rfl rfl c2 H fun a w v1 H F=>o_build underlying205 zeroValue205 (fun w=>by simp [sizeOf2,sizeOf203];rfl) F rfl rfl rfl rfl rfl (oc rfl (oc rfl (oc (H.l 0 rfl).one on))) rfl rfl fun a F=>oX F rfl rfl rfl H fun a w b1 H F=>xA 1 F rfl fun a F=>xJ (xT (xO F rfl (oD F rfl) ?_));obtain rfl:=Option.some.inj hR;exact⟨_,rfl,b1,v1,rfl,H,hx0,hx1⟩
def spec_l01Code (x0:Int) (x1:List Int):Option Int:=
 vO (σ:=Int) (
  qK (σ:=Int) (ρ:=Int) (fun(k32:Nat) (x2:Int) (s1:Int)=>
   xX (ck (s1*x0)) fun z1=>
   xX (ck (z1+x2)) fun z2=>
   some (.go z2)) x1 0 0) fun s2=>
 some s2
theorem spec_l01Code_c {B:Nat→Prop} {x0:Int} {x1:List Int} (r:Int) (hR:spec_l01Code x0 x1=some r) {v1:Value} (w0:World) (hN:∀ c,B c→c<w0.heap.size) (hx0:xY x0) (A1:Bo B w0 (Sl 1 xH) v1 x1):Calls Tryz.prog 159 #[.int .i64 x0,v1] w0 (SaysI r w0):=by
 unfold spec_l01Code at hR
 refine xV (L:=[(0,.int .i64 x0),(1,v1)]) func159 rfl rfl rfl (sc rfl (sc rfl sn)) (fun a F=>?_);have H:=Sep.start hN;refine xP (xA 1 F rfl fun a F=>qU (xA 1 F rfl fun a F=>xJ (xC ?_)));refine xP (xA 1 F rfl fun a F=>xJ ?_);obtain⟨o1,hR,hk1⟩:=xK hR;refine xW (fun a w=>∃ (s1:Int),o1= .nx s1∧Sk a 22 [(5,.int .i64 s1)]∧Sep [] B w0 w []∧xY s1) ?_ ?_
 ·
  refine xS ?_;obtain⟨fl1,hf1,hR⟩:=qE hR;refine oR (fun g a w=>∃ (k32:Nat) (t1:List Int) (s2:Int),(k32≤x1.length∧x1.drop k32=t1)∧t1.length=g∧qK fl1 t1 k32 s2=some o1∧Sk a 22 [(6,.int .i64 (k32:Int)),(0,.int .i64 x0),(1,v1),(5,.int .i64 s2)]∧Sep [] B w0 w []∧xY s2) x1.length ?_ ?_
  ·
   exact⟨0,x1,0,⟨Nat.zero_le _,rfl⟩,rfl,hR,F.su,H,(show xY (0) by decide)⟩
  intro g1 a w ⟨k32,t1,s2,hd1,hg1,hR,F,H,i1⟩
  cases t1 with
  | nil=>
   replace hR:=qG hR;have hkk32:=qH hd1.1 hd1.2;have hlk32:=vA hkk32;refine xC (xP (xA 2 F rfl fun a F=>oL underlying30 F rfl rfl A1 fun a i2 F=>xA 1 F rfl fun a F=>xJ (qV F rfl hlk32 (oO ?_))));refine oQ (oQ (vJ (xF ?_)));exact⟨s2,(Option.some.inj hR).symm,F.su,H,i1⟩
  | cons x2 t1=>
   subst hg1;replace hd1:=oH hd1.2;have hxk32:=oV hd1.2.1;obtain⟨ck32,hR,hn1⟩:=oU hR;rw[hf1] at hR;have hlk32:=qP hd1.1;refine xC (xP (xA 2 F rfl fun a F=>oL underlying30 F rfl rfl A1 fun a i3 F=>xA 1 F rfl fun a F=>xJ (qY F rfl hlk32 (xL ?_))));refine xF (xC ?_);have ikk32:=k64 (Nat.le_of_lt hd1.1) i3;have ink32:=zA hd1.1 i3;refine xS (xR (xA 2 F rfl fun a F=>?_));obtain⟨z1,c1,hR⟩:=xB hR;refine o_mul F rfl rfl rfl c1 fun a F=>xA 2 F rfl fun a F=>oI underlying30 sizeOf2 F rfl rfl rfl A1 hxk32 fun a p1 h1 F=>olI isAgg2 F rfl rfl H.sm h1 (fun a i4 F=>?_);obtain⟨z2,c2,hR⟩:=xB hR;refine kX F rfl rfl rfl c2 fun a F=>xA 1 F rfl fun a F=>qD (qW (xF (xR (xA 1 F rfl fun a F=>qR F rfl rfl rfl ink32 fun a F=>xA 1 F rfl fun a F=>xJ ?_))));replace hR:=qZ hR hn1;exact⟨_,Nat.lt_succ_self _,k32+1,t1,z2,⟨hd1.1,hd1.2.2⟩,rfl,hR,F.su,H,(ck64 c2)⟩
 intro a w ⟨s1,ho1,F,H,i5⟩;subst ho1;have hR:=xN hk1;refine xF (xP (xA 2 F rfl fun a F=>xJ (xT (xO F rfl (oD F rfl) ?_))));obtain rfl:=Option.some.inj hR;exact⟨⟨rfl,H.bl⟩,i5⟩
def spec_l01SetOf (N:Nat) (x0:Int) (x1:Rel):Option (Int×Int×(List Bool)):=
 xX (spec_l01Empty N x0 x1.arity) fun z1=>
 vO (σ:=(List Bool)) (
  qK (σ:=(List Bool)) (ρ:=(Int×Int×(List Bool))) (fun(k1:Nat) (x2:(List Int)) (s1:(List Bool))=>
   xX (spec_l01Code x0 x2) fun z2=>
   xX (ix s1 z2) fun z3=>
   some (.go (s1.set (z2).toNat true))) x1.tuples 0 z1.2.2) fun s2=>
 some ((z1.1,z1.2.1,s2))
theorem spec_l01SetOf_c {B:Nat→Prop} {N:Nat} {x0:Int} {x1:Rel} (r:(Int×Int×(List Bool))) (hR:spec_l01SetOf N x0 x1=some r) {v1:Value} (w0:World) (hN:∀ c,B c→c<w0.heap.size) (hx0:xY x0) (A1:Bo B w0 (Pt 2 oM) v1 x1):Calls Tryz.prog 157 #[.int .i64 x0,v1] w0 (Gv (fun v w'=>∃ (b1':Nat) (v2':Value),v= .pointer (some ⟨b1',0,none⟩)∧Sep [] B w0 w' [bx b1' [.int .i64 r.1,.int .i64 r.2.1,v2'] 205,rl 1 RBool 4 v2' r.2.2]∧xY r.1∧xY r.2.1)):=by
 unfold spec_l01SetOf at hR
 refine xV (L:=[(0,.int .i64 x0),(1,v1)]) func157 rfl rfl rfl (sc rfl (sc rfl sn)) (fun a F=>?_);have H:=Sep.start hN;refine xP (xA 1 F rfl fun a F=>qU (xA 2 F rfl fun a F=>oN F rfl rfl A1 fun a F=>oF (s':=1) fa69_0 F rfl rfl A1 oM.f0 (fun a p1 h1 F=>?_)));refine olI isAgg2 F rfl rfl H.sm h1 (fun a i1 F=>?_);obtain⟨z1,c1,hR⟩:=xB hR;refine oG F rfl call173 rfl (spec_l01Empty_c z1 c1 _ aA hx0 i1) (fun a vv w ⟨b16,v2,hv1,S,i2,i3⟩ F=>?_);subst vv;have H:=H.rk S ⟨n0,⟨n0,trivial⟩⟩ rfl;refine xA 1 F rfl fun a F=>xJ (xC (xP (xA 1 F rfl fun a F=>xJ ?_)));obtain⟨o1,hR,hk1⟩:=xK hR;refine xW (fun a w=>∃ (s1:List Bool) (v3:Value),o1= .nx s1∧Sk a 37 [(5,.pointer (some ⟨b16,0,none⟩))]∧Sep [] B w0 w [bx b16 [.int .i64 z1.1,.int .i64 z1.2.1,v3] 205,rl 1 RBool 4 v3 s1]) ?_ ?_
 ·
  refine xS ?_;obtain⟨fl1,hf1,hR⟩:=qE hR;refine oR (fun g a w=>∃ (k1:Nat) (t1:List (List Int)) (s2:List Bool) (v4:Value),(k1≤x1.tuples.length∧x1.tuples.drop k1=t1)∧t1.length=g∧qK fl1 t1 k1 s2=some o1∧Sk a 37 [(6,.int .i64 (k1:Int)),(0,.int .i64 x0),(1,v1),(5,.pointer (some ⟨b16,0,none⟩))]∧Sep [] B w0 w [bx b16 [.int .i64 z1.1,.int .i64 z1.2.1,v4] 205,rl 1 RBool 4 v4 s2]) x1.tuples.length ?_ ?_
  ·
   exact⟨0,x1.tuples,z1.2.2,v2,⟨Nat.zero_le _,rfl⟩,rfl,hR,F.su,H⟩
  intro g1 a w ⟨k1,t1,s2,v4,hd1,hg1,hR,F,H⟩
  cases t1 with
  | nil=>
   replace hR:=qG hR;have q1:=qH hd1.1 hd1.2;have l1:=vA q1;refine xC (xP (xA 2 F rfl fun a F=>oN F rfl rfl A1 fun a F=>oF (s':=1) vX F rfl rfl A1 oM.f1 fun a p2 h2 F=>olS isAgg67 F rfl rfl H.sm h2 fun a v5 h3 F=>oL underlying67 F rfl rfl h3 fun a i4 F=>xA 1 F rfl fun a F=>qD ?_));refine xF (qV F rfl l1 (oO (oQ (oQ (vJ (xF ?_))))));exact⟨s2,v4,(Option.some.inj hR).symm,F.su,H⟩
  | cons x2 t1=>
   subst hg1;replace hd1:=oH hd1.2;have y1:=oV hd1.2.1;obtain⟨ck1,hR,hn1⟩:=oU hR;rw[hf1] at hR;have l1:=qP hd1.1;refine xC (xP (xA 2 F rfl fun a F=>oN F rfl rfl A1 fun a F=>oF (s':=1) vX F rfl rfl A1 oM.f1 fun a p3 h4 F=>olS isAgg67 F rfl rfl H.sm h4 fun a v6 h5 F=>oL underlying67 F rfl rfl h5 fun a i5 F=>xA 1 F rfl fun a F=>qD ?_));refine xF (qY F rfl l1 (xL (xF (xC ?_))));have j1:=k64 (Nat.le_of_lt hd1.1) i5;have m1:=zA hd1.1 i5;refine xS ?_;obtain⟨z2,c2,hR⟩:=xB hR;obtain⟨z3,c3,hR⟩:=xB hR;refine xD H (by kernel_rfl) fun w H=>dp (fun G=>∀ (a:Act) (w:World),Sk a 37 [(0,.int .i64 x0),(1,v1),(5,.pointer (some ⟨b16,0,none⟩)),(6,.int .i64 (k1:Int)),(25,v4),(34,.int .i64 z2)]→Sep [] B w0 w [bx b16 [.int .i64 z1.1,.int .i64 z1.2.1,v4] 205,rl 1 RBool 4 v4 s2]→xY z2→∀ ls,ls = #[true,true,true,true,true,true,true,true,true,true,true,true,true,false,false]→G 2 ls a w) ?_ (fun H1=>?_)
   ·
    intro a w F H i6 ls hls;subst hls;refine xE H 13 rfl (by kernel_rfl) (oRl underlying203 sizeOf4 F rfl rfl rfl H 1 rfl c3 fun a p4 h6 rp1 F=>xJ ⟨⟨_,H⟩,?_⟩);refine xE H 14 rfl (by kernel_rfl) ?_;have H:=(H.s [1,0] rfl rfl).lw;refine oS sizeOf4 F rfl rfl rfl H rp1 (ix_lt c3) Eo.bool rfl rfl (fun w H=>?_);have H:=H.tl;refine xJ ⟨⟨_,H⟩,?_⟩;refine b_end (by kernel_rfl) (qW (xF (xR (xA 1 F rfl fun a F=>qR F rfl rfl rfl m1 fun a F=>xA 1 F rfl fun a F=>xJ ?_))));replace hR:=qZ hR hn1;exact⟨_,Nat.lt_succ_self _,k1+1,t1,(s2.set (z2).toNat true),v4,⟨hd1.1,hd1.2.2⟩,rfl,hR,F.su,(H.s [1,0] rfl rfl)⟩
   refine vD 0 rfl (by kernel_rfl) (by kernel_rfl) (by kernel_rfl) (oJ F rfl (fun w l=>xM F rfl) fun a F=>kO 1 (by kernel_rfl) rfl (by kernel_rfl) (by kernel_rfl) (by kernel_rfl) (by kernel_rfl) (oJ F rfl (fun w l=>r_nilCheck F rfl) fun a F=>kO 2 (by kernel_rfl) rfl (by kernel_rfl) (by kernel_rfl) (by kernel_rfl) (by kernel_rfl) (oJ F rfl (fun w l=>zQ fa205_2 F rfl rfl) fun a F=>vD 4 rfl (by kernel_rfl) (by kernel_rfl) (by kernel_rfl) (oJ F rfl (fun w l=>xM F rfl) fun a F=>vD 5 rfl (by kernel_rfl) (by kernel_rfl) (by kernel_rfl) (oJ F rfl (fun w l=>xM F rfl) fun a F=>kO 6 (by kernel_rfl) rfl (by kernel_rfl) (by kernel_rfl) (by kernel_rfl) (by kernel_rfl) ?_)))));refine vN F rfl rfl A1 fun a F=>kO 7 (by kernel_rfl) rfl (by kernel_rfl) (by kernel_rfl) (by kernel_rfl) (by kernel_rfl) (vF (s':=1) vX F rfl rfl A1 oM.f1 fun a p5 h7 F=>kO 8 (by kernel_rfl) rfl (by kernel_rfl) (by kernel_rfl) (by kernel_rfl) (by kernel_rfl) (vlS isAgg67 F rfl rfl H.v h7 fun a v7 h8 F=>vD 9 rfl (by kernel_rfl) (by kernel_rfl) (by kernel_rfl) (oJ F rfl (fun w l=>xM F rfl) fun a F=>kO 10 (by kernel_rfl) rfl (by kernel_rfl) (by kernel_rfl) (by kernel_rfl) (by kernel_rfl) (vI underlying67 sizeOf30 F rfl rfl rfl h8 y1 fun a p6 h9 F=>kO 11 (by kernel_rfl) rfl (by kernel_rfl) (by kernel_rfl) (by kernel_rfl) (by kernel_rfl) (vlS isAgg30 F rfl rfl H.v h9 (fun a v8 h10 F=>?_))))));refine b_es [3,12] (by kernel_rfl) (by simp) ⟨⟨_,rfl,?_⟩,⟨_,rfl,?_⟩,trivial⟩
   ·
    refine xEs H (oB isAgg203 F rfl rfl (H.b 0 rfl) rfl fun a F=>xJ ⟨⟨_,H⟩,?_⟩);refine xE H 12 rfl (by kernel_rfl) (oKI F rfl call159 rfl H (spec_l01Code_c z2 c2 _ aA hx0 (H.a h10)) fun a w H iz1 F=>xJ ⟨⟨_,H⟩,?_⟩);exact H1 _ _ (F.su) H iz1 _ (by kernel_rfl)
   refine xEs H (oKI F rfl call159 rfl H (spec_l01Code_c z2 c2 _ aA hx0 (H.a h10)) fun a w H iz1 F=>xJ ⟨⟨_,H⟩,?_⟩);refine xE H 3 rfl (by kernel_rfl) (oB isAgg203 F rfl rfl (H.b 0 rfl) rfl fun a F=>xJ ⟨⟨_,H⟩,?_⟩);exact H1 _ _ (F.su) H iz1 _ (by kernel_rfl)
 intro a w ⟨s1,v3,ho1,F,H⟩;subst ho1;have hR:=xN hk1;refine xF (xP (xA 2 F rfl fun a F=>xJ (xT (xO F rfl (oD F rfl) ?_))));obtain rfl:=Option.some.inj hR;exact⟨_,rfl,b16,v3,rfl,H,i2,i3⟩
def spec_l01Digits (N:Nat) (x0:Int) (x1:Int) (x2:Int):Option (List Int):=
 xX (mkz (0:Int) x1) fun z1=>
 xX (ck (x1 - 1)) fun z2=>
 vO (σ:=Int×Int×(List Int)) (
  whl (σ:=Int×Int×(List Int)) (ρ:=(List Int)) (fun(s:Int×Int×(List Int))=>
    match s with
    | (s1,s2,s64)=>
    if (decide (0≤s2)) then
     xX (rm s1 x0) fun z3=>
     xX (ix s64 s2) fun z4=>
     xX (dv s1 x0) fun z5=>
     xX (ck (s2 - 1)) fun z6=>
     some (.go (z5,z6,(s64.set (s2).toNat z3)))
    else
     some (.brk (s1,s2,s64))) N (x2,z2,z1)) fun(s3,s4,s5)=>
 some s5
theorem spec_l01Digits_c {B:Nat→Prop} {N:Nat} {x0:Int} {x1:Int} {x2:Int} (r:(List Int)) (hR:spec_l01Digits N x0 x1 x2=some r)  (w0:World) (hN:∀ c,B c→c<w0.heap.size) (hx0:xY x0) (hx1:xY x1) (hx2:xY x2):Calls Tryz.prog 135 #[.int .i64 x0,.int .i64 x1,.int .i64 x2] w0 (Gv (fun v w'=>∃ (v1':Value),v=v1'∧Sep [] B w0 w' [rl 1 xH 2 v1' r])):=by
 unfold spec_l01Digits at hR
 refine xV (L:=[(0,.int .i64 x0),(1,.int .i64 x1),(2,.int .i64 x2)]) func135 rfl rfl rfl (sc rfl (sc rfl (sc rfl sn))) (fun a F=>?_);have H:=Sep.start hN;refine xP (xA 1 F rfl fun a F=>qU (xA 1 F rfl fun a F=>?_));obtain⟨z1,c1,hR⟩:=xB hR;refine oRM (sz:=1) (R:=xH) (z:=(.int .i64 0)) (bytes:=8) underlying30 (by kernel_rfl) rfl (by decide) (by decide) (fun w=>⟨rfl,by decide,rfl⟩) F rfl rfl rfl c1 H fun a w v1 H F=>xA 1 F rfl fun a F=>xJ (xC (xP (xA 1 F rfl fun a F=>?_)));obtain⟨z2,c16,hR⟩:=xB hR;refine o_sub F rfl rfl rfl c16 fun a F=>xA 1 F rfl fun a F=>xJ ?_;obtain⟨o1,hR,hk1⟩:=xK hR;refine xW (fun a w=>∃ (s1:Int) (s2:Int) (s3:List Int) (v2:Value),o1= .nx (s1,s2,s3)∧Sk a 27 [(7,v2)]∧Sep [] B w0 w [rl 1 xH 2 v2 s3]∧xY s1∧xY s2) ?_ ?_
 ·
  refine xS ?_;obtain⟨fl1,hf1,hR⟩:=whl_gen hR;refine oR (fun g a w=>∃ (s4:Int) (s5:Int) (s64:List Int) (v3:Value),whl fl1 g (s4,s5,s64)=some o1∧Sk a 27 [(0,.int .i64 x0),(2,.int .i64 s4),(7,v3),(8,.int .i64 s5)]∧Sep [] B w0 w [rl 1 xH 2 v3 s64]∧xY s4∧xY s5) N ?_ ?_
  ·
   exact⟨x2,z2,z1,v1,hR,F.su,H,hx2,(ck64 c16)⟩
  intro g1 a w ⟨s4,s5,s64,v3,hR,F,H,i1,i2⟩;obtain⟨ck1,t1,hg1,hR,hn1⟩:=zU hR;rw[hf1] at hR;refine xC (xP (xA 2 F rfl fun a F=>xJ (qT F rfl (fun hb1=>?_) (fun hb1=>?_))))
  ·
   replace hR:=vS hb1 hR;refine xL (xF (xC (xS (xP (xA 4 F rfl fun a F=>?_)))));obtain⟨z3,c2,hR⟩:=xB hR;refine o_rem F rfl rfl rfl c2 (fun a F=>?_);obtain⟨z4,c3,hR⟩:=xB hR;refine oRl underlying30 sizeOf2 F rfl rfl rfl H 0 rfl c3 (fun a p1 h1 rp1 F=>?_);have H:=H.lw;refine oS sizeOf2 F rfl rfl rfl H rp1 (ix_lt c3) (Eo.int (rm64 c2 i1 hx0)) rfl rfl (fun w H=>?_);have H:=H.tl;refine xJ (xR (xA 2 F rfl fun a F=>?_));obtain⟨z5,c4,hR⟩:=xB hR;refine o_quo F rfl rfl rfl c4 fun a F=>xA 1 F rfl fun a F=>qD (qW (xF (xR (xA 1 F rfl fun a F=>?_))));obtain⟨z6,c5,hR⟩:=xB hR;refine o_sub F rfl rfl rfl c5 fun a F=>xA 1 F rfl fun a F=>xJ ?_;replace hR:=qZ hR hn1;exact⟨t1,(by omega),z5,z6,(s64.set (s5).toNat z3),v3,hR,F.su,H,(dv64 c4),(ck64 c5)⟩
  replace hR:=vR hb1 hR;refine oO (oQ (oQ ?_));replace hR:=l_brk hR hn1;refine vJ (xF ?_);exact⟨s4,s5,s64,v3,(Option.some.inj hR).symm,F.su,H,i1,i2⟩
 intro a w ⟨s1,s2,s3,v2,ho1,F,H,i3,i4⟩;subst ho1;have hR:=xN hk1;refine xF (xP (xA 2 F rfl fun a F=>xJ (xT (xO F rfl (oD F rfl) ?_))));obtain rfl:=Option.some.inj hR;exact⟨_,rfl,v2,rfl,H⟩
def spec_l02Value (x0:Int) (x1:Op) (x2:List Int):Option Int:=
 xX (spec_l01Code x0 x2) fun z1=>
 xX (ix x1.table z1) fun z2=>
 some z2
theorem spec_l02Value_c {B:Nat→Prop} {x0:Int} {x1:Op} {x2:List Int} (r:Int) (hR:spec_l02Value x0 x1 x2=some r) {v1:Value} {v2:Value} (w0:World) (hN:∀ c,B c→c<w0.heap.size) (hx0:xY x0) (A1:Bo B w0 (Pt 2 ROp) v1 x1) (A2:Bo B w0 (Sl 1 xH) v2 x2):Calls Tryz.prog 174 #[.int .i64 x0,v1,v2] w0 (SaysI r w0):=by
 unfold spec_l02Value at hR
 refine xV (L:=[(0,.int .i64 x0),(1,v1),(2,v2)]) func174 rfl rfl rfl (sc rfl (sc rfl (sc rfl sn))) (fun a F=>?_);have H:=Sep.start hN;refine xP (xA 1 F rfl fun a F=>xJ (xC (xQ H (by kernel_rfl) (by kernel_rfl) (xU F rfl (fun w l=>xM F rfl) fun a F=>qN F rfl rfl A1 fun a F=>qF (s':=1) fa64_1 F rfl rfl A1 ROp.f1 fun a p1 h1 F=>qlS isAgg30 F rfl rfl H.q h1 (fun a v3 h2 F=>?_)))));refine xU F rfl (fun w l=>xM F rfl) fun a F=>xU F rfl (fun w l=>xM F rfl) (fun a F=>?_);obtain⟨z1,c16,hR⟩:=xB hR;refine q_saysI F rfl call159 rfl (fun w w' h l=>l.through h) _ (Below.refl _ _) (fun w l=>spec_l01Code_c z1 c16 w aA hx0 ((H.go l).a A2)) (fun a iz1 F=>?_);obtain⟨z2,c1,hR⟩:=xB hR;refine qI underlying30 sizeOf2 F rfl rfl rfl h2 c1 fun a p2 h3 F=>qlI isAgg2 F rfl rfl H.q h3 fun a i1 F=>xU F rfl (fun w l=>kL F rfl) fun a F=>kP fun w H=>xF (xT (xO F rfl (oD F rfl) ?_));obtain rfl:=Option.some.inj hR;exact⟨⟨rfl,H.bl⟩,i1⟩
def spec_l02Make (x0:Int) (x1:Op) (x2:List (List Int)):Option (List Int):=
 xX (ix x2 0) fun z1=>
 vO (σ:=(List Int)) (
  vQ (σ:=(List Int)) (ρ:=(List Int)) (fun(k1:Nat) (s1:(List Int))=>
   vO (σ:=(List Int)) (
    qK (σ:=(List Int)) (ρ:=(Ctl ((List Int)) (List Int))) (fun(k2:Nat) (x3:(List Int)) (s2:(List Int))=>
     xX (ix x3 (k1:Int)) fun z2=>
     xX (ap s2 ([z2])) fun z3=>
     some (.go z3)) x2 0 []) fun s3=>
   xX (spec_l02Value x0 x1 s3) fun z4=>
   xX (ap s1 ([z4])) fun z5=>
   some (.go z5)) (z1.length:Int).toNat 0 []) fun s4=>
 some s4
theorem spec_l02Make_c {B:Nat→Prop} {x0:Int} {x1:Op} {x2:List (List Int)} (r:(List Int)) (hR:spec_l02Make x0 x1 x2=some r) {v1:Value} {v2:Value} (w0:World) (hN:∀ c,B c→c<w0.heap.size) (hx0:xY x0) (A1:Bo B w0 (Pt 2 ROp) v1 x1) (A2:Bo B w0 (Sl 1 (vY 1 xH)) v2 x2):Calls Tryz.prog 158 #[.int .i64 x0,v1,v2] w0 (Gv (fun v w'=>∃ (v1':Value),v=v1'∧Sep [] B w0 w' [rl 1 xH 2 v1' r])):=by
 unfold spec_l02Make at hR
 refine xV (L:=[(0,.int .i64 x0),(1,v1),(2,v2)]) func158 rfl rfl rfl (sc rfl (sc rfl (sc rfl sn))) (fun a F=>?_);have H:=Sep.start hN;refine xP (xA 1 F rfl fun a F=>qU (oR0 (R:=xH) underlying30 sizeOf2 F rfl H fun a w v3 H F=>xA 1 F rfl fun a F=>xJ ?_));refine xC (xP (xA 1 F rfl fun a F=>xJ ?_));obtain⟨z1,c1,hR⟩:=xB hR;obtain⟨o1,hR,hk1⟩:=xK hR;refine xW (fun a w=>∃ (s1:List Int) (v4:Value),o1= .nx s1∧Sk a 45 [(7,v4)]∧Sep [] B w0 w [rl 1 xH 2 v4 s1]) ?_ ?_
 ·
  refine xS ?_;obtain⟨fl1,hf1,hR⟩:=zI hR;refine oR (fun g a w=>∃ (k1:Nat) (s2:List Int) (v5:Value),k1+g=(z1.length:Int).toNat∧vQ fl1 g k1 s2=some o1∧Sk a 45 [(8,.int .i64 (k1:Int)),(0,.int .i64 x0),(1,v1),(2,v2),(7,v5)]∧Sep [] B w0 w [rl 1 xH 2 v5 s2]) (z1.length:Int).toNat ?_ ?_
  ·
   exact⟨0,[],v3,(Nat.zero_add _),hR,F.su,H⟩
  intro g1 a w ⟨k1,s2,v5,hd1,hR,F,H⟩
  cases g1 with
  | zero=>
   replace hR:=vT hR;have l1:=kZ hd1;refine xC (xP (xA 2 F rfl fun a F=>oI underlying67 sizeOf30 F rfl rfl rfl A2 c1 fun a p1 h1 F=>olS isAgg30 F rfl rfl H.sm h1 fun a v6 h2 F=>oL underlying30 F rfl rfl h2 fun a i1 F=>xA 1 F rfl fun a F=>xJ ?_));refine qV F rfl l1 (oO (oQ (oQ (vJ (xF ?_)))));exact⟨s2,v5,(Option.some.inj hR).symm,F.su,H⟩
  | succ g1=>
   obtain⟨ck1,hR,hn1⟩:=vU hR;rw[hf1] at hR;have l1:=kE hd1;refine xC (xP (xA 2 F rfl fun a F=>oI underlying67 sizeOf30 F rfl rfl rfl A2 c1 fun a p2 h3 F=>olS isAgg30 F rfl rfl H.sm h3 fun a v7 h4 F=>oL underlying30 F rfl rfl h4 fun a i2 F=>xA 1 F rfl fun a F=>xJ ?_));refine qY F rfl l1 (xL (xF (xC ?_)));have j1:=k64I hd1 i2;have m1:=inc64I hd1 i2;refine xS (xP (oR0 (R:=xH) underlying30 sizeOf2 F rfl H fun a w v8 H F=>xA 1 F rfl fun a F=>xJ (xC (xP (xA 1 F rfl fun a F=>?_)))));refine xJ ?_;obtain⟨o2,hR,hk2⟩:=xK hR;refine xW (fun a w=>∃ (s3:List Int) (v9:Value),o2= .nx s3∧Sk a 45 [(0,.int .i64 x0),(1,v1),(2,v2),(7,v5),(8,.int .i64 (k1:Int)),(9,v9)]∧Sep [] B w0 w [rl 1 xH 2 v9 s3,rl 1 xH 2 v5 s2]) ?_ ?_
   ·
    refine xS ?_;obtain⟨fl2,hf2,hR⟩:=qE hR;refine oR (fun g a w=>∃ (k2:Nat) (t1:List (List Int)) (s4:List Int) (v10:Value),(k2≤x2.length∧x2.drop k2=t1)∧t1.length=g∧qK fl2 t1 k2 s4=some o2∧Sk a 45 [(10,.int .i64 (k2:Int)),(0,.int .i64 x0),(1,v1),(2,v2),(7,v5),(8,.int .i64 (k1:Int)),(9,v10)]∧Sep [] B w0 w [rl 1 xH 2 v10 s4,rl 1 xH 2 v5 s2]) x2.length ?_ ?_
    ·
     exact⟨0,x2,[],v8,⟨Nat.zero_le _,rfl⟩,rfl,hR,F.su,H⟩
    intro g2 a w ⟨k2,t1,s4,v10,hd2,hg1,hR,F,H⟩
    cases t1 with
    | nil=>
     replace hR:=qG hR;have q1:=qH hd2.1 hd2.2;have l2:=vA q1;refine xC (xP (xA 2 F rfl fun a F=>oL underlying67 F rfl rfl A2 fun a i3 F=>xA 1 F rfl fun a F=>xJ (qV F rfl l2 (oO ?_))));refine oQ (oQ (vJ (xF ?_)));exact⟨s4,v10,(Option.some.inj hR).symm,F.su,H⟩
    | cons x3 t1=>
     subst hg1;replace hd2:=oH hd2.2;have y1:=oV hd2.2.1;obtain⟨ck2,hR,hn2⟩:=oU hR;rw[hf2] at hR;have l2:=qP hd2.1;refine xC (xP (xA 2 F rfl fun a F=>oL underlying67 F rfl rfl A2 fun a i4 F=>xA 1 F rfl fun a F=>xJ (qY F rfl l2 (xL ?_))));refine xF (xC ?_);have j2:=k64 (Nat.le_of_lt hd2.1) i4;have m2:=zA hd2.1 i4;refine xS (xR (xA 3 F rfl fun a F=>oI underlying67 sizeOf30 F rfl rfl rfl A2 y1 fun a p3 h5 F=>olS isAgg30 F rfl rfl H.sm h5 fun a v12 h6 F=>xA 1 F rfl fun a F=>?_));obtain⟨z2,c2,hR⟩:=xB hR;refine oI underlying30 sizeOf2 F rfl rfl rfl h6 c2 fun a p4 h7 F=>olI isAgg2 F rfl rfl H.sm h7 fun a i5 F=>oR1z (R:=xH) (y:=z2) underlying30 sizeOf2 zeroValue2 rfl rfl F rfl rfl H (Eo.int i5) (fun a w v13 H F=>?_);obtain⟨z3,c3,hR⟩:=xB hR;refine oPL (sz:=1) (R:=xH) (z:=(.int .i64 0)) (bytes:=8) underlying30 (by kernel_rfl) rfl rfl F rfl rfl rfl (H.s [1,0,2] rfl rfl) c3 fun a w v14 H F=>xA 1 F rfl fun a F=>qD (qW (xF (xR (xA 1 F rfl fun a F=>qR F rfl rfl rfl m2 fun a F=>xA 1 F rfl fun a F=>xJ ?_))));replace hR:=qZ hR hn2;exact⟨_,Nat.lt_succ_self _,k2+1,t1,z3,v14,⟨hd2.1,hd2.2.2⟩,rfl,hR,F.su,H⟩
   intro a w ⟨s3,v9,ho1,F,H⟩;subst ho1;have hR:=xN hk2;refine xF (xR (xA 4 F rfl fun a F=>?_));obtain⟨z4,c4,hR⟩:=xB hR;refine oKI F rfl call174 rfl H (spec_l02Value_c z4 c4 _ aA hx0 (H.a A1) (H.l 0 rfl)) fun a w H iz1 F=>oR1z (R:=xH) (y:=z4) underlying30 sizeOf2 zeroValue2 rfl rfl F rfl rfl H (Eo.int iz1) (fun a w v15 H F=>?_);obtain⟨z5,c5,hR⟩:=xB hR;refine oPL (sz:=1) (R:=xH) (z:=(.int .i64 0)) (bytes:=8) underlying30 (by kernel_rfl) rfl rfl F rfl rfl rfl (H.s [2,0,1] rfl rfl) c5 fun a w v16 H F=>xA 1 F rfl fun a F=>qD (qW (xF (xR (xA 1 F rfl fun a F=>qR F rfl rfl rfl m1 fun a F=>xA 1 F rfl fun a F=>xJ ?_))));replace hR:=qZ hR hn1;exact⟨_,Nat.lt_succ_self _,k1+1,z5,v16,(by omega),hR,F.su,(H.s [0] rfl rfl)⟩
 intro a w ⟨s1,v4,ho2,F,H⟩;subst ho2;have hR:=xN hk1;refine xF (xP (xA 2 F rfl fun a F=>xJ (xT (xO F rfl (oD F rfl) ?_))));obtain rfl:=Option.some.inj hR;exact⟨_,rfl,v4,rfl,H⟩
def spec_l00Own (x0:List Int):Option (List Int):=
 xX (ap ([]) x0) fun z1=>
 some z1
theorem spec_l00Own_c {B:Nat→Prop} {x0:List Int} (r:(List Int)) (hR:spec_l00Own x0=some r) {v0:Value} (w0:World) (hN:∀ c,B c→c<w0.heap.size) (A0:Bo B w0 (Sl 1 xH) v0 x0):Calls Tryz.prog 160 #[v0] w0 (Gv (fun v w'=>∃ (v1':Value),v=v1'∧Sep [] B w0 w' [rl 1 xH 2 v1' r])):=by
 unfold spec_l00Own at hR
 refine xV (L:=[(0,v0)]) func160 rfl rfl rfl (sc rfl sn) (fun a F=>?_);have H:=Sep.start hN;refine xP (xA 1 F rfl fun a F=>qU (oR0 (R:=xH) underlying30 sizeOf2 F rfl H fun a w v1 H F=>xA 1 F rfl fun a F=>?_));obtain⟨z1,c1,hR⟩:=xB hR;refine oPf (sz:=1) (R:=xH) (z:=(.int .i64 0)) (bytes:=8) underlying30 (by kernel_rfl) rfl rfl F rfl rfl rfl H.lw (H.lw.a A0) c1 (fun a w v2 H F=>?_);have H:=H.tl;refine xA 1 F rfl fun a F=>xJ (xT (xO F rfl (oD F rfl) ?_));obtain rfl:=Option.some.inj hR;exact⟨_,rfl,v2,rfl,H⟩
def spec_l02Breaks (N:Nat) (x0:Int) (x1:Op) (x2:Rel):Option ((List (List Int))×(List Int)×Bool):=
 xX (spec_l01SetOf N x0 x2) fun z16=>
 xX (zD N (x2.tuples.length:Int) x1.arity) fun z1=>
 vO (σ:=Unit) (
  vQ (σ:=Unit) (ρ:=(List (List Int))×(List Int)×Bool) (fun(k1:Nat) (s:Unit)=>
    match s with
    | _=>
    xX (spec_l01Digits N (x2.tuples.length:Int) x1.arity (k1:Int)) fun z2=>
    vO (σ:=(List (List Int))) (
     qK (σ:=(List (List Int))) (ρ:=(Ctl (Unit) ((List (List Int))×(List Int)×Bool))) (fun(k2:Nat) (x3:Int) (s1:(List (List Int)))=>
      xX (ix x2.tuples x3) fun z3=>
      xX (ap s1 ([z3])) fun z4=>
      some (.go z4)) z2 0 []) fun s2=>
    xX (spec_l02Make x0 x1 s2) fun z5=>
    xX (spec_l01Code x0 z5) fun z6=>
    xX (ix z16.2.2 z6) fun z7=>
    if (!z7) then
     vO (σ:=(List (List Int))) (
      qK (σ:=(List (List Int))) (ρ:=(Ctl (Unit) ((List (List Int))×(List Int)×Bool))) (fun(k3:Nat) (x4:(List Int)) (s3:(List (List Int)))=>
       xX (spec_l00Own x4) fun z8=>
       xX (ap s3 ([z8])) fun z9=>
       some (.go z9)) s2 0 []) fun s4=>
     some (.ret (s4,z5,true))
    else
     some (.go ())) z1.toNat 0 ()) fun _=>
 some ([],[],false)
theorem spec_l02Breaks_c {B:Nat→Prop} {N:Nat} {x0:Int} {x1:Op} {x2:Rel} (r:(List (List Int))×(List Int)×Bool) (hR:spec_l02Breaks N x0 x1 x2=some r) {v1:Value} {v2:Value} (w0:World) (hN:∀ c,B c→c<w0.heap.size) (hx0:xY x0) (A1:Bo B w0 (Pt 2 ROp) v1 x1) (A2:Bo B w0 (Pt 2 oM) v2 x2):Calls Tryz.prog 126 #[.int .i64 x0,v1,v2] w0 (Gv (fun v w'=>∃ (v1':Value) (v2':Value),v= .tuple #[v1',v2',.bool r.2.2]∧Sep [] B w0 w' [rl 1 (vY 1 xH) 30 v1' r.1,rl 1 xH 2 v2' r.2.1])):=by
 unfold spec_l02Breaks at hR
 refine xV (L:=[(0,.int .i64 x0),(1,v1),(2,v2)]) func126 rfl rfl rfl (sc rfl (sc rfl (sc rfl sn))) (fun a F=>?_);have H:=Sep.start hN;refine xP (xA 3 F rfl fun a F=>qU (xA 1 F rfl fun a F=>oN F rfl rfl A2 (fun a F=>?_)));refine oF (s':=1) vX F rfl rfl A2 oM.f1 fun a p1 h1 F=>olS isAgg67 F rfl rfl H.sm h1 fun a v3 h2 F=>oL underlying67 F rfl rfl h2 fun a i1 F=>xA 1 F rfl fun a F=>qU (xA 2 F rfl fun a F=>?_);obtain⟨z16,c1,hR⟩:=xB hR;refine oG F rfl call157 rfl (spec_l01SetOf_c z16 c1 _ aA hx0 (H.a A2)) (fun a vv w ⟨b1,v4,hv1,S,i2,i3⟩ F=>?_);subst vv;have H:=H.rk S ⟨n0,⟨n0,trivial⟩⟩ rfl;refine xA 1 F rfl fun a F=>qU (xA 2 F rfl fun a F=>oN F rfl rfl A1 fun a F=>oF (s':=1) fa64_0 F rfl rfl A1 ROp.f0 fun a p2 h3 F=>olI isAgg2 F rfl rfl H.sm h3 (fun a i4 F=>?_));obtain⟨z1,c2,hR⟩:=xB hR;refine oKI F rfl call134 rfl H (spec_l01Power_c z1 c2 _ aA i1 i4) fun a w H iz1 F=>xA 1 F rfl fun a F=>xJ (xC (xP (xA 1 F rfl fun a F=>xJ ?_)));obtain⟨o1,hR,hk1⟩:=xK hR;refine xW (fun a w=>o1= .nx ()∧Sk a 98 []∧Sep [] B w0 w []) ?_ ?_
 ·
  refine xS ?_;obtain⟨fl1,hf1,hR⟩:=zI hR;refine oR (fun g a w=>∃ (k1:Nat),k1+g=z1.toNat∧vQ fl1 g k1 ()=some o1∧Sk a 98 [(12,.int .i64 (k1:Int)),(0,.int .i64 x0),(1,v1),(2,v2),(9,.int .i64 (x2.tuples.length:Int)),(10,.pointer (some ⟨b1,0,none⟩)),(11,.int .i64 z1)]∧Sep [] B w0 w [bx b1 [.int .i64 z16.1,.int .i64 z16.2.1,v4] 205,rl 1 RBool 4 v4 z16.2.2]) z1.toNat ?_ ?_
  ·
   exact⟨0,(Nat.zero_add _),hR,F.su,H⟩
  intro g1 a w ⟨k1,hd1,hR,F,H⟩
  cases g1 with
  | zero=>
   replace hR:=vT hR;have l1:=kZ hd1;refine xC (xP (xA 3 F rfl fun a F=>xJ (qV F rfl l1 (oO (oQ ?_)))));refine oQ (vJ (xF ?_));exact⟨(Option.some.inj hR).symm,F.sub sn,(H.s [] rfl rfl)⟩
  | succ g1=>
   obtain⟨ck1,hR,hn1⟩:=vU hR;rw[hf1] at hR;have l1:=kE hd1;refine xC (xP (xA 3 F rfl fun a F=>xJ (qY F rfl l1 (xL (xF ?_)))));refine xC ?_;have j1:=k64I hd1 iz1;have m1:=inc64I hd1 iz1;refine xS (xP (xA 2 F rfl fun a F=>oN F rfl rfl A1 fun a F=>oF (s':=1) fa64_0 F rfl rfl A1 ROp.f0 fun a p3 h4 F=>olI isAgg2 F rfl rfl H.sm h4 fun a i5 F=>xA 1 F rfl fun a F=>?_));obtain⟨z2,c3,hR⟩:=xB hR;refine oG F rfl call135 rfl (spec_l01Digits_c z2 c3 _ aA i1 i5 j1) (fun a vv w ⟨v5,hv2,S⟩ F=>?_);subst vv;have H:=H.r1 S n0;refine xA 1 F rfl fun a F=>qU (oR0 (R:=(vY 1 xH)) underlying67 sizeOf30 F rfl H fun a w v6 H F=>xA 1 F rfl fun a F=>xJ (xC (xC ?_)));refine xR (xA 1 F rfl fun a F=>xJ ?_);obtain⟨o2,hR,hk2⟩:=xK hR;refine xW (fun a w=>∃ (s1:List (List Int)) (v7:Value),o2= .nx s1∧Sk a 98 [(0,.int .i64 x0),(1,v1),(2,v2),(9,.int .i64 (x2.tuples.length:Int)),(10,.pointer (some ⟨b1,0,none⟩)),(11,.int .i64 z1),(12,.int .i64 (k1:Int)),(14,v7)]∧Sep [] B w0 w [rw B 1 (vY 1 xH) 30 v7 s1,bx b1 [.int .i64 z16.1,.int .i64 z16.2.1,v4] 205,rl 1 RBool 4 v4 z16.2.2]) ?_ ?_
   ·
    refine xS ?_;obtain⟨fl2,hf2,hR⟩:=qE hR;refine oR (fun g a w=>∃ (k2:Nat) (t1:List Int) (s2:List (List Int)) (v8:Value),(k2≤z2.length∧z2.drop k2=t1)∧t1.length=g∧qK fl2 t1 k2 s2=some o2∧Sk a 98 [(15,.int .i64 (k2:Int)),(0,.int .i64 x0),(1,v1),(2,v2),(9,.int .i64 (x2.tuples.length:Int)),(10,.pointer (some ⟨b1,0,none⟩)),(11,.int .i64 z1),(12,.int .i64 (k1:Int)),(13,v5),(14,v8)]∧Sep [] B w0 w [rw B 1 (vY 1 xH) 30 v8 s2,rl 1 xH 2 v5 z2,bx b1 [.int .i64 z16.1,.int .i64 z16.2.1,v4] 205,rl 1 RBool 4 v4 z16.2.2]) z2.length ?_ ?_
    ·
     exact⟨0,z2,[],v6,⟨Nat.zero_le _,rfl⟩,rfl,hR,F.su,H.lw.wk⟩
    intro g2 a w ⟨k2,t1,s2,v8,hd2,hg1,hR,F,H⟩
    cases t1 with
    | nil=>
     replace hR:=qG hR;have q1:=qH hd2.1 hd2.2;have l2:=vA q1;refine xC (xP (xA 2 F rfl fun a F=>oL underlying30 F rfl rfl (H.l 1 rfl) fun a i6 F=>xA 1 F rfl fun a F=>xJ (qV F rfl l2 (oO ?_))));refine oQ (oQ (vJ (xF ?_)));exact⟨s2,v8,(Option.some.inj hR).symm,F.su,(H.s [0,2,3] rfl rfl)⟩
    | cons x3 t1=>
     subst hg1;replace hd2:=oH hd2.2;have y1:=oV hd2.2.1;obtain⟨ck2,hR,hn2⟩:=oU hR;rw[hf2] at hR;have l2:=qP hd2.1;refine xC (xP (xA 2 F rfl fun a F=>oL underlying30 F rfl rfl (H.l 1 rfl) fun a i7 F=>xA 1 F rfl fun a F=>xJ (qY F rfl l2 (xL ?_))));refine xF (xC ?_);have j2:=k64 (Nat.le_of_lt hd2.1) i7;have m2:=zA hd2.1 i7;refine xS ?_;obtain⟨z3,c4,hR⟩:=xB hR;obtain⟨z4,c5,hR⟩:=xB hR;obtain⟨w1,rfl⟩:∃ x,x=w:=⟨_,rfl⟩;have sm1:=H.sm;obtain⟨X1,N2,g3,e1,H,th1,ab1⟩:=(H.s [1,0,2,3] rfl rfl).fza;have h5:=g3.ld;refine xD H (by kernel_rfl) fun w H=>vD 0 rfl (by kernel_rfl) (by kernel_rfl) (by kernel_rfl) (oJ F rfl (fun w l=>xM F rfl) fun a F=>vD 1 rfl (by kernel_rfl) (by kernel_rfl) (by kernel_rfl) (oJ F rfl (fun w l=>xM F rfl) fun a F=>kO 2 (by kernel_rfl) rfl (by kernel_rfl) (by kernel_rfl) (by kernel_rfl) (by kernel_rfl) (vN F rfl rfl A2 fun a F=>kO 3 (by kernel_rfl) rfl (by kernel_rfl) (by kernel_rfl) (by kernel_rfl) (by kernel_rfl) (vF (s':=1) vX F rfl rfl A2 oM.f1 fun a p4 h6 F=>kO 4 (by kernel_rfl) rfl (by kernel_rfl) (by kernel_rfl) (by kernel_rfl) (by kernel_rfl) (vlS isAgg67 F rfl rfl (fun w l=>(sm1.trans (Sm.mono (H.v w l) th1.2.2))) h6 (fun a v9 h7 F=>?_))))));refine vD 5 rfl (by kernel_rfl) (by kernel_rfl) (by kernel_rfl) (oJ F rfl (fun w l=>xM F rfl) fun a F=>vD 6 rfl (by kernel_rfl) (by kernel_rfl) (by kernel_rfl) (oJ F rfl (fun w l=>xM F rfl) fun a F=>kO 7 (by kernel_rfl) rfl (by kernel_rfl) (by kernel_rfl) (by kernel_rfl) (by kernel_rfl) (vI underlying30 sizeOf2 F rfl rfl rfl h5 y1 fun a p5 h8 F=>kO 8 (by kernel_rfl) rfl (by kernel_rfl) (by kernel_rfl) (by kernel_rfl) (by kernel_rfl) (vlI isAgg2 F rfl rfl H.v h8 fun a i8 F=>kO 9 (by kernel_rfl) rfl (by kernel_rfl) (by kernel_rfl) (by kernel_rfl) (by kernel_rfl) (vI underlying67 sizeOf30 F rfl rfl rfl h7 c4 fun a p6 h9 F=>kO 10 (by kernel_rfl) rfl (by kernel_rfl) (by kernel_rfl) (by kernel_rfl) (by kernel_rfl) ?_)))));refine vlS isAgg30 F rfl rfl (fun w l=>(sm1.trans (Sm.mono (H.v w l) th1.2.2))) h9 fun a v10 h10 F=>xE H 11 rfl (by kernel_rfl) (oR1 (R:=(vY 1 xH)) (y:=z3) (N1:=B) underlying67 sizeOf30 zeroValue30 rfl rfl F rfl rfl H (fun c h=>(th1.2.2 c h)) (Eo.sl (Bo.to h10 (sm1.trans (Sm.mono H.sm th1.2.2)))) fun a w v11 H F=>xJ ⟨⟨_,H⟩,?_⟩);refine xE H 12 rfl (by kernel_rfl) (oP (sz:=1) (R:=(vY 1 xH)) (z:=((.slice none 0 0))) (bytes:=24) underlying67 (by kernel_rfl) rfl rfl F rfl rfl rfl (H.s [1,0,2,3] rfl rfl) c5 fun a w v12 H F=>xJ ⟨⟨_,H⟩,?_⟩);refine vD 13 rfl (by kernel_rfl) (by kernel_rfl) (by kernel_rfl) (oJ F rfl (fun w l=>kL F rfl) fun a F=>b_end (by kernel_rfl) (qW (xF (xR (xA 1 F rfl fun a F=>qR F rfl rfl rfl m2 fun a F=>xA 1 F rfl fun a F=>xJ ?_)))));replace hR:=qZ hR hn2;exact⟨_,Nat.lt_succ_self _,k2+1,t1,z4,v12,⟨hd2.1,hd2.2.2⟩,rfl,hR,F.su,((th1.1 H (Ns.all ⟨n1,⟨n0,⟨n0,trivial⟩⟩⟩)).s [1,0,2,3] rfl rfl)⟩
   intro a w ⟨s1,v7,ho1,F,H⟩;subst ho1;have hR:=xN hk2;refine xF (xP (xA 3 F rfl fun a F=>?_));obtain⟨z5,c6,hR⟩:=xB hR;refine oG F rfl call158 rfl (spec_l02Make_c z5 c6 _ aA hx0 (H.a A1) (H.r 0 rfl)) (fun a vv w ⟨v14,hv3,S⟩ F=>?_);subst vv;have H:=H.r1 S n0;refine xA 1 F rfl fun a F=>xJ (xC (xQ H (by kernel_rfl) (by kernel_rfl) (xU F rfl (fun w l=>xM F rfl) fun a F=>xU F rfl (fun w l=>r_nilCheck F rfl) fun a F=>xU F rfl (fun w l=>zQ fa205_2 F rfl rfl) fun a F=>qB isAgg203 F rfl rfl (H.qb 2 rfl) rfl fun a F=>xU F rfl (fun w l=>xM F rfl) fun a F=>xU F rfl (fun w l=>xM F rfl) (fun a F=>?_))));obtain⟨z6,c7,hR⟩:=xB hR;refine q_saysI F rfl call159 rfl (fun w w' h l=>l.through h) _ (Below.refl _ _) (fun w l=>spec_l01Code_c z6 c7 w aA hx0 ((H.go l).l 0 rfl)) (fun a iz2 F=>?_);obtain⟨z7,c8,hR⟩:=xB hR;refine qI underlying203 sizeOf4 F rfl rfl rfl (H.l 3 rfl) c8 fun a p7 h11 F=>qlB isAgg4 F rfl rfl qA h11 fun a F=>xU F rfl (fun w l=>r_not F rfl) fun a F=>kP fun w H=>xF (qT F rfl (fun hb1=>?_) (fun hb1=>?_))
   ·
    replace hR:=vS hb1 hR;refine xP (oR0 (R:=(vY 1 xH)) underlying67 sizeOf30 F rfl H fun a w v15 H F=>xA 1 F rfl fun a F=>xJ (xC (xP (xA 1 F rfl fun a F=>qD ?_))));refine xF ?_;obtain⟨o3,hR,hk3⟩:=xK hR;refine xW (fun a w=>∃ (s3:List (List Int)) (v16:Value),o3= .nx s3∧Sk a 98 [(16,v14),(17,v16)]∧Sep [] B w0 w [rl 1 (vY 1 xH) 30 v16 s3,rl 1 xH 2 v14 z5]) ?_ ?_
    ·
     refine xS ?_;obtain⟨fl3,hf3,hR⟩:=qE hR;refine oR (fun g a w=>∃ (k3:Nat) (t2:List (List Int)) (s4:List (List Int)) (v17:Value),(k3≤s1.length∧s1.drop k3=t2)∧t2.length=g∧qK fl3 t2 k3 s4=some o3∧Sk a 98 [(18,.int .i64 (k3:Int)),(14,v7),(16,v14),(17,v17)]∧Sep [] B w0 w [rl 1 (vY 1 xH) 30 v17 s4,rl 1 xH 2 v14 z5,rw B 1 (vY 1 xH) 30 v7 s1]) s1.length ?_ ?_
     ·
      exact⟨0,s1,[],v15,⟨Nat.zero_le _,rfl⟩,rfl,hR,F.su,(H.s [0,1,2] rfl rfl)⟩
     intro g4 a w ⟨k3,t2,s4,v17,hd3,hg2,hR,F,H⟩
     cases t2 with
     | nil=>
      replace hR:=qG hR;have q2:=qH hd3.1 hd3.2;have l3:=vA q2;refine xC (xP (xA 2 F rfl fun a F=>oL underlying67 F rfl rfl (H.r 2 rfl) fun a i9 F=>xA 1 F rfl fun a F=>xJ (qV F rfl l3 (oO ?_))));refine oQ (oQ (vJ (xF ?_)));exact⟨s4,v17,(Option.some.inj hR).symm,F.su,(H.s [0,1] rfl rfl)⟩
     | cons x4 t2=>
      subst hg2;replace hd3:=oH hd3.2;have y2:=oV hd3.2.1;obtain⟨ck3,hR,hn3⟩:=oU hR;rw[hf3] at hR;have l3:=qP hd3.1;refine xC (xP (xA 2 F rfl fun a F=>oL underlying67 F rfl rfl (H.r 2 rfl) fun a i10 F=>xA 1 F rfl fun a F=>xJ (qY F rfl l3 (xL ?_))));refine xF (xC ?_);have j3:=k64 (Nat.le_of_lt hd3.1) i10;have m3:=zA hd3.1 i10;refine xS (xR (xA 3 F rfl fun a F=>oI underlying67 sizeOf30 F rfl rfl rfl (H.r 2 rfl) y2 fun a p8 h13 F=>olS isAgg30 F rfl rfl (Sm.refl _ _) h13 (fun a v18 h15 F=>?_)));obtain⟨z8,c9,hR⟩:=xB hR;refine oG F rfl call160 rfl (spec_l00Own_c z8 c9 _ aA h15) (fun a vv w ⟨v19,hv4,S⟩ F=>?_);subst vv;have H:=H.r1 S n0;have H:=H.os;refine oR1L (R:=(vY 1 xH)) (y:=z8) underlying67 sizeOf30 zeroValue30 rfl rfl F rfl rfl H El.sl (fun a w v20 H F=>?_);obtain⟨z9,c10,hR⟩:=xB hR;refine oPL (sz:=1) (R:=(vY 1 xH)) (z:=((.slice none 0 0))) (bytes:=24) underlying67 (by kernel_rfl) rfl rfl F rfl rfl rfl (H.s [1,0,2,3] rfl rfl) c10 fun a w v22 H F=>xA 1 F rfl fun a F=>qD (qW (xF (xR (xA 1 F rfl fun a F=>qR F rfl rfl rfl m3 fun a F=>xA 1 F rfl fun a F=>xJ ?_))));replace hR:=qZ hR hn3;exact⟨_,Nat.lt_succ_self _,k3+1,t2,z9,v22,⟨hd3.1,hd3.2.2⟩,rfl,hR,F.su,H⟩
    intro a w ⟨s3,v16,ho2,F,H⟩;subst ho2;have hR:=xN hk3;refine xF (xP (xA 5 F rfl fun a F=>xJ (xT ?_)));refine vH (oE (oE ?_));replace hR:=zS hR hn1;refine vH (oE ?_);replace hR:=zR hR hk1;refine oE (x_res3 F rfl (oD F rfl) (oD F rfl) (oD F rfl) ?_);obtain rfl:=Option.some.inj hR;exact⟨_,rfl,v16,v14,rfl,H⟩
   replace hR:=vR hb1 hR;refine xL (qW (xF (xR (xA 1 F rfl fun a F=>qR F rfl rfl rfl m1 fun a F=>xA 1 F rfl fun a F=>xJ ?_))));replace hR:=qZ hR hn1;exact⟨_,Nat.lt_succ_self _,k1+1,(by omega),hR,F.su,(H.s [2,3] rfl rfl)⟩
 intro a w ⟨ho3,F,H⟩;subst ho3;have hR:=xN hk1;refine xF (xP (oR0 (R:=(vY 1 xH)) underlying67 sizeOf30 F rfl H fun a w v23 H F=>oR0 (R:=xH) underlying30 sizeOf2 F rfl H fun a w v24 H F=>xA 3 F rfl fun a F=>xJ (xT ?_)));refine x_res3 F rfl (oD F rfl) (oD F rfl) (oD F rfl) ?_;obtain rfl:=Option.some.inj hR;exact⟨_,rfl,v23,v24,rfl,(H.s [1,0] rfl rfl)⟩
def spec_l02Keeps (N:Nat) (x0:Int) (x1:Op) (x2:Rel):Option Bool:=
 xX (spec_l02Breaks N x0 x1 x2) fun z1=>
 some ((!z1.2.2))
theorem spec_l02Keeps_c {B:Nat→Prop} {N:Nat} {x0:Int} {x1:Op} {x2:Rel} (r:Bool) (hR:spec_l02Keeps N x0 x1 x2=some r) {v1:Value} {v2:Value} (w0:World) (hN:∀ c,B c→c<w0.heap.size) (hx0:xY x0) (A1:Bo B w0 (Pt 2 ROp) v1 x1) (A2:Bo B w0 (Pt 2 oM) v2 x2):Calls Tryz.prog 84 #[.int .i64 x0,v1,v2] w0 (vV (.bool r) w0):=by
 unfold spec_l02Keeps at hR
 refine xV (L:=[(0,.int .i64 x0),(1,v1),(2,v2)]) func84 rfl rfl rfl (sc rfl (sc rfl (sc rfl sn))) (fun a F=>?_);have H:=Sep.start hN;refine xP (xA 1 F rfl fun a F=>qU (xA 3 F rfl fun a F=>?_));obtain⟨z1,c1,hR⟩:=xB hR;refine oG F rfl call126 rfl (spec_l02Breaks_c z1 c1 _ aA hx0 (H.a A1) (H.a A2)) (fun a vv w ⟨v3,v4,hv1,S⟩ F=>?_);subst vv;have H:=H.rk S ⟨n0,⟨n0,trivial⟩⟩ rfl;refine xA 7 F rfl fun a F=>qU ?_;refine xA 3 F rfl fun a F=>xJ (xT (xO F rfl (oD F rfl) ?_));obtain rfl:=Option.some.inj hR;exact⟨rfl,H.bl⟩
def spec_l02First (N:Nat) (x0:Template) (x1:Op):Option Int:=
 vO (σ:=Unit) (
  qK (σ:=Unit) (ρ:=Int) (fun(k1:Nat) (x2:Rel) (s:Unit)=>
    match s with
    | _=>
    xX (spec_l02Keeps N x0.size x1 x2) fun z1=>
    if (!z1) then
     some (.ret ((k1:Int)))
    else
     some (.go ())) x0.rels 0 ()) fun _=>
 some ((-1))
theorem spec_l02First_c {B:Nat→Prop} {N:Nat} {x0:Template} {x1:Op} (r:Int) (hR:spec_l02First N x0 x1=some r) {v0:Value} {v1:Value} (w0:World) (hN:∀ c,B c→c<w0.heap.size) (A0:Bo B w0 (Pt 2 xG) v0 x0) (A1:Bo B w0 (Pt 2 ROp) v1 x1):Calls Tryz.prog 47 #[v0,v1] w0 (SaysI r w0):=by
 unfold spec_l02First at hR
 refine xV (L:=[(0,v0),(1,v1)]) func47 rfl rfl rfl (sc rfl (sc rfl sn)) (fun a F=>?_);have H:=Sep.start hN;refine xP (xA 1 F rfl fun a F=>xJ (xC (xP (xA 1 F rfl fun a F=>xJ ?_))));obtain⟨o1,hR,hk1⟩:=xK hR;refine xW (fun a w=>o1= .nx ()∧Sk a 29 []∧Sep [] B w0 w []) ?_ ?_
 ·
  refine xS ?_;obtain⟨fl1,hf1,hR⟩:=qE hR;refine oR (fun g a w=>∃ (k1:Nat) (t1:List Rel),(k1≤x0.rels.length∧x0.rels.drop k1=t1)∧t1.length=g∧qK fl1 t1 k1 ()=some o1∧Sk a 29 [(5,.int .i64 (k1:Int)),(0,v0),(1,v1)]∧Sep [] B w0 w []) x0.rels.length ?_ ?_
  ·
   exact⟨0,x0.rels,⟨Nat.zero_le _,rfl⟩,rfl,hR,F.su,H⟩
  intro g1 a w ⟨k1,t1,hd1,hg1,hR,F,H⟩
  cases t1 with
  | nil=>
   replace hR:=qG hR;have q1:=qH hd1.1 hd1.2;have l1:=vA q1;refine xC (xP (xA 2 F rfl fun a F=>oN F rfl rfl A0 fun a F=>oF (s':=1) fa35_1 F rfl rfl A0 xG.f1 fun a p1 h1 F=>olS isAgg33 F rfl rfl H.sm h1 fun a v64 h2 F=>oL underlying33 F rfl rfl h2 fun a i1 F=>xA 1 F rfl fun a F=>qD ?_));refine xF (qV F rfl l1 (oO (oQ (oQ (vJ (xF ?_))))));exact⟨(Option.some.inj hR).symm,F.sub sn,H⟩
  | cons x2 t1=>
   subst hg1;replace hd1:=oH hd1.2;have y1:=oV hd1.2.1;obtain⟨ck1,hR,hn1⟩:=oU hR;rw[hf1] at hR;have l1:=qP hd1.1;refine xC (xP (xA 2 F rfl fun a F=>oN F rfl rfl A0 fun a F=>oF (s':=1) fa35_1 F rfl rfl A0 xG.f1 fun a p2 h3 F=>olS isAgg33 F rfl rfl H.sm h3 fun a v2 h4 F=>oL underlying33 F rfl rfl h4 fun a i2 F=>xA 1 F rfl fun a F=>qD ?_));refine xF (qY F rfl l1 (xL (xF (xC ?_))));have j1:=k64 (Nat.le_of_lt hd1.1) i2;have m1:=zA hd1.1 i2;refine xS (xC (xQ H (by kernel_rfl) (by kernel_rfl) (xU F rfl (fun w l=>xM F rfl) fun a F=>qN F rfl rfl A0 fun a F=>qF (s':=1) fa35_0 F rfl rfl A0 xG.f0 fun a p3 h5 F=>qlI isAgg2 F rfl rfl H.q h5 fun a i3 F=>xU F rfl (fun w l=>xM F rfl) fun a F=>xU F rfl (fun w l=>xM F rfl) fun a F=>qN F rfl rfl A0 fun a F=>qF (s':=1) fa35_1 F rfl rfl A0 xG.f1 (fun a p4 h6 F=>?_))));refine qlS isAgg33 F rfl rfl H.q h6 fun a v3 h7 F=>xU F rfl (fun w l=>xM F rfl) fun a F=>qI underlying33 sizeOf69 F rfl rfl rfl h7 y1 (fun a p5 h8 F=>?_);obtain⟨z1,c1,hR⟩:=xB hR;refine q_says F rfl call84 rfl (fun w w' h l=>l.through h) (fun w l=>spec_l02Keeps_c z1 c1 w aA i3 ((H.go l).a A1) ((H.go l).a h8)) fun a F=>xU F rfl (fun w l=>r_not F rfl) fun a F=>kP fun w H=>xF (qT F rfl (fun hb1=>?_) (fun hb1=>?_))
   ·
    replace hR:=vS hb1 hR;refine xP (xA 2 F rfl fun a F=>xJ (xT (vH (oE (oE ?_)))));replace hR:=zS hR hn1;refine vH (oE ?_);replace hR:=zR hR hk1;refine oE (xO F rfl (oD F rfl) ?_);obtain rfl:=Option.some.inj hR;exact⟨⟨rfl,H.bl⟩,j1⟩
   replace hR:=vR hb1 hR;refine xL (qW (xF (xR (xA 1 F rfl fun a F=>qR F rfl rfl rfl m1 fun a F=>xA 1 F rfl fun a F=>xJ ?_))));replace hR:=qZ hR hn1;exact⟨_,Nat.lt_succ_self _,k1+1,t1,⟨hd1.1,hd1.2.2⟩,rfl,hR,F.su,H⟩
 intro a w ⟨ho1,F,H⟩;subst ho1;have hR:=xN hk1;refine xF (xP (xA 1 F rfl fun a F=>xJ (xT (xO F rfl (oD F rfl) ?_))));obtain rfl:=Option.some.inj hR;exact⟨⟨rfl,H.bl⟩,(show xY (-1) by decide)⟩
def spec_l09Is (N:Nat) (x0:Template) (x1:Int):Option Bool:=
 xX (spec_l09Op x1) fun z1=>
 xX (spec_l02First N x0 (Op.mk z1.arity z1.table)) fun z2=>
 some ((decide (z2<0)))
theorem spec_l09Is_c {B:Nat→Prop} {N:Nat} {x0:Template} {x1:Int} (r:Bool) (hR:spec_l09Is N x0 x1=some r) {v0:Value} (w0:World) (hN:∀ c,B c→c<w0.heap.size) (A0:Bo B w0 (Pt 2 xG) v0 x0) (hx1:xY x1):Calls Tryz.prog 21 #[v0,.int .i64 x1] w0 (vV (.bool r) w0):=by
 unfold spec_l09Is at hR
 refine xV (L:=[(0,v0),(1,.int .i64 x1)]) func21 rfl rfl rfl (sc rfl (sc rfl sn)) (fun a F=>?_);have H:=Sep.start hN;refine xP (xA 1 F rfl fun a F=>qU (xA 1 F rfl fun a F=>?_));obtain⟨z1,c1,hR⟩:=xB hR;refine oG F rfl call46 rfl (spec_l09Op_c z1 c1 _ aA hx1) (fun a vv w ⟨v1,hv16,S,i1⟩ F=>?_);subst vv;have H:=H.r1 S n0;refine oA zeroValue64 F rfl rfl H fun a w b1 H F=>oWA (vs:=[.int .i64 z1.arity,v1]) sizeOf64 F rfl rfl rfl H (oc rfl (oc (H.l 1 rfl).one on)) rfl rfl fun w H=>qU (xA 1 F rfl fun a F=>?_);obtain⟨z2,c2,hR⟩:=xB hR;refine oKI F rfl call47 rfl H (spec_l02First_c z2 c2 _ aA (H.a A0) (ROp.b (H.g 0 rfl).bk i1 (H.l 1 rfl))) fun a w H iz1 F=>xA 2 F rfl fun a F=>xJ (xT (xO F rfl (oD F rfl) ?_));obtain rfl:=Option.some.inj hR;exact⟨rfl,H.bl⟩
def spec_l09Empty (x0:Template):Option Bool:=
 vO (σ:=Unit) (
  qK (σ:=Unit) (ρ:=Bool) (fun(k1:Nat) (x1:Rel) (s:Unit)=>
    match s with
    | _=>
    if ((x1.tuples.length:Int)==0) then
     some (.ret true)
    else
     some (.go ())) x0.rels 0 ()) fun _=>
 some false
theorem spec_l09Empty_c {B:Nat→Prop} {x0:Template} (r:Bool) (hR:spec_l09Empty x0=some r) {v0:Value} (w0:World) (hN:∀ c,B c→c<w0.heap.size) (A0:Bo B w0 (Pt 2 xG) v0 x0):Calls Tryz.prog 22 #[v0] w0 (vV (.bool r) w0):=by
 unfold spec_l09Empty at hR
 refine xV (L:=[(0,v0)]) func22 rfl rfl rfl (sc rfl sn) (fun a F=>?_);have H:=Sep.start hN;refine xP (xA 1 F rfl fun a F=>xJ (xC (xP (xA 1 F rfl fun a F=>xJ ?_))));obtain⟨o1,hR,hk1⟩:=xK hR;refine xW (fun a w=>o1= .nx ()∧Sk a 23 []∧Sep [] B w0 w []) ?_ ?_
 ·
  refine xS ?_;obtain⟨fl1,hf1,hR⟩:=qE hR;refine oR (fun g a w=>∃ (k1:Nat) (t1:List Rel),(k1≤x0.rels.length∧x0.rels.drop k1=t1)∧t1.length=g∧qK fl1 t1 k1 ()=some o1∧Sk a 23 [(3,.int .i64 (k1:Int)),(0,v0)]∧Sep [] B w0 w []) x0.rels.length ?_ ?_
  ·
   exact⟨0,x0.rels,⟨Nat.zero_le _,rfl⟩,rfl,hR,F.su,H⟩
  intro g1 a w ⟨k1,t1,hd1,hg1,hR,F,H⟩
  cases t1 with
  | nil=>
   replace hR:=qG hR;have q1:=qH hd1.1 hd1.2;have l1:=vA q1;refine xC (xP (xA 2 F rfl fun a F=>oN F rfl rfl A0 fun a F=>oF (s':=1) fa35_1 F rfl rfl A0 xG.f1 fun a p1 h1 F=>olS isAgg33 F rfl rfl H.sm h1 fun a v64 h2 F=>oL underlying33 F rfl rfl h2 fun a i1 F=>xA 1 F rfl fun a F=>qD ?_));refine xF (qV F rfl l1 (oO (oQ (oQ (vJ (xF ?_))))));exact⟨(Option.some.inj hR).symm,F.sub sn,H⟩
  | cons x1 t1=>
   subst hg1;replace hd1:=oH hd1.2;have y1:=oV hd1.2.1;obtain⟨ck1,hR,hn1⟩:=oU hR;rw[hf1] at hR;have l1:=qP hd1.1;refine xC (xP (xA 2 F rfl fun a F=>oN F rfl rfl A0 fun a F=>oF (s':=1) fa35_1 F rfl rfl A0 xG.f1 fun a p2 h3 F=>olS isAgg33 F rfl rfl H.sm h3 fun a v1 h4 F=>oL underlying33 F rfl rfl h4 fun a i2 F=>xA 1 F rfl fun a F=>qD ?_));refine xF (qY F rfl l1 (xL (xF (xC ?_))));have j1:=k64 (Nat.le_of_lt hd1.1) i2;have m1:=zA hd1.1 i2;refine xS (xP (xA 1 F rfl fun a F=>oN F rfl rfl A0 fun a F=>oF (s':=1) fa35_1 F rfl rfl A0 xG.f1 fun a p3 h5 F=>olS isAgg33 F rfl rfl H.sm h5 fun a v2 h6 F=>xA 1 F rfl fun a F=>oI underlying33 sizeOf69 F rfl rfl rfl h6 y1 fun a p4 h7 F=>oF (s':=1) vX F rfl rfl h7 oM.f1 fun a p5 h8 F=>olS isAgg67 F rfl rfl H.sm h8 (fun a v3 h9 F=>?_)));refine oL underlying67 F rfl rfl h9 fun a i3 F=>xA 1 F rfl fun a F=>xJ (qT F rfl (fun hb1=>?_) (fun hb1=>?_))
   ·
    replace hR:=vS hb1 hR;refine xP (xA 1 F rfl fun a F=>xJ (xT (vH (oE (oE ?_)))));replace hR:=zS hR hn1;refine vH (oE ?_);replace hR:=zR hR hk1;refine oE (xO F rfl (oD F rfl) ?_);obtain rfl:=Option.some.inj hR;exact⟨rfl,H.bl⟩
   replace hR:=vR hb1 hR;refine xL (qW (xF (xR (xA 1 F rfl fun a F=>qR F rfl rfl rfl m1 fun a F=>xA 1 F rfl fun a F=>xJ ?_))));replace hR:=qZ hR hn1;exact⟨_,Nat.lt_succ_self _,k1+1,t1,⟨hd1.1,hd1.2.2⟩,rfl,hR,F.su,H⟩
 intro a w ⟨ho1,F,H⟩;subst ho1;have hR:=xN hk1;refine xF (xP (xA 1 F rfl fun a F=>xJ (xT (xO F rfl (oD F rfl) ?_))));obtain rfl:=Option.some.inj hR;exact⟨rfl,H.bl⟩
def spec_l03Count (x0:Int):Option (List Int):=
 vO (σ:=(List Int)) (
  vQ (σ:=(List Int)) (ρ:=(List Int)) (fun(k1:Nat) (s1:(List Int))=>
   xX (ap s1 ([(k1:Int)])) fun z1=>
   some (.go z1)) x0.toNat 0 []) fun s2=>
 some s2
theorem spec_l03Count_c {B:Nat→Prop} {x0:Int} (r:(List Int)) (hR:spec_l03Count x0=some r)  (w0:World) (hN:∀ c,B c→c<w0.heap.size) (hx0:xY x0):Calls Tryz.prog 127 #[.int .i64 x0] w0 (Gv (fun v w'=>∃ (v1':Value),v=v1'∧Sep [] B w0 w' [rl 1 xH 2 v1' r])):=by
 unfold spec_l03Count at hR
 refine xV (L:=[(0,.int .i64 x0)]) func127 rfl rfl rfl (sc rfl sn) (fun a F=>?_);have H:=Sep.start hN;refine xP (xA 1 F rfl fun a F=>qU (oR0 (R:=xH) underlying30 sizeOf2 F rfl H fun a w v1 H F=>xA 1 F rfl fun a F=>xJ ?_));refine xC (xP (xA 1 F rfl fun a F=>xJ ?_));obtain⟨o1,hR,hk1⟩:=xK hR;refine xW (fun a w=>∃ (s1:List Int) (v2:Value),o1= .nx s1∧Sk a 16 [(3,v2)]∧Sep [] B w0 w [rl 1 xH 2 v2 s1]) ?_ ?_
 ·
  refine xS ?_;obtain⟨fl1,hf1,hR⟩:=zI hR;refine oR (fun g a w=>∃ (k1:Nat) (s2:List Int) (v3:Value),k1+g=x0.toNat∧vQ fl1 g k1 s2=some o1∧Sk a 16 [(4,.int .i64 (k1:Int)),(0,.int .i64 x0),(3,v3)]∧Sep [] B w0 w [rl 1 xH 2 v3 s2]) x0.toNat ?_ ?_
  ·
   exact⟨0,[],v1,(Nat.zero_add _),hR,F.su,H⟩
  intro g1 a w ⟨k1,s2,v3,hd1,hR,F,H⟩
  cases g1 with
  | zero=>
   replace hR:=vT hR;have l1:=kZ hd1;refine xC (xP (xA 3 F rfl fun a F=>xJ (qV F rfl l1 (oO (oQ ?_)))));refine oQ (vJ (xF ?_));exact⟨s2,v3,(Option.some.inj hR).symm,F.su,H⟩
  | succ g1=>
   obtain⟨ck1,hR,hn1⟩:=vU hR;rw[hf1] at hR;have l1:=kE hd1;refine xC (xP (xA 3 F rfl fun a F=>xJ (qY F rfl l1 (xL (xF ?_)))));refine xC ?_;have j1:=k64I hd1 hx0;have m1:=inc64I hd1 hx0;refine xS (xR (xA 2 F rfl fun a F=>oR1z (R:=xH) (y:=(k1:Int)) underlying30 sizeOf2 zeroValue2 rfl rfl F rfl rfl H (Eo.int j1) (fun a w v4 H F=>?_)));obtain⟨z1,c1,hR⟩:=xB hR;refine oPL (sz:=1) (R:=xH) (z:=(.int .i64 0)) (bytes:=8) underlying30 (by kernel_rfl) rfl rfl F rfl rfl rfl (H.s [1,0] rfl rfl) c1 fun a w v5 H F=>xA 1 F rfl fun a F=>qD (qW (xF (xR (xA 1 F rfl fun a F=>qR F rfl rfl rfl m1 fun a F=>xA 1 F rfl fun a F=>xJ ?_))));replace hR:=qZ hR hn1;exact⟨_,Nat.lt_succ_self _,k1+1,z1,v5,(by omega),hR,F.su,H⟩
 intro a w ⟨s1,v2,ho1,F,H⟩;subst ho1;have hR:=xN hk1;refine xF (xP (xA 2 F rfl fun a F=>xJ (xT (xO F rfl (oD F rfl) ?_))));obtain rfl:=Option.some.inj hR;exact⟨_,rfl,v2,rfl,H⟩
def spec_l05Full (x0:Template) (x1:Instance):Option (List (List Int)):=
 vO (σ:=(List (List Int))) (
  vQ (σ:=(List (List Int))) (ρ:=(List (List Int))) (fun(k1:Nat) (s1:(List (List Int)))=>
   xX (spec_l03Count x0.size) fun z1=>
   xX (ap s1 ([z1])) fun z2=>
   some (.go z2)) x1.vars.toNat 0 []) fun s2=>
 some s2
theorem spec_l05Full_c {B:Nat→Prop} {x0:Template} {x1:Instance} (r:(List (List Int))) (hR:spec_l05Full x0 x1=some r) {v0:Value} {v1:Value} (w0:World) (hN:∀ c,B c→c<w0.heap.size) (A0:Bo B w0 (Pt 2 xG) v0 x0) (A1:Bo B w0 (Pt 2 xI) v1 x1):Calls Tryz.prog 85 #[v0,v1] w0 (Gv (fun v w'=>∃ (v1':Value),v=v1'∧Sep [] B w0 w' [rl 1 (vY 1 xH) 30 v1' r])):=by
 unfold spec_l05Full at hR
 refine xV (L:=[(0,v0),(1,v1)]) func85 rfl rfl rfl (sc rfl (sc rfl sn)) (fun a F=>?_);have H:=Sep.start hN;refine xP (xA 1 F rfl fun a F=>qU (oR0 (R:=(vY 1 xH)) underlying67 sizeOf30 F rfl H fun a w v2 H F=>xA 1 F rfl fun a F=>xJ ?_));refine xC (xP (xA 1 F rfl fun a F=>xJ ?_));obtain⟨o1,hR,hk1⟩:=xK hR;refine xW (fun a w=>∃ (s1:List (List Int)) (v3:Value),o1= .nx s1∧Sk a 25 [(5,v3)]∧Sep [] B w0 w [rl 1 (vY 1 xH) 30 v3 s1]) ?_ ?_
 ·
  refine xS ?_;obtain⟨fl1,hf1,hR⟩:=zI hR;refine oR (fun g a w=>∃ (k1:Nat) (s2:List (List Int)) (v4:Value),k1+g=x1.vars.toNat∧vQ fl1 g k1 s2=some o1∧Sk a 25 [(6,.int .i64 (k1:Int)),(0,v0),(1,v1),(5,v4)]∧Sep [] B w0 w [rl 1 (vY 1 xH) 30 v4 s2]) x1.vars.toNat ?_ ?_
  ·
   exact⟨0,[],v2,(Nat.zero_add _),hR,F.su,H⟩
  intro g1 a w ⟨k1,s2,v4,hd1,hR,F,H⟩
  cases g1 with
  | zero=>
   replace hR:=vT hR;have l1:=kZ hd1;refine xC (xP (xA 2 F rfl fun a F=>oN F rfl rfl A1 fun a F=>oF (s':=1) zY F rfl rfl A1 xI.f0 fun a p1 h1 F=>olI isAgg2 F rfl rfl H.sm h1 fun a i1 F=>xA 1 F rfl fun a F=>xJ ?_));refine qV F rfl l1 (oO (oQ (oQ (vJ (xF ?_)))));exact⟨s2,v4,(Option.some.inj hR).symm,F.su,H⟩
  | succ g1=>
   obtain⟨ck1,hR,hn1⟩:=vU hR;rw[hf1] at hR;have l1:=kE hd1;refine xC (xP (xA 2 F rfl fun a F=>oN F rfl rfl A1 fun a F=>oF (s':=1) zY F rfl rfl A1 xI.f0 fun a p2 h2 F=>olI isAgg2 F rfl rfl H.sm h2 fun a i2 F=>xA 1 F rfl fun a F=>xJ ?_));refine qY F rfl l1 (xL (xF (xC ?_)));have j1:=k64I hd1 i2;have m1:=inc64I hd1 i2;refine xS (xR (xA 2 F rfl fun a F=>oN F rfl rfl A0 fun a F=>oF (s':=1) fa35_0 F rfl rfl A0 xG.f0 fun a p3 h3 F=>olI isAgg2 F rfl rfl H.sm h3 (fun a i3 F=>?_)));obtain⟨z1,c1,hR⟩:=xB hR;refine oG F rfl call127 rfl (spec_l03Count_c z1 c1 _ aA i3) (fun a vv w ⟨v5,hv64,S⟩ F=>?_);subst vv;have H:=H.r1 S n0;have H:=H.os;refine oR1L (R:=(vY 1 xH)) (y:=z1) underlying67 sizeOf30 zeroValue30 rfl rfl F rfl rfl H El.sl (fun a w v6 H F=>?_);obtain⟨z2,c2,hR⟩:=xB hR;refine oPL (sz:=1) (R:=(vY 1 xH)) (z:=((.slice none 0 0))) (bytes:=24) underlying67 (by kernel_rfl) rfl rfl F rfl rfl rfl (H.s [1,0] rfl rfl) c2 fun a w v7 H F=>xA 1 F rfl fun a F=>qD (qW (xF (xR (xA 1 F rfl fun a F=>qR F rfl rfl rfl m1 fun a F=>xA 1 F rfl fun a F=>xJ ?_))));replace hR:=qZ hR hn1;exact⟨_,Nat.lt_succ_self _,k1+1,z2,v7,(by omega),hR,F.su,H⟩
 intro a w ⟨s1,v3,ho1,F,H⟩;subst ho1;have hR:=xN hk1;refine xF (xP (xA 2 F rfl fun a F=>xJ (xT (xO F rfl (oD F rfl) ?_))));obtain rfl:=Option.some.inj hR;exact⟨_,rfl,v3,rfl,H⟩
end Go.Proofs.YticojbhjloeckaaGreat
