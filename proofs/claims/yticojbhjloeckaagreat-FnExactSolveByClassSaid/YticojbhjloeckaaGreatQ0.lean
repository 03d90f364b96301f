import Derived.Test.YticojbhjloeckaaGreatZ
import Derived.Test.YticojbhjloeckaaGreatNG
namespace Go.Proofs.YticojbhjloeckaaGreat
open Go.Proofs.Tryz
set_option maxHeartbeats 1000000
set_option linter.unusedVariables false
set_option linter.unusedSimpArgs false
set_option maxRecDepth 100000
open Go.RowKit
def impl_chosen (x0:List Int) (x1:List Int):Option (List Int):=
 vO (σ:=(List Int)) (
  qK (σ:=(List Int)) (ρ:=(List Int)) (fun(k1:Nat) (x2:Int) (s1:(List Int))=>
   xX (ix x0 x2) fun z1=>
   xX (ap s1 ([z1])) fun z2=>
   some (.go z2)) x1 0 []) fun s2=>
 some s2
theorem impl_chosen_c {B:Nat→Prop} {x0:List Int} {x1:List Int} (r:(List Int)) (hR:impl_chosen x0 x1=some r) {v0:Value} {v1:Value} (w0:World) (hN:∀ c,B c→c<w0.heap.size) (A0:Bo B w0 (Sl 1 xH) v0 x0) (A1:Bo B w0 (Sl 1 xH) v1 x1):Calls Tryz.prog 171 #[v0,v1] w0 (Gv (fun v w'=>∃ (v1':Value),v=v1'∧Sep [] B w0 w' [rl 1 xH 2 v1' r])):=by
 unfold impl_chosen at hR
 refine xV (L:=[(0,v0),(1,v1)]) func171 rfl rfl rfl (sc rfl (sc rfl sn)) (fun a F=>?_);have H:=Sep.start hN;refine xP (xA 1 F rfl fun a F=>qU (oR0 (R:=xH) underlying30 sizeOf2 F rfl H fun a w v2 H F=>xA 1 F rfl fun a F=>xJ ?_));refine xC (xP (xA 1 F rfl fun a F=>oL underlying30 F rfl rfl A1 fun a i1 F=>xA 1 F rfl fun a F=>xJ ?_));obtain⟨o1,hR,hk32⟩:=xK hR;refine xW (fun a w=>∃ (s1:List Int) (v3:Value),o1= .nx s1∧Sk a 24 [(5,v3)]∧Sep [] B w0 w [rl 1 xH 2 v3 s1]) ?_ ?_
 ·
  refine xS ?_;obtain⟨fl1,hf1,hR⟩:=qE hR;refine oR (fun g a w=>∃ (k1:Nat) (t1:List Int) (s2:List Int) (v4:Value),(k1≤x1.length∧x1.drop k1=t1)∧t1.length=g∧qK fl1 t1 k1 s2=some o1∧Sk a 24 [(11,.int .i64 (k1:Int)),(0,v0),(5,v4),(9,v1),(10,.int .i64 (x1.length:Int))]∧Sep [] B w0 w [rl 1 xH 2 v4 s2]) x1.length ?_ ?_
  ·
   exact⟨0,x1,[],v2,⟨Nat.zero_le _,rfl⟩,rfl,hR,F.su,H⟩
  intro g1 a w ⟨k1,t1,s2,v4,hd1,hg1,hR,F,H⟩
  cases t1 with
  | nil=>
   replace hR:=qG hR;have q1:=qH hd1.1 hd1.2;have l1:=vA q1;refine xP (xA 1 F rfl fun a F=>xJ (xC (qV F rfl l1 (oO (oQ (oQ (vJ ?_)))))));refine xF ?_;exact⟨s2,v4,(Option.some.inj hR).symm,F.su,H⟩
  | cons x2 t1=>
   subst hg1;replace hd1:=oH hd1.2;have y1:=oV hd1.2.1;obtain⟨ck1,hR,hn1⟩:=oU hR;rw[hf1] at hR;have l1:=qP hd1.1;refine xP (xA 1 F rfl fun a F=>xJ (xC (qY F rfl l1 (xL (xF (xC ?_))))));have j1:=k64 (Nat.le_of_lt hd1.1) i1;have m1:=zA hd1.1 i1;refine xS (xP (oI underlying30 sizeOf2 F rfl rfl rfl A1 y1 fun a p1 h1 F=>olI isAgg2 F rfl rfl H.sm h1 fun a i2 F=>xA 1 F rfl fun a F=>xJ (xR (xA 2 F rfl fun a F=>?_))));refine xA 1 F rfl fun a F=>?_;obtain⟨z1,c1,hR⟩:=xB hR;refine oI underlying30 sizeOf2 F rfl rfl rfl A0 c1 fun a p2 h2 F=>olI isAgg2 F rfl rfl H.sm h2 fun a i3 F=>oR1z (R:=xH) (y:=z1) underlying30 sizeOf2 zeroValue2 rfl rfl F rfl rfl H (Eo.int i3) (fun a w v5 H F=>?_);obtain⟨z2,c2,hR⟩:=xB hR;refine oPL (sz:=1) (R:=xH) (z:=(.int .i64 0)) (bytes:=8) underlying30 (by kernel_rfl) rfl rfl F rfl rfl rfl (H.s [1,0] rfl rfl) c2 fun a w v6 H F=>xA 1 F rfl fun a F=>qD (qW (xF (xR (qR F rfl rfl rfl m1 fun a F=>xA 1 F rfl fun a F=>xJ ?_))));replace hR:=qZ hR hn1;exact⟨_,Nat.lt_succ_self _,k1+1,t1,z2,v6,⟨hd1.1,hd1.2.2⟩,rfl,hR,F.su,H⟩
 intro a w ⟨s1,v3,ho1,F,H⟩;subst ho1;have hR:=xN hk32;refine xF (xP (xA 2 F rfl fun a F=>xJ (xT (xO F rfl (oD F rfl) ?_))));obtain rfl:=Option.some.inj hR;exact⟨_,rfl,v3,rfl,H⟩
def vP (N:Nat) (x0:List (List Int)) (x1:List Int) (x2:(List Int)→(List Int)→Option Int):Option (Int×Bool):=
 vO (σ:=Int×Int) (
  whl (σ:=Int×Int) (ρ:=Int×Bool) (fun(s:Int×Int)=>
    match s with
    | (s1,s2)=>
    if (decide (s1<s2)) then
     xX (ck (s1+s2)) fun z1=>
     xX (nn z1) fun z2=>
     xX (ix x0 (z2 / 2)) fun z3=>
     xX (x2 z3 x1) fun z4=>
     if (decide (z4<0)) then
      xX (ck ((z2 / 2)+1)) fun z5=>
      some (.go (z5,s2))
     else
      some (.go (s1,(z2 / 2)))
    else
     some (.brk (s1,s2))) N (0,(x0.length:Int))) fun(s3,s4)=>
 vO (σ:=Int×Bool) (
  if (decide (s3<(x0.length:Int))) then  xX (ix x0 s3) fun z6=>
   xX (x2 z6 x1) fun z7=>
   some (.nx (s3,(z7==0))) else  some (.nx (s3,false))) fun(s5,s6)=>
 some (s5,s6)
theorem slices_BinarySearchFunc_s_s_int64_s_int64_s_int64_c {B:Nat→Prop} {N:Nat} {x0:List (List Int)} {x1:List Int} {x2:(List Int)→(List Int)→Option Int} (r:Int×Bool) (hR:vP N x0 x1 x2=some r) {v0:Value} {v1:Value} {g2:FuncId} {lb2:List Value} (w0:World) (hN:∀ c,B c→c<w0.heap.size) (A0:Bo B w0 (Sl 1 (vY 1 xH)) v0 x0) (A1:Bo B w0 (Sl 1 xH) v1 x1) (hg2:∀ args w,(callFunc g2 args).run Tryz.prog w= .ok (.enter g2 args) w) (hp2:∀ (a0:List Int) (a1:List Int) (r:Int),x2 a0 a1=some r→∀ W,Below w0.heap.size w0 W→∀ (u0:Value) (u1:Value),Bo (All W) W (Sl 1 xH) u0 a0→Bo (All W) W (Sl 1 xH) u1 a1→Calls Tryz.prog g2 ([u0,u1]++lb2:List Value).toArray W (SaysI r W)):Calls Tryz.prog 154 #[v0,v1,.func (.func g2) #[] lb2.toArray] w0 (Gv (fun v w'=>v= .tuple #[.int .i64 r.1,.bool r.2]∧Sep [] B w0 w' []∧xY r.1)):=by
 unfold vP at hR
 refine xV (L:=[(0,v0),(1,v1),(2,.func (.func g2) #[] lb2.toArray)]) func154 rfl rfl rfl (sc rfl (sc rfl (sc rfl sn))) (fun a F=>?_);have H:=Sep.start hN;refine xP (xA 2 F rfl fun a F=>qU (xA 1 F rfl fun a F=>oL underlying67 F rfl rfl A0 fun a i1 F=>xA 1 F rfl fun a F=>?_));refine qU (xA 3 F rfl fun a F=>xJ (xC ?_));obtain⟨o1,hR,hk1⟩:=xK hR;refine xW (fun a w=>∃ (s1:Int) (s2:Int),o1= .nx (s1,s2)∧Sk a 49 [(0,v0),(1,v1),(2,.func (.func g2) #[] lb2.toArray),(8,.int .i64 (x0.length:Int)),(9,.int .i64 s1)]∧Sep [] B w0 w []∧xY s1∧xY s2) ?_ ?_
 ·
  refine xS ?_;obtain⟨fl1,hf1,hR⟩:=whl_gen hR;refine oR (fun g a w=>∃ (s3:Int) (s4:Int),whl fl1 g (s3,s4)=some o1∧Sk a 49 [(0,v0),(1,v1),(2,.func (.func g2) #[] lb2.toArray),(8,.int .i64 (x0.length:Int)),(9,.int .i64 s3),(10,.int .i64 s4)]∧Sep [] B w0 w []∧xY s3∧xY s4) N ?_ ?_
  ·
   exact⟨0,(x0.length:Int),hR,F.su,H,(show xY (0) by decide),i1⟩
  intro g1 a w ⟨s3,s4,hR,F,H,i2,i3⟩;obtain⟨ck1,t1,hg1,hR,hn1⟩:=zU hR;rw[hf1] at hR;refine xC (xP (xA 3 F rfl fun a F=>xJ (qT F rfl (fun hb1=>?_) (fun hb1=>?_))))
  ·
   replace hR:=vS hb1 hR;refine xL (xF (xS (xP (xA 2 F rfl fun a F=>?_))));obtain⟨z1,c1,hR⟩:=xB hR;refine kX F rfl rfl rfl c1 (fun a F=>?_);obtain⟨z2,c2,hR⟩:=xB hR
   have i4:xY z2:=by rw[(nn_some c2).2];exact(ck64 c1)
   refine oU1 underlying3 underlying102 F rfl rfl (ck64 c1) c2 fun a F=>oU2 F rfl rfl fun a F=>oU3 underlying102 underlying3 F rfl rfl (half64 i4 (nn_some (show nn z2=some z2 by rw[(nn_some c2).2];exact((nn_some c2).2.symm ▸ c2))).1) fun a F=>xA 1 F rfl fun a F=>qU (xA 3 F rfl fun a F=>?_);obtain⟨z3,c3,hR⟩:=xB hR;refine oI underlying67 sizeOf30 F rfl rfl rfl A0 c3 fun a p1 h1 F=>olS isAgg30 F rfl rfl H.sm h1 fun a v2 h64 F=>xA 1 F rfl fun a F=>?_;obtain⟨z4,c4,hR⟩:=xB hR;refine oKIV F rfl rfl hg2 rfl H (hp2 _ _ z4 c4 _ H.bl _ _ (H.a h64) (H.a A1)) fun a w H iz1 F=>xA 1 F rfl fun a F=>xJ (qT F rfl (fun hb2=>?_) (fun hb2=>?_))
   ·
    replace hR:=vS hb2 hR;refine xR (xA 1 F rfl fun a F=>?_);obtain⟨z5,c5,hR⟩:=xB hR;refine kX F rfl rfl rfl c5 fun a F=>xA 1 F rfl fun a F=>qD (qW (xF ?_));replace hR:=qZ hR hn1;exact⟨t1,(by omega),z5,s4,hR,F.su,H,(ck64 c5),i3⟩
   replace hR:=vR hb2 hR;refine xR (xA 2 F rfl fun a F=>qD (qW (xF ?_)));replace hR:=qZ hR hn1;exact⟨t1,(by omega),s3,(z2 / 2),hR,F.su,H,i2,(half64 i4 (nn_some (show nn z2=some z2 by rw[(nn_some c2).2];exact((nn_some c2).2.symm ▸ c2))).1)⟩
  replace hR:=vR hb1 hR;refine oO (oQ (oQ ?_));replace hR:=l_brk hR hn1;refine vJ (xF ?_);exact⟨s3,s4,(Option.some.inj hR).symm,F.su,H,i2,i3⟩
 intro a w ⟨s1,s2,ho1,F,H,i5,i6⟩;subst ho1;have hR:=xN hk1;refine xF (xC ?_);obtain⟨o2,hR,hk2⟩:=xK hR;refine xW (fun a w=>∃ (s5:Int) (s6:Bool),o2= .nx (s5,s6)∧Sk a 49 [(6,.int .i64 s5),(7,.bool s6)]∧Sep [] B w0 w []∧xY s5) ?_ ?_
 ·
  refine xR (xA 5 F rfl fun a F=>?_)
  rcases vG (decide (s1<(x0.length:Int))) with hb3 | hb3
  ·
   replace hR:=vS hb3 hR;have F:=F.eq (t:=39) rfl (congrArg Value.bool hb3);refine xA 3 F rfl fun a F=>?_;obtain⟨z6,c6,hR⟩:=xB hR;refine oI underlying67 sizeOf30 F rfl rfl rfl A0 c6 fun a p2 h2 F=>olS isAgg30 F rfl rfl H.sm h2 fun a v3 h3 F=>xA 1 F rfl fun a F=>?_;obtain⟨z7,c7,hR⟩:=xB hR;refine oKIV F rfl rfl hg2 rfl H (hp2 _ _ z7 c7 _ H.bl _ _ (H.a h3) (H.a A1)) fun a w H iz2 F=>xA 4 F rfl fun a F=>xJ ?_;exact⟨s1,(z7==0),(Option.some.inj hR).symm,F.su,H,i5⟩
  replace hR:=vR hb3 hR;have F:=F.eq (t:=39) rfl (congrArg Value.bool hb3);refine xA 11 F rfl fun a F=>?_;refine xJ ?_;exact⟨s1,false,(Option.some.inj hR).symm,F.su,H,i5⟩
 intro a w ⟨s5,s6,ho2,F,H,i7⟩;subst ho2;have hR:=xN hk2;refine xF (xT (zV F rfl (oD F rfl) (oD F rfl) ?_));obtain rfl:=Option.some.inj hR;exact⟨_,rfl,rfl,H,i7⟩
def cmp_isNaN_int64 (x0:Int):Option Bool:=
 some ((x0 != x0))
theorem cmp_isNaN_int64_c {B:Nat→Prop} {x0:Int} (r:Bool) (hR:cmp_isNaN_int64 x0=some r)  (w0:World) (hN:∀ c,B c→c<w0.heap.size) (hx0:xY x0):Calls Tryz.prog 177 #[.int .i64 x0] w0 (vV (.bool r) w0):=by
 unfold cmp_isNaN_int64 at hR
 refine xV (L:=[(0,.int .i64 x0)]) func177 rfl rfl rfl (sc rfl sn) (fun a F=>?_);have H:=Sep.start hN;refine xP (xA 1 F rfl fun a F=>qU (xA 4 F rfl fun a F=>?_));refine xJ (xT (xO F rfl (oD F rfl) ?_));obtain rfl:=Option.some.inj hR;exact⟨rfl,H.bl⟩
def cmp_Compare_int64 (x0:Int) (x1:Int):Option Int:=
 xX (cmp_isNaN_int64 x0) fun z1=>
 xX (cmp_isNaN_int64 x1) fun z2=>
 if z1 then
  if z2 then
   some 0
  else
   some ((-1))
 else
  if z2 then
   some 1
  else
   if (decide (x0<x1)) then
    some ((-1))
   else
    if (decide (x1<x0)) then
     some 1
    else
     some 0
theorem cmp_Compare_int64_c {B:Nat→Prop} {x0:Int} {x1:Int} (r:Int) (hR:cmp_Compare_int64 x0 x1=some r)  (w0:World) (hN:∀ c,B c→c<w0.heap.size) (hx0:xY x0) (hx1:xY x1):Calls Tryz.prog 167 #[.int .i64 x0,.int .i64 x1] w0 (SaysI r w0):=by
 unfold cmp_Compare_int64 at hR
 refine xV (L:=[(0,.int .i64 x0),(1,.int .i64 x1)]) func167 rfl rfl rfl (sc rfl (sc rfl sn)) (fun a F=>?_);have H:=Sep.start hN;refine xP (xA 1 F rfl fun a F=>qU (xA 1 F rfl fun a F=>?_));obtain⟨z1,c1,hR⟩:=xB hR;refine oK F rfl call177 rfl H (cmp_isNaN_int64_c z1 c1 _ aA hx0) fun a w H F=>xA 1 F rfl fun a F=>qU (xA 1 F rfl fun a F=>?_);obtain⟨z2,c2,hR⟩:=xB hR;refine oK F rfl call177 rfl H (cmp_isNaN_int64_c z2 c2 _ aA hx1) fun a w H F=>xA 1 F rfl fun a F=>xJ (xC (xP (xA 1 F rfl fun a F=>xJ (qT F rfl (fun hb1=>?_) (fun hb1=>?_)))))
 ·
  replace hR:=vS hb1 hR;refine xC (xP (xA 1 F rfl fun a F=>xJ (qT F rfl (fun hb16=>?_) (fun hb16=>?_))))
  ·
   replace hR:=vS hb16 hR;refine xP (xA 1 F rfl fun a F=>xJ (xT (oE (oE (xO F rfl (oD F rfl) ?_)))));obtain rfl:=Option.some.inj hR;exact⟨⟨rfl,H.bl⟩,(show xY (0) by decide)⟩
  replace hR:=vR hb16 hR;refine xL (xF (xP (xA 1 F rfl fun a F=>xJ (xT (oE (xO F rfl (oD F rfl) ?_))))));obtain rfl:=Option.some.inj hR;exact⟨⟨rfl,H.bl⟩,(show xY (-1) by decide)⟩
 replace hR:=vR hb1 hR;refine xL (xF (xC (xP (xA 1 F rfl fun a F=>xJ (qT F rfl (fun hb2=>?_) (fun hb2=>?_))))))
 ·
  replace hR:=vS hb2 hR;refine xP (xA 1 F rfl fun a F=>xJ (xT (oE (xO F rfl (oD F rfl) ?_))));obtain rfl:=Option.some.inj hR;exact⟨⟨rfl,H.bl⟩,(show xY (1) by decide)⟩
 replace hR:=vR hb2 hR;refine xL (xF (xC (xP (xA 3 F rfl fun a F=>xJ (qT F rfl (fun hb3=>?_) (fun hb3=>?_))))))
 ·
  replace hR:=vS hb3 hR;refine xP (xA 1 F rfl fun a F=>xJ (xT (oE (xO F rfl (oD F rfl) ?_))));obtain rfl:=Option.some.inj hR;exact⟨⟨rfl,H.bl⟩,(show xY (-1) by decide)⟩
 replace hR:=vR hb3 hR;refine xL (xF (xC (xP (xA 3 F rfl fun a F=>xJ (qT F rfl (fun hb4=>?_) (fun hb4=>?_))))))
 ·
  replace hR:=vS hb4 hR;refine xP (xA 1 F rfl fun a F=>xJ (xT (oE (xO F rfl (oD F rfl) ?_))));obtain rfl:=Option.some.inj hR;exact⟨⟨rfl,H.bl⟩,(show xY (1) by decide)⟩
 replace hR:=vR hb4 hR;refine xL (xF (xP (xA 1 F rfl fun a F=>xJ (xT (xO F rfl (oD F rfl) ?_)))));obtain rfl:=Option.some.inj hR;exact⟨⟨rfl,H.bl⟩,(show xY (0) by decide)⟩
def zB (x0:List Int) (x1:List Int):Option Int:=
 vO (σ:=Unit) (
  qK (σ:=Unit) (ρ:=Int) (fun(k1:Nat) (x2:Int) (s:Unit)=>
    match s with
    | _=>
    if (decide ((x1.length:Int)≤(k1:Int))) then
     some (.ret 1)
    else
     xX (ix x1 (k1:Int)) fun z1=>
     xX (cmp_Compare_int64 x2 z1) fun z2=>
     if (z2 != 0) then
      some (.ret z2)
     else
      some (.go ())) x0 0 ()) fun _=>
 if (decide ((x0.length:Int)<(x1.length:Int))) then
  some ((-1))
 else
  some 0
theorem slices_Compare_s_int64_int64_c {B:Nat→Prop} {x0:List Int} {x1:List Int} (r:Int) (hR:zB x0 x1=some r) {v0:Value} {v1:Value} (w0:World) (hN:∀ c,B c→c<w0.heap.size) (A0:Bo B w0 (Sl 1 xH) v0 x0) (A1:Bo B w0 (Sl 1 xH) v1 x1):Calls Tryz.prog 137 #[v0,v1] w0 (SaysI r w0):=by
 unfold zB at hR
 refine xV (L:=[(0,v0),(1,v1)]) func137 rfl rfl rfl (sc rfl (sc rfl sn)) (fun a F=>?_);have H:=Sep.start hN;refine xP (xA 1 F rfl fun a F=>xJ (xC (xP (xA 1 F rfl fun a F=>oL underlying30 F rfl rfl A0 fun a i1 F=>xA 1 F rfl fun a F=>?_))));refine xJ ?_;obtain⟨o1,hR,hk1⟩:=xK hR;refine xW (fun a w=>o1= .nx ()∧Sk a 36 [(0,v0),(1,v1)]∧Sep [] B w0 w []) ?_ ?_
 ·
  refine xS ?_;obtain⟨fl1,hf1,hR⟩:=qE hR;refine oR (fun g a w=>∃ (k1:Nat) (rest32:List Int),(k1≤x0.length∧x0.drop k1=rest32)∧rest32.length=g∧qK fl1 rest32 k1 ()=some o1∧Sk a 36 [(11,.int .i64 (k1:Int)),(0,v0),(1,v1),(9,v0),(10,.int .i64 (x0.length:Int))]∧Sep [] B w0 w []) x0.length ?_ ?_
  ·
   exact⟨0,x0,⟨Nat.zero_le _,rfl⟩,rfl,hR,F.su,H⟩
  intro g1 a w ⟨k1,rest32,hd1,hg1,hR,F,H⟩
  cases rest32 with
  | nil=>
   replace hR:=qG hR;have q1:=qH hd1.1 hd1.2;have l1:=vA q1;refine xP (xA 1 F rfl fun a F=>xJ (xC (qV F rfl l1 (oO (oQ (oQ (vJ ?_)))))));refine xF ?_;exact⟨(Option.some.inj hR).symm,F.su,H⟩
  | cons x2 rest32=>
   subst hg1;replace hd1:=oH hd1.2;have y1:=oV hd1.2.1;obtain⟨ck1,hR,hn1⟩:=oU hR;rw[hf1] at hR;have l1:=qP hd1.1;refine xP (xA 1 F rfl fun a F=>xJ (xC (qY F rfl l1 (xL (xF (xC ?_))))));have j1:=k64 (Nat.le_of_lt hd1.1) i1;have m1:=zA hd1.1 i1;refine xS (xP (xA 1 F rfl fun a F=>oI underlying30 sizeOf2 F rfl rfl rfl A0 y1 fun a p1 h1 F=>olI isAgg2 F rfl rfl H.sm h1 fun a i2 F=>xA 2 F rfl fun a F=>xJ (xC ?_)));refine xP (xA 2 F rfl fun a F=>oL underlying30 F rfl rfl A1 fun a i3 F=>xA 1 F rfl fun a F=>xJ (qT F rfl (fun hb1=>?_) (fun hb1=>?_)))
   ·
    replace hR:=vS hb1 hR;refine xP (xA 1 F rfl fun a F=>xJ (xT (oE (vH (oE (oE ?_))))));replace hR:=zS hR hn1;refine vH (oE ?_);replace hR:=zR hR hk1;refine oE (xO F rfl (oD F rfl) ?_);obtain rfl:=Option.some.inj hR;exact⟨⟨rfl,H.bl⟩,(show xY (1) by decide)⟩
   replace hR:=vR hb1 hR;refine xL (xF (xP (xA 2 F rfl fun a F=>?_)));obtain⟨z1,c1,hR⟩:=xB hR;refine oI underlying30 sizeOf2 F rfl rfl rfl A1 c1 fun a p2 h2 F=>olI isAgg2 F rfl rfl H.sm h2 fun a i4 F=>xA 1 F rfl fun a F=>qU (xA 2 F rfl fun a F=>?_);obtain⟨z2,c2,hR⟩:=xB hR;refine oKI F rfl call167 rfl H (cmp_Compare_int64_c z2 c2 _ aA i2 i4) fun a w H iz1 F=>xA 1 F rfl fun a F=>qU (xA 2 F rfl fun a F=>xJ (qT F rfl (fun hb2=>?_) (fun hb2=>?_)))
   ·
    replace hR:=vS hb2 hR;refine xP (xA 2 F rfl fun a F=>xJ (xT (vH (oE (oE ?_)))));replace hR:=zS hR hn1;refine vH (oE ?_);replace hR:=zR hR hk1;refine oE (xO F rfl (oD F rfl) ?_);obtain rfl:=Option.some.inj hR;exact⟨⟨rfl,H.bl⟩,iz1⟩
   replace hR:=vR hb2 hR;refine xL (qW (xF (xR (qR F rfl rfl rfl m1 fun a F=>xA 1 F rfl fun a F=>xJ ?_))));replace hR:=qZ hR hn1;exact⟨_,Nat.lt_succ_self _,k1+1,rest32,⟨hd1.1,hd1.2.2⟩,rfl,hR,F.su,H⟩
 intro a w ⟨ho1,F,H⟩;subst ho1;have hR:=xN hk1;refine xF (xC (xP (xA 1 F rfl fun a F=>oL underlying30 F rfl rfl A0 fun a i5 F=>xA 1 F rfl fun a F=>oL underlying30 F rfl rfl A1 fun a i6 F=>xA 1 F rfl fun a F=>xJ ?_)));refine qT F rfl (fun hb3=>?_) (fun hb3=>?_)
 ·
  replace hR:=vS hb3 hR;refine xP (xA 1 F rfl fun a F=>xJ (xT (oE (xO F rfl (oD F rfl) ?_))));obtain rfl:=Option.some.inj hR;exact⟨⟨rfl,H.bl⟩,(show xY (-1) by decide)⟩
 replace hR:=vR hb3 hR;refine xL (xF (xP (xA 1 F rfl fun a F=>xJ (xT (xO F rfl (oD F rfl) ?_)))));obtain rfl:=Option.some.inj hR;exact⟨⟨rfl,H.bl⟩,(show xY (0) by decide)⟩
def impl_Rel_has_1 (x0:List Int) (x1:List Int):Option Int:=
 xX (zB x0 x1) fun z1=>
 some z1
theorem impl_Rel_has_1_c {B:Nat→Prop} {x0:List Int} {x1:List Int} (r:Int) (hR:impl_Rel_has_1 x0 x1=some r) {v0:Value} {v1:Value} (w0:World) (hN:∀ c,B c→c<w0.heap.size) (A0:Bo B w0 (Sl 1 xH) v0 x0) (A1:Bo B w0 (Sl 1 xH) v1 x1):Calls Tryz.prog 155 #[v0,v1] w0 (SaysI r w0):=by
 unfold impl_Rel_has_1 at hR
 refine xV (L:=[(0,v0),(1,v1)]) func155 rfl rfl rfl (sc rfl (sc rfl sn)) (fun a F=>?_);have H:=Sep.start hN;refine xP (xA 1 F rfl fun a F=>qU (xA 2 F rfl fun a F=>?_));obtain⟨z1,c1,hR⟩:=xB hR;refine oKI F rfl call137 rfl H (slices_Compare_s_int64_int64_c z1 c1 _ aA (H.a A0) (H.a A1)) fun a w H iz1 F=>xA 1 F rfl fun a F=>xJ (xT (xO F rfl (oD F rfl) ?_));obtain rfl:=Option.some.inj hR;exact⟨⟨rfl,H.bl⟩,iz1⟩
def impl_Rel_has (N:Nat) (x0:Rel) (x1:List Int):Option Bool:=
 xX (vP N x0.tuples x1 (fun a0 a1=>impl_Rel_has_1 a0 a1)) fun z1=>
 some z1.2
theorem impl_Rel_has_c {B:Nat→Prop} {N:Nat} {x0:Rel} {x1:List Int} (r:Bool) (hR:impl_Rel_has N x0 x1=some r) {v0:Value} {v1:Value} (w0:World) (hN:∀ c,B c→c<w0.heap.size) (A0:Bo B w0 (zC 2 oM) v0 x0) (A1:Bo B w0 (Sl 1 xH) v1 x1):Calls Tryz.prog 116 #[v0,v1] w0 (vV (.bool r) w0):=by
 unfold impl_Rel_has at hR
 refine xV (L:=[(0,v0),(1,v1)]) func116 rfl rfl rfl (sc rfl (sc rfl sn)) (fun a F=>?_);have H:=Sep.start hN;refine xP ?_;obtain⟨v2,rfl,i1,h1⟩:=oM.o A0;refine oX F rfl rfl rfl H fun a w b1 H F=>xA 1 F rfl fun a F=>qU (oY vX F rfl rfl rfl fun a F=>oB isAgg67 F rfl rfl (H.b 0 rfl) rfl fun a F=>xA 1 F rfl fun a F=>?_);obtain⟨z1,c16,hR⟩:=xB hR;refine oG F rfl call154 rfl (slices_BinarySearchFunc_s_s_int64_s_int64_s_int64_c z1 c16 _ aA (H.a h1) (H.a A1) call155 (fun a0 a1 r h W l1 u0 u1 f0 f1=>impl_Rel_has_1_c r h W aA f0 f1)) (fun a vv w ⟨hv1,S,i2⟩ F=>?_);subst vv;have H:=H.r0 S;refine xA 5 F rfl fun a F=>qU (xA 2 F rfl fun a F=>?_);refine xJ (xT (xO F rfl (oD F rfl) ?_));obtain rfl:=Option.some.inj hR;exact⟨rfl,H.bl⟩
def impl_Template_holds (N:Nat) (x0:Template) (x1:Atom) (x2:List Int):Option Bool:=
 xX (impl_chosen x2 x1.args) fun z1=>
 if (x1.rel==(-1)) then
  xX (ix z1 0) fun z2=>
  xX (ix z1 1) fun z3=>
  some ((z2==z3))
 else
  xX (ix x0.rels x1.rel) fun z4=>
  xX (impl_Rel_has N z4 z1) fun z5=>
  some z5
theorem impl_Template_holds_c {B:Nat→Prop} {N:Nat} {x0:Template} {x1:Atom} {x2:List Int} (r:Bool) (hR:impl_Template_holds N x0 x1 x2=some r) {v0:Value} {v1:Value} {v2:Value} (w0:World) (hN:∀ c,B c→c<w0.heap.size) (A0:Bo B w0 (zC 2 xG) v0 x0) (A1:Bo B w0 (zC 2 zE) v1 x1) (A2:Bo B w0 (Sl 1 xH) v2 x2):Calls Tryz.prog 147 #[v0,v1,v2] w0 (vV (.bool r) w0):=by
 unfold impl_Template_holds at hR
 refine xV (L:=[(0,v0),(1,v1),(2,v2)]) func147 rfl rfl rfl (sc rfl (sc rfl (sc rfl sn))) (fun a F=>?_);have H:=Sep.start hN;refine xP ?_;obtain⟨v3,rfl,i1,h1⟩:=xG.o A0;refine oX F rfl rfl rfl H (fun a w b1 H F=>?_);obtain⟨v16,rfl,i2,h2⟩:=zE.o A1;refine oX F rfl rfl rfl H fun a w b2 H F=>xA 1 F rfl fun a F=>qU (xA 1 F rfl fun a F=>oY fa157_1 F rfl rfl rfl fun a F=>oB isAgg30 F rfl rfl (H.b 0 rfl) rfl (fun a F=>?_));obtain⟨z1,c1,hR⟩:=xB hR;refine oG F rfl call171 rfl (impl_chosen_c z1 c1 _ aA (H.a A2) (H.a h2)) (fun a vv w ⟨v4,hv1,S⟩ F=>?_);subst vv;have H:=H.r1 S n0;refine xA 1 F rfl fun a F=>xJ (xC (xP (oY fa157_0 F rfl rfl rfl fun a F=>oB isAgg2 F rfl rfl (H.b 1 rfl) rfl fun a F=>xA 1 F rfl fun a F=>xJ ?_)));refine qT F rfl (fun hb1=>?_) (fun hb1=>?_)
 ·
  replace hR:=vS hb1 hR;refine xC (xQ H (by kernel_rfl) (by kernel_rfl) (xU F rfl (fun w l=>xM F rfl) (fun a F=>?_)));obtain⟨z2,c2,hR⟩:=xB hR;refine qI underlying30 sizeOf2 F rfl rfl rfl (H.l 0 rfl) c2 fun a p1 h3 F=>qlI isAgg2 F rfl rfl qA h3 fun a i3 F=>xU F rfl (fun w l=>xM F rfl) (fun a F=>?_);obtain⟨z3,c3,hR⟩:=xB hR;refine qI underlying30 sizeOf2 F rfl rfl rfl (H.l 0 rfl) c3 fun a p32 h4 F=>qlI isAgg2 F rfl rfl qA h4 fun a i4 F=>xU F rfl (fun w l=>r_eql F rfl rfl) fun a F=>xU F rfl (fun w l=>kL F rfl) fun a F=>kP fun w H=>xF (xT (oE (xO F rfl (oD F rfl) ?_)));obtain rfl:=Option.some.inj hR;exact⟨rfl,H.bl⟩
 replace hR:=vR hb1 hR;refine xL (xF (xP (oY fa35_1 F rfl rfl rfl fun a F=>oB isAgg33 F rfl rfl (H.b 2 rfl) rfl fun a F=>oY fa157_0 F rfl rfl rfl fun a F=>oB isAgg2 F rfl rfl (H.b 1 rfl) rfl (fun a F=>?_))));obtain⟨z4,c4,hR⟩:=xB hR;refine oI underlying33 sizeOf69 F rfl rfl rfl h1 c4 fun a p2 h5 F=>olA isAgg69 sizeOf69 F rfl rfl H.sm h5 fun a v5 h6 F=>xA 1 F rfl fun a F=>?_;obtain⟨z5,c5,hR⟩:=xB hR;refine oK F rfl call116 rfl H (impl_Rel_has_c z5 c5 _ aA (H.a h6) (H.l 0 rfl)) fun a w H F=>xA 1 F rfl fun a F=>xJ (xT (xO F rfl (oD F rfl) ?_));obtain rfl:=Option.some.inj hR;exact⟨rfl,H.bl⟩
def impl_solver_goes_1 (N:Nat) (x0:Atom) (y0:solver) (y1:(List Int)):Option Bool:=
 xX (impl_Template_holds N y0.t (Atom.mk x0.rel x0.args) y1) fun z1=>
 some ((!z1))
theorem impl_solver_goes_1_c {B:Nat→Prop} {N:Nat} {x0:Atom} {y0:solver} {y1:(List Int)} (r:Bool) (hR:impl_solver_goes_1 N x0 y0 y1=some r) {v0:Value} {v1:Value} {v2:Value} (w0:World) (hN:∀ c,B c→c<w0.heap.size) (A0:Bo B w0 (zC 2 zE) v0 x0) (A1:Bo B w0 (Pt 1 (RP 4 zX)) v1 y0) (A2:Bo B w0 (Pt 1 (vY 1 xH)) v2 y1):Calls Tryz.prog 146 #[v0,v1,v2] w0 (vV (.bool r) w0):=by
 unfold impl_solver_goes_1 at hR
 refine xV (L:=[(0,v0),(1,v1),(2,v2)]) func146 rfl rfl rfl (sc rfl (sc rfl (sc rfl sn))) (fun a F=>?_);have H:=Sep.start hN;refine xP ?_;obtain⟨v3,rfl,i1,h1⟩:=zE.o A0;refine oX F rfl rfl rfl H fun a w b1 H F=>xA 1 F rfl fun a F=>xJ (xC (xQ H (by kernel_rfl) (by kernel_rfl) (qlP isAgg109 F rfl rfl H.q A1 fun a v4 h16 F=>qN F rfl rfl h16 fun a F=>qF (s':=2) fa190_0 F rfl rfl h16 zX.f0 fun a p1 h2 F=>qlA isAgg35 sizeOf35 F rfl rfl H.q h2 fun a v5 h3 F=>qBA isAgg157 sizeOf157 F rfl rfl (H.qb 0 rfl) rfl rfl (fun a F=>?_))));refine qlS isAgg30 F rfl rfl H.q A2 (fun a v6 h4 F=>?_);obtain⟨z1,c1,hR⟩:=xB hR;refine q_says F rfl call147 rfl (fun w w' h l=>l.through h) (fun w l=>impl_Template_holds_c z1 c1 w aA ((H.go l).a h3) (zE.m i1 ((H.go l).a h1)) ((H.go l).a h4)) fun a F=>xU F rfl (fun w l=>r_not F rfl) fun a F=>xU F rfl (fun w l=>kL F rfl) fun a F=>kP fun w H=>xF (xT (xO F rfl (oD F rfl) ?_));obtain rfl:=Option.some.inj hR;exact⟨rfl,H.bl⟩
def kS (x0:List Atom) (x1:Atom→Option Bool):Option Int:=
 vO (σ:=Unit) (
  qK (σ:=Unit) (ρ:=Int) (fun(k1:Nat) (x2:Atom) (s:Unit)=>
    match s with
    | _=>
    xX (x1 x2) fun z1=>
    if z1 then
     some (.ret ((k1:Int)))
    else
     some (.go ())) x0 0 ()) fun _=>
 some ((-1))
theorem slices_IndexFunc_s_Atom_Atom_c {B:Nat→Prop} {x0:List Atom} {x1:Atom→Option Bool} (r:Int) (hR:kS x0 x1=some r) {v0:Value} {g1:FuncId} {lb1:List Value} (w0:World) (hN:∀ c,B c→c<w0.heap.size) (A0:Bo B w0 (Sl 2 zE) v0 x0) (hg1:∀ args w,(callFunc g1 args).run Tryz.prog w= .ok (.enter g1 args) w) (hp1:∀ (a0:Atom) (r:Bool),x1 a0=some r→∀ W,Below w0.heap.size w0 W→∀ (u0:Value),Bo (All W) W (zC 2 zE) u0 a0→Calls Tryz.prog g1 ([u0]++lb1:List Value).toArray W (vV (.bool r) W)):Calls Tryz.prog 170 #[v0,.func (.func g1) #[] lb1.toArray] w0 (SaysI r w0):=by
 unfold kS at hR
 refine xV (L:=[(0,v0),(1,.func (.func g1) #[] lb1.toArray)]) func170 rfl rfl rfl (sc rfl (sc rfl sn)) (fun a F=>?_);have H:=Sep.start hN;refine xP (xA 1 F rfl fun a F=>xJ (xC (xP (xA 1 F rfl fun a F=>oL underlying155 F rfl rfl A0 fun a i1 F=>xA 1 F rfl fun a F=>?_))));refine xJ ?_;obtain⟨o1,hR,hk1⟩:=xK hR;refine xW (fun a w=>o1= .nx ()∧Sk a 19 []∧Sep [] B w0 w []) ?_ ?_
 ·
  refine xS ?_;obtain⟨fl1,hf1,hR⟩:=qE hR;refine oR (fun g a w=>∃ (k1:Nat) (t1:List Atom),(k1≤x0.length∧x0.drop k1=t1)∧t1.length=g∧qK fl1 t1 k1 ()=some o1∧Sk a 19 [(8,.int .i64 (k1:Int)),(0,v0),(1,.func (.func g1) #[] lb1.toArray),(7,.int .i64 (x0.length:Int))]∧Sep [] B w0 w []) x0.length ?_ ?_
  ·
   exact⟨0,x0,⟨Nat.zero_le _,rfl⟩,rfl,hR,F.su,H⟩
  intro g2 a w ⟨k1,t1,hd1,hg2,hR,F,H⟩
  cases t1 with
  | nil=>
   replace hR:=qG hR;have q1:=qH hd1.1 hd1.2;have l1:=vA q1;refine xP (xA 1 F rfl fun a F=>xJ (xC (qV F rfl l1 (oO (oQ (oQ (vJ ?_)))))));refine xF ?_;exact⟨(Option.some.inj hR).symm,F.sub sn,H⟩
  | cons x2 t1=>
   subst hg2;replace hd1:=oH hd1.2;have y1:=oV hd1.2.1;obtain⟨ck1,hR,hn1⟩:=oU hR;rw[hf1] at hR;have l1:=qP hd1.1;refine xP (xA 1 F rfl fun a F=>xJ (xC (qY F rfl l1 (xL (xF (xC ?_))))));have j1:=k64 (Nat.le_of_lt hd1.1) i1;have m1:=zA hd1.1 i1;refine xS (xP (xA 2 F rfl fun a F=>qU (xA 2 F rfl fun a F=>?_)));refine xA 1 F rfl fun a F=>oI underlying155 sizeOf157 F rfl rfl rfl A0 y1 fun a p1 h32 F=>olA isAgg157 sizeOf157 F rfl rfl H.sm h32 (fun a v1 h1 F=>?_);obtain⟨z1,c1,hR⟩:=xB hR;refine oKV F rfl rfl hg1 rfl H (hp1 _ z1 c1 _ H.bl _ (H.a h1)) fun a w H F=>xJ (qT F rfl (fun hb1=>?_) (fun hb1=>?_))
   ·
    replace hR:=vS hb1 hR;refine xP (xA 2 F rfl fun a F=>xJ (xT (vH (oE (oE ?_)))));replace hR:=zS hR hn1;refine vH (oE ?_);replace hR:=zR hR hk1;refine oE (xO F rfl (oD F rfl) ?_);obtain rfl:=Option.some.inj hR;exact⟨⟨rfl,H.bl⟩,j1⟩
   replace hR:=vR hb1 hR;refine xL (qW (xF (xR (qR F rfl rfl rfl m1 fun a F=>xA 1 F rfl fun a F=>xJ ?_))));replace hR:=qZ hR hn1;exact⟨_,Nat.lt_succ_self _,k1+1,t1,⟨hd1.1,hd1.2.2⟩,rfl,hR,F.su,H⟩
 intro a w ⟨ho1,F,H⟩;subst ho1;have hR:=xN hk1;refine xF (xP (xA 1 F rfl fun a F=>xJ (xT (xO F rfl (oD F rfl) ?_))));obtain rfl:=Option.some.inj hR;exact⟨⟨rfl,H.bl⟩,(show xY (-1) by decide)⟩
def zN (x0:List Atom) (x1:Atom→Option Bool):Option Bool:=
 xX (kS x0 x1) fun z1=>
 some ((decide (0≤z1)))
theorem slices_ContainsFunc_s_Atom_Atom_c {B:Nat→Prop} {x0:List Atom} {x1:Atom→Option Bool} (r:Bool) (hR:zN x0 x1=some r) {v0:Value} {g1:FuncId} {lb1:List Value} (w0:World) (hN:∀ c,B c→c<w0.heap.size) (A0:Bo B w0 (Sl 2 zE) v0 x0) (hg1:∀ args w,(callFunc g1 args).run Tryz.prog w= .ok (.enter g1 args) w) (hp1:∀ (a0:Atom) (r:Bool),x1 a0=some r→∀ W,Below w0.heap.size w0 W→∀ (u0:Value),Bo (All W) W (zC 2 zE) u0 a0→Calls Tryz.prog g1 ([u0]++lb1:List Value).toArray W (vV (.bool r) W)):Calls Tryz.prog 145 #[v0,.func (.func g1) #[] lb1.toArray] w0 (vV (.bool r) w0):=by
 unfold zN at hR
 refine xV (L:=[(0,v0),(1,.func (.func g1) #[] lb1.toArray)]) func145 rfl rfl rfl (sc rfl (sc rfl sn)) (fun a F=>?_);have H:=Sep.start hN;refine xP (xA 1 F rfl fun a F=>qU (xA 2 F rfl fun a F=>?_));obtain⟨z1,c1,hR⟩:=xB hR;refine oKI F rfl call170 rfl H (slices_IndexFunc_s_Atom_Atom_c z1 c1 _ aA (H.a A0) hg1 (fun a0 r h W l1=>hp1 a0 r h W (H.bl.trans (l1.mono H.fr.size)))) fun a w H iz1 F=>xA 2 F rfl fun a F=>xJ (xT (xO F rfl (oD F rfl) ?_));obtain rfl:=Option.some.inj hR;exact⟨rfl,H.bl⟩
def impl_solver_goes (N:Nat) (x0:solver) (x1:List Int):Option Bool:=
 xX (ck ((x1.length:Int) - 1)) fun z1=>
 xX (ix x0.due z1) fun z2=>
 xX (zN z2 (fun a0=>impl_solver_goes_1 N a0 x0 x1)) fun z3=>
 some ((!z3))
theorem impl_solver_goes_c {B:Nat→Prop} {N:Nat} {x0:solver} {x1:List Int} (r:Bool) (hR:impl_solver_goes N x0 x1=some r) {v0:Value} {v1:Value} (w0:World) (hN:∀ c,B c→c<w0.heap.size) (A0:Bo B w0 (Pt 4 zX) v0 x0) (A1:Bo B w0 (Sl 1 xH) v1 x1):Calls Tryz.prog 110 #[v0,v1] w0 (vV (.bool r) w0):=by
 unfold impl_solver_goes at hR
 refine xV (L:=[(0,v0),(1,v1)]) func110 rfl rfl rfl (sc rfl (sc rfl sn)) (fun a F=>?_);have H:=Sep.start hN;refine xP (oX F rfl rfl (one_cells (H.a A0).pone) H fun a w b1 H F=>oX F rfl rfl (one_cells (H.a A1).one) H fun a w b2 H F=>xA 1 F rfl fun a F=>xJ (xC (xQ H (by kernel_rfl) (by kernel_rfl) (qB isAgg109 F rfl rfl (H.qb 1 rfl) rfl fun a F=>qN F rfl rfl A0 (fun a F=>?_)))));refine qF (s':=1) fa190_2 F rfl rfl A0 zX.f2 fun a p1 h1 F=>qlS isAgg188 F rfl rfl H.q h1 fun a v2 h16 F=>qB isAgg30 F rfl rfl (H.qb 0 rfl) rfl fun a F=>qL underlying30 F rfl rfl A1 (fun a i1 F=>?_);obtain⟨z1,c1,hR⟩:=xB hR;refine xU F rfl (fun w l=>r_sub F rfl rfl c1) (fun a F=>?_);obtain⟨z2,c2,hR⟩:=xB hR;refine qI underlying188 sizeOf155 F rfl rfl rfl h16 c2 fun a p2 h2 F=>qlS isAgg155 F rfl rfl H.q h2 fun a v3 h3 F=>xU F rfl (fun w l=>r_func F rfl rfl) (fun a F=>?_);obtain⟨z3,c3,hR⟩:=xB hR;refine q_says F rfl call145 rfl (fun w w' h l=>l.through h) (fun w l=>slices_ContainsFunc_s_Atom_Atom_c z3 c3 w aA ((H.go l).a h3) call146 (fun a0 r h W l1 u0 f0=>impl_solver_goes_1_c r h W aA f0 ((c1P ((H.go l).g 1 rfl).bk ((H.go l).a A0)).w l1) ((c1S ((H.go l).g 0 rfl).bk ((H.go l).a A1)).w l1))) fun a F=>xU F rfl (fun w l=>r_not F rfl) fun a F=>xU F rfl (fun w l=>kL F rfl) fun a F=>kP fun w H=>xF (xT (xO F rfl (oD F rfl) ?_));obtain rfl:=Option.some.inj hR;exact⟨rfl,H.bl⟩
def kM (x0:List Int):Option (List Int):=
 some x0
theorem slices_Clip_s_int64_int64_c {B:Nat→Prop} {x0:List Int} (r:(List Int)) (hR:kM x0=some r) {v0:Value} (w0:World) (hN:∀ c,B c→c<w0.heap.size) (A0:Bo B w0 (Sl 1 xH) v0 x0):Calls Tryz.prog 148 #[v0] w0 (Gv (fun v w'=>∃ (v1':Option Addr),v=(.slice v1' r.length r.length)∧Sep [] B w0 w' []∧Bo B w0 (Sl 1 xH) (.slice v1' r.length r.length) r)):=by
 unfold kM at hR
 refine xV (L:=[(0,v0)]) func148 rfl rfl rfl (sc rfl sn) (fun a F=>?_);have H:=Sep.start hN;refine xP (xA 1 F rfl fun a F=>qU (xA 2 F rfl fun a F=>oL underlying30 F rfl rfl A0 fun a i1 F=>xA 1 F rfl fun a F=>?_));refine oL underlying30 F rfl rfl A0 fun a i2 F=>oCl underlying30 sizeOf2 F rfl rfl rfl rfl A0 fun a p1 h1 F=>xA 1 F rfl fun a F=>xJ (xT (xO F rfl (oD F rfl) ?_));obtain rfl:=Option.some.inj hR;exact⟨_,rfl,p1,rfl,H,h1⟩
def zZ (x0:List Int):Option Int:=
 vO (σ:=Unit) (
  if (decide ((x0.length:Int)<1)) then
   none
  else
   some (.nx ())) fun _=>
 xX (ix x0 0) fun z1=>
 vO (σ:=Int) (
  vQ (σ:=Int) (ρ:=Int) (fun(k1:Nat) (s1:Int)=>
   xX (ix x0 (1+(k1:Int))) fun z2=>
   some (.go (if s1<z2 then z2 else s1))) ((x0.length:Int) - 1).toNat 0 z1) fun s2=>
 some s2
theorem slices_Max_s_int64_int64_c {B:Nat→Prop} {x0:List Int} (r:Int) (hR:zZ x0=some r) {v0:Value} (w0:World) (hN:∀ c,B c→c<w0.heap.size) (A0:Bo B w0 (Sl 1 xH) v0 x0):Calls Tryz.prog 144 #[v0] w0 (SaysI r w0):=by
 unfold zZ at hR
 refine xV (L:=[(0,v0)]) func144 rfl rfl rfl (sc rfl sn) (fun a F=>?_);have H:=Sep.start hN;refine xP (xA 1 F rfl fun a F=>xJ (xC (xP (xA 1 F rfl fun a F=>oL underlying30 F rfl rfl A0 fun a i1 F=>xA 1 F rfl fun a F=>?_))));refine xJ ?_;obtain⟨o1,hR,hk1⟩:=xK hR;refine xW (fun a w=>o1= .nx ()∧Sk a 25 [(0,v0)]∧Sep [] B w0 w []) ?_ ?_
 ·
  refine qT F rfl (fun hb16=>?_) (fun hb16=>?_)
  ·
   replace hR:=vS hb16 hR
   cases hR
  replace hR:=vR hb16 hR;refine xL (xF ?_);exact⟨(Option.some.inj hR).symm,F.su,H⟩
 intro a w ⟨ho1,F,H⟩;subst ho1;have hR:=xN hk1;refine xF (xP (xA 1 F rfl fun a F=>?_));obtain⟨z1,c1,hR⟩:=xB hR;refine oI underlying30 sizeOf2 F rfl rfl rfl A0 c1 fun a p1 h1 F=>olI isAgg2 F rfl rfl H.sm h1 fun a i2 F=>xA 1 F rfl fun a F=>xJ (xC (xP (xA 1 F rfl fun a F=>xJ ?_)));obtain⟨o2,hR,hk32⟩:=xK hR;refine xW (fun a w=>∃ (s1:Int),o2= .nx s1∧Sk a 25 [(3,.int .i64 s1)]∧Sep [] B w0 w []∧xY s1) ?_ ?_
 ·
  refine xS ?_;obtain⟨fl1,hf1,hR⟩:=zI hR;refine oR (fun g a w=>∃ (k1:Nat) (s2:Int),k1+g=((x0.length:Int) - 1).toNat∧vQ fl1 g k1 s2=some o2∧Sk a 25 [(4,.int .i64 (1+(k1:Int))),(0,v0),(3,.int .i64 s2)]∧Sep [] B w0 w []∧xY s2) ((x0.length:Int) - 1).toNat ?_ ?_
  ·
   exact⟨0,z1,(Nat.zero_add _),hR,F.su,H,i2⟩
  intro g1 a w ⟨k1,s2,hd1,hR,F,H,i3⟩
  cases g1 with
  | zero=>
   replace hR:=vT hR;have l1:=dec_noIO hd1;refine xC (xP (xA 2 F rfl fun a F=>oL underlying30 F rfl rfl A0 fun a i4 F=>xA 1 F rfl fun a F=>xJ (qV F rfl l1 (oO ?_))));refine oQ (oQ (vJ (xF ?_)));exact⟨s2,(Option.some.inj hR).symm,F.su,H,i3⟩
  | succ g1=>
   obtain⟨ck1,hR,hn1⟩:=vU hR;rw[hf1] at hR;have l1:=dec_yesIO hd1;refine xC (xP (xA 2 F rfl fun a F=>oL underlying30 F rfl rfl A0 fun a i5 F=>xA 1 F rfl fun a F=>xJ (qY F rfl l1 (xL ?_))));refine xF (xC ?_);have j1:=k64O hd1 (show xY (1) by decide) i5;have m1:=inc64O hd1 (show xY (1) by decide) i5;refine xS (xR (xA 3 F rfl fun a F=>?_));obtain⟨z2,c2,hR⟩:=xB hR;refine oI underlying30 sizeOf2 F rfl rfl rfl A0 c2 fun a p2 h2 F=>olI isAgg2 F rfl rfl H.sm h2 fun a i6 F=>o_max F rfl rfl rfl fun a F=>xA 1 F rfl fun a F=>qD (qW (xF (xR (xA 1 F rfl fun a F=>o_incO F rfl rfl rfl m1 fun a F=>xA 1 F rfl fun a F=>?_))));refine xJ ?_;replace hR:=qZ hR hn1;exact⟨_,Nat.lt_succ_self _,k1+1,(if s2<z2 then z2 else s2),(by omega),hR,F.su,H,(max64 i3 i6)⟩
 intro a w ⟨s1,ho2,F,H,i7⟩;subst ho2;have hR:=xN hk32;refine xF (xP (xA 2 F rfl fun a F=>xJ (xT (xO F rfl (oD F rfl) ?_))));obtain rfl:=Option.some.inj hR;exact⟨⟨rfl,H.bl⟩,i7⟩
def vM (x0:List Int):Option (List Int):=
 xX (ap ([]) x0) fun z1=>
 some z1
theorem kT {B:Nat→Prop} {x0:List Int} (r:(List Int)) (hR:vM x0=some r) {v0:Value} (w0:World) (hN:∀ c,B c→c<w0.heap.size) (A0:Bo B w0 (Sl 1 xH) v0 x0):Calls Tryz.prog 106 #[v0] w0 (Gv (fun v w'=>∃ (v1':Value),v=v1'∧Sep [] B w0 w' [rl 1 xH 2 v1' r])):=by
 unfold vM at hR
 refine xV (L:=[(0,v0)]) func106 rfl rfl rfl (sc rfl sn) (fun a F=>?_);have H:=Sep.start hN;refine xP (xA 1 F rfl fun a F=>xJ (xC (xP (xA 1 F rfl fun a F=>oEn underlying30 F rfl rfl rfl (H.a A0) fun a nb11 hn1 F=>qD ?_))));refine xF (qT F rfl (fun hb1=>?_) (fun hb1=>?_))
 ·
  replace hR:some ([])=some r:=by rw[hn1 hb1] at hR;exact hR
  refine xP (xA 1 F rfl fun a F=>xJ (xT (oE (xO F rfl (oD F rfl) ?_))));obtain rfl:=Option.some.inj hR;exact⟨_,rfl,(.slice none 0 0),rfl,(H.nl 1 xH 2)⟩
 refine xL (xF (xP (oR0 (R:=xH) underlying30 sizeOf2 F rfl H fun a w v1 H F=>xA 1 F rfl fun a F=>?_)));obtain⟨z1,c1,hR⟩:=xB hR;refine oPf (sz:=1) (R:=xH) (z:=(.int .i64 0)) (bytes:=8) underlying30 (by kernel_rfl) rfl rfl F rfl rfl rfl H.lw (H.lw.a A0) c1 (fun a w v2 H F=>?_);have H:=H.tl;refine xA 1 F rfl fun a F=>xJ (xT (xO F rfl (oD F rfl) ?_));obtain rfl:=Option.some.inj hR;exact⟨_,rfl,v2,rfl,H⟩
end Go.Proofs.YticojbhjloeckaaGreat
