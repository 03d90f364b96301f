import Derived.Test.YticojbhjloeckaaGreatSO
import Derived.Test.YticojbhjloeckaaGreatNH
namespace Go.Proofs.YticojbhjloeckaaGreat
open Go.Proofs.Tryz
set_option maxHeartbeats 1000000
set_option linter.unusedVariables false
set_option linter.unusedSimpArgs false
set_option maxRecDepth 100000
open Go.RowKit
def impl_within (x0:Int) (x1:Int) (x2:Int):Option Bool:=
 vO (σ:=Bool) (
  if (decide (x1≤x0)) then  some (.nx (decide (x0≤x2))) else  some (.nx false)) fun s1=>
 some s1
theorem impl_within_c {B:Nat→Prop} {x0:Int} {x1:Int} {x2:Int} (r:Bool) (hR:impl_within x0 x1 x2=some r)  (w0:World) (hN:∀ c,B c→c<w0.heap.size) (hx0:xY x0) (hx1:xY x1) (hx2:xY x2):Calls Tryz.prog 57 #[.int .i64 x0,.int .i64 x1,.int .i64 x2] w0 (vV (.bool r) w0):=by
 unfold impl_within at hR
 refine xV (L:=[(0,.int .i64 x0),(1,.int .i64 x1),(2,.int .i64 x2)]) func57 rfl rfl rfl (sc rfl (sc rfl (sc rfl sn))) (fun a F=>?_);have H:=Sep.start hN;refine xP (xA 1 F rfl fun a F=>xJ (xC ?_));obtain⟨o1,hR,hk1⟩:=xK hR;refine xW (fun a w=>∃ (s1:Bool),o1= .nx s1∧Sk a 15 [(6,.bool s1)]∧Sep [] B w0 w []) ?_ ?_
 ·
  refine xR (xA 4 F rfl fun a F=>?_)
  rcases vG (decide (x1≤x0)) with hb16 | hb16
  ·
   replace hR:=vS hb16 hR;have F:=F.eq (t:=10) rfl (congrArg Value.bool hb16);refine xA 5 F rfl fun a F=>xJ ?_;exact⟨(decide (x0≤x2)),(Option.some.inj hR).symm,F.su,H⟩
  replace hR:=vR hb16 hR;have F:=F.eq (t:=10) rfl (congrArg Value.bool hb16);refine xA 5 F rfl fun a F=>xJ ?_;exact⟨false,(Option.some.inj hR).symm,F.su,H⟩
 intro a w ⟨s1,ho1,F,H⟩;subst ho1;have hR:=xN hk1;refine xF (xT (xO F rfl (oD F rfl) ?_));obtain rfl:=Option.some.inj hR;exact⟨rfl,H.bl⟩
def impl_isSize (x0:Int):Option Bool:=
 xX (impl_within x0 1 4) fun z1=>
 some z1
theorem impl_isSize_c {B:Nat→Prop} {x0:Int} (r:Bool) (hR:impl_isSize x0=some r)  (w0:World) (hN:∀ c,B c→c<w0.heap.size) (hx0:xY x0):Calls Tryz.prog 95 #[.int .i64 x0] w0 (vV (.bool r) w0):=by
 unfold impl_isSize at hR
 refine xV (L:=[(0,.int .i64 x0)]) func95 rfl rfl rfl (sc rfl sn) (fun a F=>?_);have H:=Sep.start hN;refine xP (xA 1 F rfl fun a F=>qU (xA 1 F rfl fun a F=>?_));obtain⟨z1,c1,hR⟩:=xB hR;refine oK F rfl call57 rfl H (impl_within_c z1 c1 _ aA hx0 (show xY (1) by decide) (show xY (4) by decide)) fun a w H F=>xA 1 F rfl fun a F=>xJ (xT (xO F rfl (oD F rfl) ?_));obtain rfl:=Option.some.inj hR;exact⟨rfl,H.bl⟩
def impl_isArity (x0:Int):Option Bool:=
 xX (impl_within x0 1 4) fun z1=>
 some z1
theorem impl_isArity_c {B:Nat→Prop} {x0:Int} (r:Bool) (hR:impl_isArity x0=some r)  (w0:World) (hN:∀ c,B c→c<w0.heap.size) (hx0:xY x0):Calls Tryz.prog 136 #[.int .i64 x0] w0 (vV (.bool r) w0):=by
 unfold impl_isArity at hR
 refine xV (L:=[(0,.int .i64 x0)]) func136 rfl rfl rfl (sc rfl sn) (fun a F=>?_);have H:=Sep.start hN;refine xP (xA 1 F rfl fun a F=>qU (xA 1 F rfl fun a F=>?_));obtain⟨z1,c1,hR⟩:=xB hR;refine oK F rfl call57 rfl H (impl_within_c z1 c1 _ aA hx0 (show xY (1) by decide) (show xY (4) by decide)) fun a w H F=>xA 1 F rfl fun a F=>xJ (xT (xO F rfl (oD F rfl) ?_));obtain rfl:=Option.some.inj hR;exact⟨rfl,H.bl⟩
def impl_isValue (x0:Int) (x1:Int):Option Bool:=
 xX (ck (x0 - 1)) fun z1=>
 xX (impl_within x1 0 z1) fun z2=>
 some z2
theorem impl_isValue_c {B:Nat→Prop} {x0:Int} {x1:Int} (r:Bool) (hR:impl_isValue x0 x1=some r)  (w0:World) (hN:∀ c,B c→c<w0.heap.size) (hx0:xY x0) (hx1:xY x1):Calls Tryz.prog 101 #[.int .i64 x0,.int .i64 x1] w0 (vV (.bool r) w0):=by
 unfold impl_isValue at hR
 refine xV (L:=[(0,.int .i64 x0),(1,.int .i64 x1)]) func101 rfl rfl rfl (sc rfl (sc rfl sn)) (fun a F=>?_);have H:=Sep.start hN;refine xP (xA 1 F rfl fun a F=>qU (xA 2 F rfl fun a F=>?_));obtain⟨z1,c1,hR⟩:=xB hR;refine o_sub F rfl rfl rfl c1 (fun a F=>?_);obtain⟨z2,c2,hR⟩:=xB hR;refine oK F rfl call57 rfl H (impl_within_c z2 c2 _ aA hx1 (show xY (0) by decide) (ck64 c1)) fun a w H F=>xA 1 F rfl fun a F=>xJ (xT (xO F rfl (oD F rfl) ?_));obtain rfl:=Option.some.inj hR;exact⟨rfl,H.bl⟩
def impl_areValues_1 (x0:Int) (y0:Int):Option Bool:=
 xX (impl_isValue y0 x0) fun z1=>
 some ((!z1))
theorem impl_areValues_1_c {B:Nat→Prop} {x0:Int} {y0:Int} (r:Bool) (hR:impl_areValues_1 x0 y0=some r) {v1:Value} (w0:World) (hN:∀ c,B c→c<w0.heap.size) (hx0:xY x0) (A1:Bo B w0 (Pt 1 xH) v1 y0):Calls Tryz.prog 100 #[.int .i64 x0,v1] w0 (vV (.bool r) w0):=by
 unfold impl_areValues_1 at hR
 refine xV (L:=[(0,.int .i64 x0),(1,v1)]) func100 rfl rfl rfl (sc rfl (sc rfl sn)) (fun a F=>?_);have H:=Sep.start hN;refine xP (xA 1 F rfl fun a F=>qU (olI isAgg2 F rfl rfl H.sm A1 fun a i1 F=>xA 1 F rfl fun a F=>?_));obtain⟨z1,c1,hR⟩:=xB hR;refine oK F rfl call101 rfl H (impl_isValue_c z1 c1 _ aA i1 hx0) fun a w H F=>xA 2 F rfl fun a F=>xJ (xT (xO F rfl (oD F rfl) ?_));obtain rfl:=Option.some.inj hR;exact⟨rfl,H.bl⟩
def qQ (x0:List Int) (x1:Int→Option Bool):Option Int:=
 vO (σ:=Unit) (
  qK (σ:=Unit) (ρ:=Int) (fun(k1:Nat) (x2:Int) (s:Unit)=>
    match s with
    | _=>
    xX (x1 x2) fun z1=>
    if z1 then
     some (.ret ((k1:Int)))
    else
     some (.go ())) x0 0 ()) fun _=>
 some ((-1))
theorem slices_IndexFunc_s_int64_int64_c {B:Nat→Prop} {x0:List Int} {x1:Int→Option Bool} (r:Int) (hR:qQ x0 x1=some r) {v0:Value} {g1:FuncId} {lb1:List Value} (w0:World) (hN:∀ c,B c→c<w0.heap.size) (A0:Bo B w0 (Sl 1 xH) v0 x0) (hg1:∀ args w,(callFunc g1 args).run Tryz.prog w= .ok (.enter g1 args) w) (hp1:∀ (a0:Int) (r:Bool),x1 a0=some r→∀ W,Below w0.heap.size w0 W→xY a0→Calls Tryz.prog g1 ([.int .i64 a0]++lb1:List Value).toArray W (vV (.bool r) W)):Calls Tryz.prog 70 #[v0,.func (.func g1) #[] lb1.toArray] w0 (SaysI r w0):=by
 unfold qQ at hR
 refine xV (L:=[(0,v0),(1,.func (.func g1) #[] lb1.toArray)]) func70 rfl rfl rfl (sc rfl (sc rfl sn)) (fun a F=>?_);have H:=Sep.start hN;refine xP (xA 1 F rfl fun a F=>xJ (xC (xP (xA 1 F rfl fun a F=>oL underlying30 F rfl rfl A0 fun a i1 F=>xA 1 F rfl fun a F=>?_))));refine xJ ?_;obtain⟨o1,hR,hk1⟩:=xK hR;refine xW (fun a w=>o1= .nx ()∧Sk a 19 []∧Sep [] B w0 w []) ?_ ?_
 ·
  refine xS ?_;obtain⟨fl1,hf1,hR⟩:=qE hR;refine oR (fun g a w=>∃ (k1:Nat) (t1:List Int),(k1≤x0.length∧x0.drop k1=t1)∧t1.length=g∧qK fl1 t1 k1 ()=some o1∧Sk a 19 [(8,.int .i64 (k1:Int)),(0,v0),(1,.func (.func g1) #[] lb1.toArray),(7,.int .i64 (x0.length:Int))]∧Sep [] B w0 w []) x0.length ?_ ?_
  ·
   exact⟨0,x0,⟨Nat.zero_le _,rfl⟩,rfl,hR,F.su,H⟩
  intro g2 a w ⟨k1,t1,hd1,hg2,hR,F,H⟩
  cases t1 with
  | nil=>
   replace hR:=qG hR;have q1:=qH hd1.1 hd1.2;have l1:=vA q1;refine xP (xA 1 F rfl fun a F=>xJ (xC (qV F rfl l1 (oO (oQ (oQ (vJ ?_)))))));refine xF ?_;exact⟨(Option.some.inj hR).symm,F.sub sn,H⟩
  | cons x2 t1=>
   subst hg2;replace hd1:=oH hd1.2;have y1:=oV hd1.2.1;obtain⟨ck1,hR,hn1⟩:=oU hR;rw[hf1] at hR;have l1:=qP hd1.1;refine xP (xA 1 F rfl fun a F=>xJ (xC (qY F rfl l1 (xL (xF (xC ?_))))));have j1:=k64 (Nat.le_of_lt hd1.1) i1;have m1:=zA hd1.1 i1;refine xS (xP (xA 2 F rfl fun a F=>qU (xA 2 F rfl fun a F=>?_)));refine xA 1 F rfl fun a F=>oI underlying30 sizeOf2 F rfl rfl rfl A0 y1 fun a p1 h1 F=>olI isAgg2 F rfl rfl H.sm h1 (fun a i32 F=>?_);obtain⟨z1,c1,hR⟩:=xB hR;refine oKV F rfl rfl hg1 rfl H (hp1 _ z1 c1 _ H.bl i32) fun a w H F=>xJ (qT F rfl (fun hb1=>?_) (fun hb1=>?_))
   ·
    replace hR:=vS hb1 hR;refine xP (xA 2 F rfl fun a F=>xJ (xT (vH (oE (oE ?_)))));replace hR:=zS hR hn1;refine vH (oE ?_);replace hR:=zR hR hk1;refine oE (xO F rfl (oD F rfl) ?_);obtain rfl:=Option.some.inj hR;exact⟨⟨rfl,H.bl⟩,j1⟩
   replace hR:=vR hb1 hR;refine xL (qW (xF (xR (qR F rfl rfl rfl m1 fun a F=>xA 1 F rfl fun a F=>xJ ?_))));replace hR:=qZ hR hn1;exact⟨_,Nat.lt_succ_self _,k1+1,t1,⟨hd1.1,hd1.2.2⟩,rfl,hR,F.su,H⟩
 intro a w ⟨ho1,F,H⟩;subst ho1;have hR:=xN hk1;refine xF (xP (xA 1 F rfl fun a F=>xJ (xT (xO F rfl (oD F rfl) ?_))));obtain rfl:=Option.some.inj hR;exact⟨⟨rfl,H.bl⟩,(show xY (-1) by decide)⟩
def zJ (x0:List Int) (x1:Int→Option Bool):Option Bool:=
 xX (qQ x0 x1) fun z1=>
 some ((decide (0≤z1)))
theorem slices_ContainsFunc_s_int64_int64_c {B:Nat→Prop} {x0:List Int} {x1:Int→Option Bool} (r:Bool) (hR:zJ x0 x1=some r) {v0:Value} {g1:FuncId} {lb1:List Value} (w0:World) (hN:∀ c,B c→c<w0.heap.size) (A0:Bo B w0 (Sl 1 xH) v0 x0) (hg1:∀ args w,(callFunc g1 args).run Tryz.prog w= .ok (.enter g1 args) w) (hp1:∀ (a0:Int) (r:Bool),x1 a0=some r→∀ W,Below w0.heap.size w0 W→xY a0→Calls Tryz.prog g1 ([.int .i64 a0]++lb1:List Value).toArray W (vV (.bool r) W)):Calls Tryz.prog 99 #[v0,.func (.func g1) #[] lb1.toArray] w0 (vV (.bool r) w0):=by
 unfold zJ at hR
 refine xV (L:=[(0,v0),(1,.func (.func g1) #[] lb1.toArray)]) func99 rfl rfl rfl (sc rfl (sc rfl sn)) (fun a F=>?_);have H:=Sep.start hN;refine xP (xA 1 F rfl fun a F=>qU (xA 2 F rfl fun a F=>?_));obtain⟨z1,c1,hR⟩:=xB hR;refine oKI F rfl call70 rfl H (slices_IndexFunc_s_int64_int64_c z1 c1 _ aA (H.a A0) hg1 (fun a0 r h W l1=>hp1 a0 r h W (H.bl.trans (l1.mono H.fr.size)))) fun a w H iz1 F=>xA 2 F rfl fun a F=>xJ (xT (xO F rfl (oD F rfl) ?_));obtain rfl:=Option.some.inj hR;exact⟨rfl,H.bl⟩
def impl_areValues (x0:Int) (x1:List Int) (x2:Int):Option Bool:=
 vO (σ:=Bool) (
  if ((x1.length:Int)==x2) then  xX (zJ x1 (fun a0=>impl_areValues_1 a0 x0)) fun z1=>
   some (.nx (!z1)) else  some (.nx false)) fun s1=>
 some s1
theorem impl_areValues_c {B:Nat→Prop} {x0:Int} {x1:List Int} {x2:Int} (r:Bool) (hR:impl_areValues x0 x1 x2=some r) {v1:Value} (w0:World) (hN:∀ c,B c→c<w0.heap.size) (hx0:xY x0) (A1:Bo B w0 (Sl 1 xH) v1 x1) (hx2:xY x2):Calls Tryz.prog 58 #[.int .i64 x0,v1,.int .i64 x2] w0 (vV (.bool r) w0):=by
 unfold impl_areValues at hR
 refine xV (L:=[(0,.int .i64 x0),(1,v1),(2,.int .i64 x2)]) func58 rfl rfl rfl (sc rfl (sc rfl (sc rfl sn))) (fun a F=>?_);have H:=Sep.start hN;refine xP (oX F rfl rfl rfl H fun a w b1 H F=>xA 1 F rfl fun a F=>xJ (xC ?_));obtain⟨o16,hR,hk1⟩:=xK hR;refine xW (fun a w=>∃ (s1:Bool),o16= .nx s1∧Sk a 17 [(6,.bool s1)]∧Sep [] B w0 w []) ?_ ?_
 ·
  refine xR (xA 1 F rfl fun a F=>oL underlying30 F rfl rfl A1 fun a i1 F=>xA 3 F rfl fun a F=>?_)
  rcases vG ((x1.length:Int)==x2) with hb1 | hb1
  ·
   replace hR:=vS hb1 hR;have F:=F.eq (t:=11) rfl (congrArg Value.bool hb1);refine xA 1 F rfl fun a F=>o_func F rfl rfl rfl (fun a F=>?_);obtain⟨z1,c1,hR⟩:=xB hR;refine oK F rfl call99 rfl H (slices_ContainsFunc_s_int64_int64_c z1 c1 _ aA (H.a A1) call100 (fun a0 r h W l1 f0=>impl_areValues_1_c r h W aA f0 ((c1I (H.g 0 rfl).bk hx0).w l1))) fun a w H F=>xA 3 F rfl fun a F=>xJ ?_;exact⟨(!z1),(Option.some.inj hR).symm,F.su,(H.s [] rfl rfl)⟩
  replace hR:=vR hb1 hR;have F:=F.eq (t:=11) rfl (congrArg Value.bool hb1);refine xA 6 F rfl fun a F=>xJ ?_;exact⟨false,(Option.some.inj hR).symm,F.su,(H.s [] rfl rfl)⟩
 intro a w ⟨s1,ho1,F,H⟩;subst ho1;have hR:=xN hk1;refine xF (xT (xO F rfl (oD F rfl) ?_));obtain rfl:=Option.some.inj hR;exact⟨rfl,H.bl⟩
def impl_ValidRel (x0:Int) (x1:Rel):Option Bool:=
 vO (σ:=Bool) (
  xX (impl_isSize x0) fun z1=>
  if (!z1) then  some (.nx true) else  xX (impl_isArity x1.arity) fun z2=>
   some (.nx (!z2))) fun s1=>
 if s1 then
  some false
 else
  vO (σ:=Unit) (
   qK (σ:=Unit) (ρ:=Bool) (fun(k1:Nat) (x2:(List Int)) (s:Unit)=>
     match s with
     | _=>
     vO (σ:=Bool) (
      xX (impl_areValues x0 x2 x1.arity) fun z3=>
      if (!z3) then  some (.nx true) else  if (decide (0<(k1:Int))) then  xX (ck ((k1:Int) - 1)) fun z4=>
        xX (ix x1.tuples z4) fun z5=>
        xX (zB z5 x2) fun z6=>
        some (.nx (decide (0≤z6))) else  some (.nx false)) fun s2=>
     if s2 then
      some (.ret false)
     else
      some (.go ())) x1.tuples 0 ()) fun _=>
  some true
theorem impl_ValidRel_c {B:Nat→Prop} {x0:Int} {x1:Rel} (r:Bool) (hR:impl_ValidRel x0 x1=some r) {v1:Value} (w0:World) (hN:∀ c,B c→c<w0.heap.size) (hx0:xY x0) (A1:Bo B w0 (zC 2 oM) v1 x1):Calls Tryz.prog 97 #[.int .i64 x0,v1] w0 (vV (.bool r) w0):=by
 unfold impl_ValidRel at hR
 refine xV (L:=[(0,.int .i64 x0),(1,v1)]) func97 rfl rfl rfl (sc rfl (sc rfl sn)) (fun a F=>?_);have H:=Sep.start hN;refine xP ?_;obtain⟨v2,rfl,i1,h1⟩:=oM.o A1;refine oX F rfl rfl rfl H fun a w b1 H F=>xA 1 F rfl fun a F=>xJ (xC (xC ?_));obtain⟨o1,hR,hk1⟩:=xK hR;refine xW (fun a w=>∃ (s1:Bool),o1= .nx s1∧Sk a 46 [(0,.int .i64 x0),(3,.pointer (some ⟨b1,0,none⟩)),(15,.bool s1)]∧Sep [] B w0 w [bx b1 [.int .i64 x1.arity,v2] 69]) ?_ ?_
 ·
  refine xR (xA 1 F rfl fun a F=>?_);obtain⟨z1,c1,hR⟩:=xB hR;refine oK F rfl call95 rfl H (impl_isSize_c z1 c1 _ aA hx0) fun a w H F=>xA 2 F rfl fun a F=>?_
  rcases vG (!z1) with hb1 | hb1
  ·
   replace hR:=vS hb1 hR;have F:=F.eq (t:=10) rfl (congrArg Value.bool hb1);refine xA 5 F rfl fun a F=>xJ ?_;exact⟨true,(Option.some.inj hR).symm,F.su,H⟩
  replace hR:=vR hb1 hR;have F:=F.eq (t:=10) rfl (congrArg Value.bool hb1);refine oY fa69_0 F rfl rfl rfl fun a F=>oB isAgg2 F rfl rfl (H.b 0 rfl) rfl (fun a F=>?_);obtain⟨z2,c2,hR⟩:=xB hR;refine oK F rfl call136 rfl H (impl_isArity_c z2 c2 _ aA i1) fun a w H F=>xA 2 F rfl fun a F=>xJ ?_;exact⟨(!z2),(Option.some.inj hR).symm,F.su,H⟩
 intro a w ⟨s1,ho1,F,H⟩;subst ho1;have hR:=xN hk1;refine xF (qT F rfl (fun hb2=>?_) (fun hb2=>?_))
 ·
  replace hR:=vS hb2 hR;refine xP (xA 1 F rfl fun a F=>xJ (xT (oE (xO F rfl (oD F rfl) ?_))));obtain rfl:=Option.some.inj hR;exact⟨rfl,H.bl⟩
 replace hR:=vR hb2 hR;refine xL (xF (xC (xP (oY vX F rfl rfl rfl fun a F=>oB isAgg67 F rfl rfl (H.b 0 rfl) rfl fun a F=>oL underlying67 F rfl rfl h1 fun a i2 F=>xA 1 F rfl fun a F=>xJ ?_))));obtain⟨o2,hR,hk2⟩:=xK hR;refine xW (fun a w=>o2= .nx ()∧Sk a 46 []∧Sep [] B w0 w []) ?_ ?_
 ·
  refine xS ?_;obtain⟨fl1,hf1,hR⟩:=qE hR;refine oR (fun g a w=>∃ (k1:Nat) (t1:List (List Int)),(k1≤x1.tuples.length∧x1.tuples.drop k1=t1)∧t1.length=g∧qK fl1 t1 k1 ()=some o2∧Sk a 46 [(19,.int .i64 (k1:Int)),(0,.int .i64 x0),(3,.pointer (some ⟨b1,0,none⟩)),(17,v2),(18,.int .i64 (x1.tuples.length:Int))]∧Sep [] B w0 w [bx b1 [.int .i64 x1.arity,v2] 69]) x1.tuples.length ?_ ?_
  ·
   exact⟨0,x1.tuples,⟨Nat.zero_le _,rfl⟩,rfl,hR,F.su,H⟩
  intro g1 a w ⟨k1,t1,hd1,hg1,hR,F,H⟩
  cases t1 with
  | nil=>
   replace hR:=qG hR;have q1:=qH hd1.1 hd1.2;have l1:=vA q1;refine xP (xA 1 F rfl fun a F=>xJ (xC (qV F rfl l1 (oO (oQ (oQ (vJ ?_)))))));refine xF ?_;exact⟨(Option.some.inj hR).symm,F.sub sn,(H.s [] rfl rfl)⟩
  | cons x2 t1=>
   subst hg1;replace hd1:=oH hd1.2;have y1:=oV hd1.2.1;obtain⟨ck1,hR,hn1⟩:=oU hR;rw[hf1] at hR;have l1:=qP hd1.1;refine xP (xA 1 F rfl fun a F=>xJ (xC (qY F rfl l1 (xL (xF (xC ?_))))));have j1:=k64 (Nat.le_of_lt hd1.1) i2;have m1:=zA hd1.1 i2;refine xS (xP (xA 1 F rfl fun a F=>oI underlying67 sizeOf30 F rfl rfl rfl h1 y1 fun a p1 h2 F=>olS isAgg30 F rfl rfl H.sm h2 fun a v3 h3 F=>xA 2 F rfl fun a F=>xJ (xC ?_)));obtain⟨o3,hR,hk3⟩:=xK hR;refine xW (fun a w=>∃ (s2:Bool),o3= .nx s2∧Sk a 46 [(0,.int .i64 x0),(3,.pointer (some ⟨b1,0,none⟩)),(17,v2),(18,.int .i64 (x1.tuples.length:Int)),(19,.int .i64 (k1:Int)),(44,.bool s2)]∧Sep [] B w0 w [bx b1 [.int .i64 x1.arity,v2] 69]) ?_ ?_
   ·
    refine xR (xA 2 F rfl fun a F=>oY fa69_0 F rfl rfl rfl fun a F=>oB isAgg2 F rfl rfl (H.b 0 rfl) rfl (fun a F=>?_));obtain⟨z3,c3,hR⟩:=xB hR;refine oK F rfl call58 rfl H (impl_areValues_c z3 c3 _ aA hx0 (H.a h3) i1) fun a w H F=>xA 2 F rfl fun a F=>?_
    rcases vG (!z3) with hb3 | hb3
    ·
     replace hR:=vS hb3 hR;have F:=F.eq (t:=30) rfl (congrArg Value.bool hb3);refine xA 11 F rfl fun a F=>?_;refine xA 3 F rfl fun a F=>xJ ?_;exact⟨true,(Option.some.inj hR).symm,F.su,H⟩
    replace hR:=vR hb3 hR;have F:=F.eq (t:=30) rfl (congrArg Value.bool hb3);refine xA 3 F rfl fun a F=>?_
    rcases vG (decide (0<(k1:Int))) with hb4 | hb4
    ·
     replace hR:=vS hb4 hR;have F:=F.eq (t:=33) rfl (congrArg Value.bool hb4);refine oY vX F rfl rfl rfl fun a F=>oB isAgg67 F rfl rfl (H.b 0 rfl) rfl fun a F=>xA 1 F rfl fun a F=>?_;obtain⟨z4,c4,hR⟩:=xB hR;refine o_sub F rfl rfl rfl c4 (fun a F=>?_);obtain⟨z5,c5,hR⟩:=xB hR;refine oI underlying67 sizeOf30 F rfl rfl rfl h1 c5 fun a p2 h4 F=>olS isAgg30 F rfl rfl H.sm h4 fun a v4 h5 F=>xA 1 F rfl fun a F=>?_;obtain⟨z6,c6,hR⟩:=xB hR;refine oKI F rfl call137 rfl H (slices_Compare_s_int64_int64_c z6 c6 _ aA (H.a h5) (H.a h3)) fun a w H iz1 F=>xA 3 F rfl fun a F=>xJ ?_;exact⟨(decide (0≤z6)),(Option.some.inj hR).symm,F.su,H⟩
    replace hR:=vR hb4 hR;have F:=F.eq (t:=33) rfl (congrArg Value.bool hb4);refine xA 11 F rfl fun a F=>?_;refine xJ ?_;exact⟨false,(Option.some.inj hR).symm,F.su,H⟩
   intro a w ⟨s2,ho2,F,H⟩;subst ho2;have hR:=xN hk3;refine xF (qT F rfl (fun hb5=>?_) (fun hb5=>?_))
   ·
    replace hR:=vS hb5 hR;refine xP (xA 1 F rfl fun a F=>xJ (xT (vH (oE (oE ?_)))));replace hR:=zS hR hn1;refine vH (oE ?_);replace hR:=zR hR hk2;refine oE (xO F rfl (oD F rfl) ?_);obtain rfl:=Option.some.inj hR;exact⟨rfl,H.bl⟩
   replace hR:=vR hb5 hR;refine xL (qW (xF (xR (qR F rfl rfl rfl m1 fun a F=>xA 1 F rfl fun a F=>xJ ?_))));replace hR:=qZ hR hn1;exact⟨_,Nat.lt_succ_self _,k1+1,t1,⟨hd1.1,hd1.2.2⟩,rfl,hR,F.su,H⟩
 intro a w ⟨ho3,F,H⟩;subst ho3;have hR:=xN hk2;refine xF (xP (xA 1 F rfl fun a F=>xJ (xT (xO F rfl (oD F rfl) ?_))));obtain rfl:=Option.some.inj hR;exact⟨rfl,H.bl⟩
def impl_ValidTemplate_1 (x0:Rel) (y0:Template):Option Bool:=
 xX (impl_ValidRel y0.size (Rel.mk x0.arity x0.tuples)) fun z1=>
 some ((!z1))
theorem impl_ValidTemplate_1_c {B:Nat→Prop} {x0:Rel} {y0:Template} (r:Bool) (hR:impl_ValidTemplate_1 x0 y0=some r) {v0:Value} {v1:Value} (w0:World) (hN:∀ c,B c→c<w0.heap.size) (A0:Bo B w0 (zC 2 oM) v0 x0) (A1:Bo B w0 (Pt 2 xG) v1 y0):Calls Tryz.prog 96 #[v0,v1] w0 (vV (.bool r) w0):=by
 unfold impl_ValidTemplate_1 at hR
 refine xV (L:=[(0,v0),(1,v1)]) func96 rfl rfl rfl (sc rfl (sc rfl sn)) (fun a F=>?_);have H:=Sep.start hN;refine xP ?_;obtain⟨v2,rfl,i1,h1⟩:=oM.o A0;refine oX F rfl rfl rfl H fun a w b1 H F=>xA 1 F rfl fun a F=>qU (oF (s':=1) fa35_0 F rfl rfl A1 xG.f0 fun a p1 h16 F=>olI isAgg2 F rfl rfl H.sm h16 fun a i2 F=>oBA isAgg69 sizeOf69 F rfl rfl (H.b 0 rfl) rfl rfl (fun a F=>?_));obtain⟨z1,c1,hR⟩:=xB hR;refine oK F rfl call97 rfl H (impl_ValidRel_c z1 c1 _ aA i2 (oM.m i1 (H.a h1))) fun a w H F=>xA 2 F rfl fun a F=>xJ (xT (xO F rfl (oD F rfl) ?_));obtain rfl:=Option.some.inj hR;exact⟨rfl,H.bl⟩
def zP (x0:List Rel) (x1:Rel→Option Bool):Option Int:=
 vO (σ:=Unit) (
  qK (σ:=Unit) (ρ:=Int) (fun(k1:Nat) (x2:Rel) (s:Unit)=>
    match s with
    | _=>
    xX (x1 x2) fun z1=>
    if z1 then
     some (.ret ((k1:Int)))
    else
     some (.go ())) x0 0 ()) fun _=>
 some ((-1))
theorem slices_IndexFunc_s_Rel_Rel_c {B:Nat→Prop} {x0:List Rel} {x1:Rel→Option Bool} (r:Int) (hR:zP x0 x1=some r) {v0:Value} {g1:FuncId} {lb1:List Value} (w0:World) (hN:∀ c,B c→c<w0.heap.size) (A0:Bo B w0 (Sl 2 oM) v0 x0) (hg1:∀ args w,(callFunc g1 args).run Tryz.prog w= .ok (.enter g1 args) w) (hp1:∀ (a0:Rel) (r:Bool),x1 a0=some r→∀ W,Below w0.heap.size w0 W→∀ (u0:Value),Bo (All W) W (zC 2 oM) u0 a0→Calls Tryz.prog g1 ([u0]++lb1:List Value).toArray W (vV (.bool r) W)):Calls Tryz.prog 62 #[v0,.func (.func g1) #[] lb1.toArray] w0 (SaysI r w0):=by
 unfold zP at hR
 refine xV (L:=[(0,v0),(1,.func (.func g1) #[] lb1.toArray)]) func62 rfl rfl rfl (sc rfl (sc rfl sn)) (fun a F=>?_);have H:=Sep.start hN;refine xP (xA 1 F rfl fun a F=>xJ (xC (xP (xA 1 F rfl fun a F=>oL underlying33 F rfl rfl A0 fun a i1 F=>xA 1 F rfl fun a F=>?_))));refine xJ ?_;obtain⟨o1,hR,hk1⟩:=xK hR;refine xW (fun a w=>o1= .nx ()∧Sk a 19 []∧Sep [] B w0 w []) ?_ ?_
 ·
  refine xS ?_;obtain⟨fl1,hf1,hR⟩:=qE hR;refine oR (fun g a w=>∃ (k1:Nat) (t1:List Rel),(k1≤x0.length∧x0.drop k1=t1)∧t1.length=g∧qK fl1 t1 k1 ()=some o1∧Sk a 19 [(8,.int .i64 (k1:Int)),(0,v0),(1,.func (.func g1) #[] lb1.toArray),(7,.int .i64 (x0.length:Int))]∧Sep [] B w0 w []) x0.length ?_ ?_
  ·
   exact⟨0,x0,⟨Nat.zero_le _,rfl⟩,rfl,hR,F.su,H⟩
  intro g2 a w ⟨k1,t1,hd1,hg2,hR,F,H⟩
  cases t1 with
  | nil=>
   replace hR:=qG hR;have q1:=qH hd1.1 hd1.2;have l1:=vA q1;refine xP (xA 1 F rfl fun a F=>xJ (xC (qV F rfl l1 (oO (oQ (oQ (vJ ?_)))))));refine xF ?_;exact⟨(Option.some.inj hR).symm,F.sub sn,H⟩
  | cons x2 t1=>
   subst hg2;replace hd1:=oH hd1.2;have y1:=oV hd1.2.1;obtain⟨ck1,hR,hn1⟩:=oU hR;rw[hf1] at hR;have l1:=qP hd1.1;refine xP (xA 1 F rfl fun a F=>xJ (xC (qY F rfl l1 (xL (xF (xC ?_))))));have j1:=k64 (Nat.le_of_lt hd1.1) i1;have m1:=zA hd1.1 i1;refine xS (xP (xA 2 F rfl fun a F=>qU (xA 2 F rfl fun a F=>?_)));refine xA 1 F rfl fun a F=>oI underlying33 sizeOf69 F rfl rfl rfl A0 y1 fun a p1 h32 F=>olA isAgg69 sizeOf69 F rfl rfl H.sm h32 (fun a v1 h1 F=>?_);obtain⟨z1,c1,hR⟩:=xB hR;refine oKV F rfl rfl hg1 rfl H (hp1 _ z1 c1 _ H.bl _ (H.a h1)) fun a w H F=>xJ (qT F rfl (fun hb1=>?_) (fun hb1=>?_))
   ·
    replace hR:=vS hb1 hR;refine xP (xA 2 F rfl fun a F=>xJ (xT (vH (oE (oE ?_)))));replace hR:=zS hR hn1;refine vH (oE ?_);replace hR:=zR hR hk1;refine oE (xO F rfl (oD F rfl) ?_);obtain rfl:=Option.some.inj hR;exact⟨⟨rfl,H.bl⟩,j1⟩
   replace hR:=vR hb1 hR;refine xL (qW (xF (xR (qR F rfl rfl rfl m1 fun a F=>xA 1 F rfl fun a F=>xJ ?_))));replace hR:=qZ hR hn1;exact⟨_,Nat.lt_succ_self _,k1+1,t1,⟨hd1.1,hd1.2.2⟩,rfl,hR,F.su,H⟩
 intro a w ⟨ho1,F,H⟩;subst ho1;have hR:=xN hk1;refine xF (xP (xA 1 F rfl fun a F=>xJ (xT (xO F rfl (oD F rfl) ?_))));obtain rfl:=Option.some.inj hR;exact⟨⟨rfl,H.bl⟩,(show xY (-1) by decide)⟩
def vW (x0:List Rel) (x1:Rel→Option Bool):Option Bool:=
 xX (zP x0 x1) fun z1=>
 some ((decide (0≤z1)))
theorem slices_ContainsFunc_s_Rel_Rel_c {B:Nat→Prop} {x0:List Rel} {x1:Rel→Option Bool} (r:Bool) (hR:vW x0 x1=some r) {v0:Value} {g1:FuncId} {lb1:List Value} (w0:World) (hN:∀ c,B c→c<w0.heap.size) (A0:Bo B w0 (Sl 2 oM) v0 x0) (hg1:∀ args w,(callFunc g1 args).run Tryz.prog w= .ok (.enter g1 args) w) (hp1:∀ (a0:Rel) (r:Bool),x1 a0=some r→∀ W,Below w0.heap.size w0 W→∀ (u0:Value),Bo (All W) W (zC 2 oM) u0 a0→Calls Tryz.prog g1 ([u0]++lb1:List Value).toArray W (vV (.bool r) W)):Calls Tryz.prog 30 #[v0,.func (.func g1) #[] lb1.toArray] w0 (vV (.bool r) w0):=by
 unfold vW at hR
 refine xV (L:=[(0,v0),(1,.func (.func g1) #[] lb1.toArray)]) func30 rfl rfl rfl (sc rfl (sc rfl sn)) (fun a F=>?_);have H:=Sep.start hN;refine xP (xA 1 F rfl fun a F=>qU (xA 2 F rfl fun a F=>?_));obtain⟨z1,c1,hR⟩:=xB hR;refine oKI F rfl call62 rfl H (slices_IndexFunc_s_Rel_Rel_c z1 c1 _ aA (H.a A0) hg1 (fun a0 r h W l1=>hp1 a0 r h W (H.bl.trans (l1.mono H.fr.size)))) fun a w H iz1 F=>xA 2 F rfl fun a F=>xJ (xT (xO F rfl (oD F rfl) ?_));obtain rfl:=Option.some.inj hR;exact⟨rfl,H.bl⟩
def kW (x0:Template):Option Bool:=
 vO (σ:=Bool) (
  xX (impl_isSize x0.size) fun z1=>
  if z1 then  if (decide ((x0.rels.length:Int)≤6)) then  xX (vW x0.rels (fun a0=>impl_ValidTemplate_1 a0 (Template.mk x0.size x0.rels))) fun z2=>
    some (.nx (!z2)) else  some (.nx false) else  some (.nx false)) fun s1=>
 some s1
theorem impl_ValidTemplate_c {B:Nat→Prop} {x0:Template} (r:Bool) (hR:kW x0=some r) {v0:Value} (w0:World) (hN:∀ c,B c→c<w0.heap.size) (A0:Bo B w0 (zC 2 xG) v0 x0):Calls Tryz.prog 53 #[v0] w0 (vV (.bool r) w0):=by
 unfold kW at hR
 refine xV (L:=[(0,v0)]) func53 rfl rfl rfl (sc rfl sn) (fun a F=>?_);have H:=Sep.start hN;refine xP ?_;obtain⟨v1,rfl,i1,h1⟩:=xG.o A0;refine oX F rfl rfl rfl H fun a w b1 H F=>xA 1 F rfl fun a F=>xJ (xC ?_);obtain⟨o1,hR,hk1⟩:=xK hR;refine xW (fun a w=>∃ (s1:Bool),o1= .nx s1∧Sk a 19 [(2,.bool s1)]∧Sep [] B w0 w []) ?_ ?_
 ·
  refine xR (oY fa35_0 F rfl rfl rfl fun a F=>oB isAgg2 F rfl rfl (H.b 0 rfl) rfl (fun a F=>?_));obtain⟨z1,c1,hR⟩:=xB hR;refine oK F rfl call95 rfl H (impl_isSize_c z1 c1 _ aA i1) fun a w H F=>xA 1 F rfl fun a F=>?_
  rcases vG z1 with hb1 | hb1
  ·
   replace hR:=vS hb1 hR;have F:=F.eq (t:=6) rfl (congrArg Value.bool hb1);refine oY fa35_1 F rfl rfl rfl fun a F=>oB isAgg33 F rfl rfl (H.b 0 rfl) rfl fun a F=>oL underlying33 F rfl rfl h1 fun a i2 F=>xA 3 F rfl fun a F=>?_
   rcases vG (decide ((x0.rels.length:Int)≤6)) with hb2 | hb2
   ·
    replace hR:=vS hb2 hR;have F:=F.eq (t:=12) rfl (congrArg Value.bool hb2);refine oY fa35_1 F rfl rfl rfl fun a F=>oB isAgg33 F rfl rfl (H.b 0 rfl) rfl fun a F=>o_func F rfl rfl rfl (fun a F=>?_);obtain⟨z2,c32,hR⟩:=xB hR;refine oK F rfl call30 rfl H (slices_ContainsFunc_s_Rel_Rel_c z2 c32 _ aA (H.a h1) call96 (fun a0 r h W l1 u0 f0=>impl_ValidTemplate_1_c r h W aA f0 ((xG.b (H.g 0 rfl).bk i1 (H.a h1)).w l1))) fun a w H F=>xA 3 F rfl fun a F=>xJ ?_;exact⟨(!z2),(Option.some.inj hR).symm,F.su,(H.s [] rfl rfl)⟩
   replace hR:=vR hb2 hR;have F:=F.eq (t:=12) rfl (congrArg Value.bool hb2);refine xA 7 F rfl fun a F=>xJ ?_;exact⟨false,(Option.some.inj hR).symm,F.su,(H.s [] rfl rfl)⟩
  replace hR:=vR hb1 hR;have F:=F.eq (t:=6) rfl (congrArg Value.bool hb1);refine xA 11 F rfl fun a F=>?_;refine xA 2 F rfl fun a F=>xJ ?_;exact⟨false,(Option.some.inj hR).symm,F.su,(H.s [] rfl rfl)⟩
 intro a w ⟨s1,ho1,F,H⟩;subst ho1;have hR:=xN hk1;refine xF (xT (xO F rfl (oD F rfl) ?_));obtain rfl:=Option.some.inj hR;exact⟨rfl,H.bl⟩
def impl_isVars (x0:Int):Option Bool:=
 xX (impl_within x0 1 10) fun z1=>
 some z1
theorem impl_isVars_c {B:Nat→Prop} {x0:Int} (r:Bool) (hR:impl_isVars x0=some r)  (w0:World) (hN:∀ c,B c→c<w0.heap.size) (hx0:xY x0):Calls Tryz.prog 54 #[.int .i64 x0] w0 (vV (.bool r) w0):=by
 unfold impl_isVars at hR
 refine xV (L:=[(0,.int .i64 x0)]) func54 rfl rfl rfl (sc rfl sn) (fun a F=>?_);have H:=Sep.start hN;refine xP (xA 1 F rfl fun a F=>qU (xA 1 F rfl fun a F=>?_));obtain⟨z1,c1,hR⟩:=xB hR;refine oK F rfl call57 rfl H (impl_within_c z1 c1 _ aA hx0 (show xY (1) by decide) (show xY (10) by decide)) fun a w H F=>xA 1 F rfl fun a F=>xJ (xT (xO F rfl (oD F rfl) ?_));obtain rfl:=Option.some.inj hR;exact⟨rfl,H.bl⟩
def impl_ValidInstance_1 (x0:Con) (y0:Template) (y1:Instance):Option Bool:=
 vO (σ:=Bool) (
  xX (ck ((y0.rels.length:Int) - 1)) fun z1=>
  xX (impl_within x0.rel 0 z1) fun z2=>
  if (!z2) then  some (.nx true) else  xX (ix y0.rels x0.rel) fun z3=>
   xX (impl_areValues y1.vars x0.scope z3.arity) fun z4=>
   some (.nx (!z4))) fun s1=>
 some s1
theorem impl_ValidInstance_1_c {B:Nat→Prop} {x0:Con} {y0:Template} {y1:Instance} (r:Bool) (hR:impl_ValidInstance_1 x0 y0 y1=some r) {v0:Value} {v1:Value} {v2:Value} (w0:World) (hN:∀ c,B c→c<w0.heap.size) (A0:Bo B w0 (zC 2 qX) v0 x0) (A1:Bo B w0 (Pt 2 xG) v1 y0) (A2:Bo B w0 (Pt 2 xI) v2 y1):Calls Tryz.prog 56 #[v0,v1,v2] w0 (vV (.bool r) w0):=by
 unfold impl_ValidInstance_1 at hR
 refine xV (L:=[(0,v0),(1,v1),(2,v2)]) func56 rfl rfl rfl (sc rfl (sc rfl (sc rfl sn))) (fun a F=>?_);have H:=Sep.start hN;refine xP ?_;obtain⟨v3,rfl,i1,h1⟩:=qX.o A0;refine oX F rfl rfl rfl H fun a w b1 H F=>xA 1 F rfl fun a F=>xJ (xC ?_);obtain⟨o1,hR,hk1⟩:=xK hR;refine xW (fun a w=>∃ (s1:Bool),o1= .nx s1∧Sk a 28 [(4,.bool s1)]∧Sep [] B w0 w []) ?_ ?_
 ·
  refine xQ H (by kernel_rfl) (by kernel_rfl) (xU F rfl (fun w l=>zQ fa85_0 F rfl rfl) fun a F=>qB isAgg2 F rfl rfl (H.qb 0 rfl) rfl fun a F=>qF (s':=1) fa35_1 F rfl rfl A1 xG.f1 fun a p1 h2 F=>qlS isAgg33 F rfl rfl H.q h2 fun a v4 h3 F=>qL underlying33 F rfl rfl h3 (fun a i2 F=>?_));obtain⟨z1,c1,hR⟩:=xB hR;refine xU F rfl (fun w l=>r_sub F rfl rfl c1) (fun a F=>?_);obtain⟨z2,c2,hR⟩:=xB hR;refine q_says F rfl call57 rfl (fun w w' h l=>l.through h) (fun w l=>impl_within_c z2 c2 w aA i1 (show xY (0) by decide) (ck64 c1)) fun a F=>xU F rfl (fun w l=>r_not F rfl) fun a F=>xU F rfl (fun w l=>xM F rfl) (fun a F=>?_)
  rcases vG (!z2) with hb1 | hb1
  ·
   replace hR:=vS hb1 hR;have F:=F.eq (t:=13) rfl (congrArg Value.bool hb1);refine qS F rfl rfl fun a F=>qS F rfl rfl fun a F=>qS F rfl rfl fun a F=>qS F rfl rfl fun a F=>qS F rfl rfl fun a F=>qS F rfl rfl fun a F=>qS F rfl rfl fun a F=>qS F rfl rfl fun a F=>qS F rfl rfl fun a F=>qS F rfl rfl fun a F=>qS F rfl rfl (fun a F=>?_);refine qS F rfl rfl fun a F=>qS F rfl rfl fun a F=>xU F rfl (fun w l=>r_pickt F rfl rfl) fun a F=>xU F rfl (fun w l=>kL F rfl) fun a F=>kP fun w H=>xF ?_;exact⟨true,(Option.some.inj hR).symm,F.su,(H.s [] rfl rfl)⟩
  replace hR:=vR hb1 hR;have F:=F.eq (t:=13) rfl (congrArg Value.bool hb1);refine qF (s':=1) zY F rfl rfl A2 xI.f0 fun a p2 h4 F=>qlI isAgg2 F rfl rfl H.q h4 fun a i3 F=>xU F rfl (fun w l=>zQ kV F rfl rfl) fun a F=>qB isAgg30 F rfl rfl (H.qb 0 rfl) rfl fun a F=>qF (s':=1) fa35_1 F rfl rfl A1 xG.f1 fun a p3 h5 F=>qlS isAgg33 F rfl rfl H.q h5 fun a v5 h6 F=>xU F rfl (fun w l=>zQ fa85_0 F rfl rfl) fun a F=>qB isAgg2 F rfl rfl (H.qb 0 rfl) rfl (fun a F=>?_);obtain⟨z3,c3,hR⟩:=xB hR;refine qI underlying33 sizeOf69 F rfl rfl rfl h6 c3 fun a p64 h7 F=>qF (s':=1) fa69_0 F rfl rfl h7 oM.f0 fun a p4 h8 F=>qlI isAgg2 F rfl rfl H.q h8 (fun a i4 F=>?_);obtain⟨z4,c4,hR⟩:=xB hR;refine q_says F rfl call58 rfl (fun w w' h l=>l.through h) (fun w l=>impl_areValues_c z4 c4 w aA i3 ((H.go l).a h1) i4) fun a F=>xU F rfl (fun w l=>r_not F rfl) fun a F=>xU F rfl (fun w l=>r_pickf F rfl rfl) fun a F=>xU F rfl (fun w l=>kL F rfl) fun a F=>kP fun w H=>xF ?_;exact⟨(!z4),(Option.some.inj hR).symm,F.su,(H.s [] rfl rfl)⟩
 intro a w ⟨s1,ho1,F,H⟩;subst ho1;have hR:=xN hk1;refine xF (xT (xO F rfl (oD F rfl) ?_));obtain rfl:=Option.some.inj hR;exact⟨rfl,H.bl⟩
def slices_IndexFunc_s_Con_Con (x0:List Con) (x1:Con→Option Bool):Option Int:=
 vO (σ:=Unit) (
  qK (σ:=Unit) (ρ:=Int) (fun(k1:Nat) (x2:Con) (s:Unit)=>
    match s with
    | _=>
    xX (x1 x2) fun z1=>
    if z1 then
     some (.ret ((k1:Int)))
    else
     some (.go ())) x0 0 ()) fun _=>
 some ((-1))
theorem slices_IndexFunc_s_Con_Con_c {B:Nat→Prop} {x0:List Con} {x1:Con→Option Bool} (r:Int) (hR:slices_IndexFunc_s_Con_Con x0 x1=some r) {v0:Value} {g1:FuncId} {lb1:List Value} (w0:World) (hN:∀ c,B c→c<w0.heap.size) (A0:Bo B w0 (Sl 2 qX) v0 x0) (hg1:∀ args w,(callFunc g1 args).run Tryz.prog w= .ok (.enter g1 args) w) (hp1:∀ (a0:Con) (r:Bool),x1 a0=some r→∀ W,Below w0.heap.size w0 W→∀ (u0:Value),Bo (All W) W (zC 2 qX) u0 a0→Calls Tryz.prog g1 ([u0]++lb1:List Value).toArray W (vV (.bool r) W)):Calls Tryz.prog 98 #[v0,.func (.func g1) #[] lb1.toArray] w0 (SaysI r w0):=by
 unfold slices_IndexFunc_s_Con_Con at hR
 refine xV (L:=[(0,v0),(1,.func (.func g1) #[] lb1.toArray)]) func98 rfl rfl rfl (sc rfl (sc rfl sn)) (fun a F=>?_);have H:=Sep.start hN;refine xP (xA 1 F rfl fun a F=>xJ (xC (xP (xA 1 F rfl fun a F=>oL underlying37 F rfl rfl A0 fun a i1 F=>xA 1 F rfl fun a F=>?_))));refine xJ ?_;obtain⟨o1,hR,hk1⟩:=xK hR;refine xW (fun a w=>o1= .nx ()∧Sk a 19 []∧Sep [] B w0 w []) ?_ ?_
 ·
  refine xS ?_;obtain⟨fl1,hf1,hR⟩:=qE hR;refine oR (fun g a w=>∃ (k1:Nat) (t1:List Con),(k1≤x0.length∧x0.drop k1=t1)∧t1.length=g∧qK fl1 t1 k1 ()=some o1∧Sk a 19 [(8,.int .i64 (k1:Int)),(0,v0),(1,.func (.func g1) #[] lb1.toArray),(7,.int .i64 (x0.length:Int))]∧Sep [] B w0 w []) x0.length ?_ ?_
  ·
   exact⟨0,x0,⟨Nat.zero_le _,rfl⟩,rfl,hR,F.su,H⟩
  intro g2 a w ⟨k1,t1,hd1,hg2,hR,F,H⟩
  cases t1 with
  | nil=>
   replace hR:=qG hR;have q1:=qH hd1.1 hd1.2;have l1:=vA q1;refine xP (xA 1 F rfl fun a F=>xJ (xC (qV F rfl l1 (oO (oQ (oQ (vJ ?_)))))));refine xF ?_;exact⟨(Option.some.inj hR).symm,F.sub sn,H⟩
  | cons x2 t1=>
   subst hg2;replace hd1:=oH hd1.2;have y1:=oV hd1.2.1;obtain⟨ck1,hR,hn1⟩:=oU hR;rw[hf1] at hR;have l1:=qP hd1.1;refine xP (xA 1 F rfl fun a F=>xJ (xC (qY F rfl l1 (xL (xF (xC ?_))))));have j1:=k64 (Nat.le_of_lt hd1.1) i1;have m1:=zA hd1.1 i1;refine xS (xP (xA 2 F rfl fun a F=>qU (xA 2 F rfl fun a F=>?_)));refine xA 1 F rfl fun a F=>oI underlying37 sizeOf85 F rfl rfl rfl A0 y1 fun a p1 h32 F=>olA isAgg85 sizeOf85 F rfl rfl H.sm h32 (fun a v1 h1 F=>?_);obtain⟨z1,c1,hR⟩:=xB hR;refine oKV F rfl rfl hg1 rfl H (hp1 _ z1 c1 _ H.bl _ (H.a h1)) fun a w H F=>xJ (qT F rfl (fun hb1=>?_) (fun hb1=>?_))
   ·
    replace hR:=vS hb1 hR;refine xP (xA 2 F rfl fun a F=>xJ (xT (vH (oE (oE ?_)))));replace hR:=zS hR hn1;refine vH (oE ?_);replace hR:=zR hR hk1;refine oE (xO F rfl (oD F rfl) ?_);obtain rfl:=Option.some.inj hR;exact⟨⟨rfl,H.bl⟩,j1⟩
   replace hR:=vR hb1 hR;refine xL (qW (xF (xR (qR F rfl rfl rfl m1 fun a F=>xA 1 F rfl fun a F=>xJ ?_))));replace hR:=qZ hR hn1;exact⟨_,Nat.lt_succ_self _,k1+1,t1,⟨hd1.1,hd1.2.2⟩,rfl,hR,F.su,H⟩
 intro a w ⟨ho1,F,H⟩;subst ho1;have hR:=xN hk1;refine xF (xP (xA 1 F rfl fun a F=>xJ (xT (xO F rfl (oD F rfl) ?_))));obtain rfl:=Option.some.inj hR;exact⟨⟨rfl,H.bl⟩,(show xY (-1) by decide)⟩
def zH (x0:List Con) (x1:Con→Option Bool):Option Bool:=
 xX (slices_IndexFunc_s_Con_Con x0 x1) fun z1=>
 some ((decide (0≤z1)))
theorem slices_ContainsFunc_s_Con_Con_c {B:Nat→Prop} {x0:List Con} {x1:Con→Option Bool} (r:Bool) (hR:zH x0 x1=some r) {v0:Value} {g1:FuncId} {lb1:List Value} (w0:World) (hN:∀ c,B c→c<w0.heap.size) (A0:Bo B w0 (Sl 2 qX) v0 x0) (hg1:∀ args w,(callFunc g1 args).run Tryz.prog w= .ok (.enter g1 args) w) (hp1:∀ (a0:Con) (r:Bool),x1 a0=some r→∀ W,Below w0.heap.size w0 W→∀ (u0:Value),Bo (All W) W (zC 2 qX) u0 a0→Calls Tryz.prog g1 ([u0]++lb1:List Value).toArray W (vV (.bool r) W)):Calls Tryz.prog 55 #[v0,.func (.func g1) #[] lb1.toArray] w0 (vV (.bool r) w0):=by
 unfold zH at hR
 refine xV (L:=[(0,v0),(1,.func (.func g1) #[] lb1.toArray)]) func55 rfl rfl rfl (sc rfl (sc rfl sn)) (fun a F=>?_);have H:=Sep.start hN;refine xP (xA 1 F rfl fun a F=>qU (xA 2 F rfl fun a F=>?_));obtain⟨z1,c1,hR⟩:=xB hR;refine oKI F rfl call98 rfl H (slices_IndexFunc_s_Con_Con_c z1 c1 _ aA (H.a A0) hg1 (fun a0 r h W l1=>hp1 a0 r h W (H.bl.trans (l1.mono H.fr.size)))) fun a w H iz1 F=>xA 2 F rfl fun a F=>xJ (xT (xO F rfl (oD F rfl) ?_));obtain rfl:=Option.some.inj hR;exact⟨rfl,H.bl⟩
def impl_ValidInstance (x0:Template) (x1:Instance):Option Bool:=
 vO (σ:=Bool) (
  xX (kW (Template.mk x0.size x0.rels)) fun z1=>
  if z1 then  xX (impl_isVars x1.vars) fun z2=>
   if z2 then  if (decide ((x1.cons.length:Int)≤24)) then  xX (zH x1.cons (fun a0=>impl_ValidInstance_1 a0 (Template.mk x0.size x0.rels) (Instance.mk x1.vars x1.cons))) fun z3=>
     some (.nx (!z3)) else  some (.nx false) else  some (.nx false) else  some (.nx false)) fun s32=>
 some s32
theorem impl_ValidInstance_c {B:Nat→Prop} {x0:Template} {x1:Instance} (r:Bool) (hR:impl_ValidInstance x0 x1=some r) {v0:Value} {v1:Value} (w0:World) (hN:∀ c,B c→c<w0.heap.size) (A0:Bo B w0 (zC 2 xG) v0 x0) (A1:Bo B w0 (zC 2 xI) v1 x1):Calls Tryz.prog 26 #[v0,v1] w0 (vV (.bool r) w0):=by
 unfold impl_ValidInstance at hR
 refine xV (L:=[(0,v0),(1,v1)]) func26 rfl rfl rfl (sc rfl (sc rfl sn)) (fun a F=>?_);have H:=Sep.start hN;refine xP ?_;obtain⟨v2,rfl,i1,h1⟩:=xG.o A0;refine oX F rfl rfl rfl H (fun a w b1 H F=>?_);obtain⟨v16,rfl,i2,h2⟩:=xI.o A1;refine oX F rfl rfl rfl H fun a w b2 H F=>xA 1 F rfl fun a F=>xJ (xC ?_);obtain⟨o1,hR,hk1⟩:=xK hR;refine xW (fun a w=>∃ (s32:Bool),o1= .nx s32∧Sk a 25 [(4,.bool s32)]∧Sep [] B w0 w []) ?_ ?_
 ·
  refine xR (oBA isAgg35 sizeOf35 F rfl rfl (H.b 1 rfl) rfl rfl (fun a F=>?_));obtain⟨z1,c1,hR⟩:=xB hR;refine oK F rfl call53 rfl H (impl_ValidTemplate_c z1 c1 _ aA (xG.m i1 (H.a h1))) fun a w H F=>xA 1 F rfl fun a F=>?_
  rcases vG z1 with hb1 | hb1
  ·
   replace hR:=vS hb1 hR;have F:=F.eq (t:=7) rfl (congrArg Value.bool hb1);refine oY zY F rfl rfl rfl fun a F=>oB isAgg2 F rfl rfl (H.b 0 rfl) rfl (fun a F=>?_);obtain⟨z2,c2,hR⟩:=xB hR;refine oK F rfl call54 rfl H (impl_isVars_c z2 c2 _ aA i2) fun a w H F=>xA 2 F rfl fun a F=>?_
   rcases vG z2 with hb2 | hb2
   ·
    replace hR:=vS hb2 hR;have F:=F.eq (t:=12) rfl (congrArg Value.bool hb2);refine oY fa39_1 F rfl rfl rfl fun a F=>oB isAgg37 F rfl rfl (H.b 0 rfl) rfl fun a F=>oL underlying37 F rfl rfl h2 fun a i3 F=>xA 3 F rfl fun a F=>?_
    rcases vG (decide ((x1.cons.length:Int)≤24)) with hb3 | hb3
    ·
     replace hR:=vS hb3 hR;have F:=F.eq (t:=18) rfl (congrArg Value.bool hb3);refine oY fa39_1 F rfl rfl rfl fun a F=>oB isAgg37 F rfl rfl (H.b 0 rfl) rfl fun a F=>o_func F rfl rfl rfl (fun a F=>?_);obtain⟨z3,c3,hR⟩:=xB hR;refine oK F rfl call55 rfl H (slices_ContainsFunc_s_Con_Con_c z3 c3 _ aA (H.a h2) call56 (fun a0 r h W l1 u0 f0=>impl_ValidInstance_1_c r h W aA f0 ((xG.b (H.g 1 rfl).bk i1 (H.a h1)).w l1) ((xI.b (H.g 0 rfl).bk i2 (H.a h2)).w l1))) fun a w H F=>xA 3 F rfl fun a F=>xJ ?_;exact⟨(!z3),(Option.some.inj hR).symm,F.su,(H.s [] rfl rfl)⟩
    replace hR:=vR hb3 hR;have F:=F.eq (t:=18) rfl (congrArg Value.bool hb3);refine xA 7 F rfl fun a F=>xJ ?_;exact⟨false,(Option.some.inj hR).symm,F.su,(H.s [] rfl rfl)⟩
   replace hR:=vR hb2 hR;have F:=F.eq (t:=12) rfl (congrArg Value.bool hb2);refine xA 11 F rfl fun a F=>?_;refine xA 2 F rfl fun a F=>xJ ?_;exact⟨false,(Option.some.inj hR).symm,F.su,(H.s [] rfl rfl)⟩
  replace hR:=vR hb1 hR;have F:=F.eq (t:=7) rfl (congrArg Value.bool hb1);refine xA 11 F rfl fun a F=>?_;refine xA 7 F rfl fun a F=>xJ ?_;exact⟨false,(Option.some.inj hR).symm,F.su,(H.s [] rfl rfl)⟩
 intro a w ⟨s32,ho1,F,H⟩;subst ho1;have hR:=xN hk1;refine xF (xT (xO F rfl (oD F rfl) ?_));obtain rfl:=Option.some.inj hR;exact⟨rfl,H.bl⟩
def impl_isClass (x0:Int):Option Bool:=
 xX (impl_within x0 1 6) fun z1=>
 some z1
theorem impl_isClass_c {B:Nat→Prop} {x0:Int} (r:Bool) (hR:impl_isClass x0=some r)  (w0:World) (hN:∀ c,B c→c<w0.heap.size) (hx0:xY x0):Calls Tryz.prog 59 #[.int .i64 x0] w0 (vV (.bool r) w0):=by
 unfold impl_isClass at hR
 refine xV (L:=[(0,.int .i64 x0)]) func59 rfl rfl rfl (sc rfl sn) (fun a F=>?_);have H:=Sep.start hN;refine xP (xA 1 F rfl fun a F=>qU (xA 1 F rfl fun a F=>?_));obtain⟨z1,c1,hR⟩:=xB hR;refine oK F rfl call57 rfl H (impl_within_c z1 c1 _ aA hx0 (show xY (1) by decide) (show xY (6) by decide)) fun a w H F=>xA 1 F rfl fun a F=>xJ (xT (xO F rfl (oD F rfl) ?_));obtain rfl:=Option.some.inj hR;exact⟨rfl,H.bl⟩
def impl_classFault (x0:Template) (x1:Int):Option Int:=
 xX (kW (Template.mk x0.size x0.rels)) fun z1=>
 if (!z1) then
  some 1
 else
  if (x0.size != 2) then
   some 4
  else
   xX (impl_isClass x1) fun z2=>
   if (!z2) then
    some 2
   else
    some 0
theorem impl_classFault_c {B:Nat→Prop} {x0:Template} {x1:Int} (r:Int) (hR:impl_classFault x0 x1=some r) {v0:Value} (w0:World) (hN:∀ c,B c→c<w0.heap.size) (A0:Bo B w0 (zC 2 xG) v0 x0) (hx1:xY x1):Calls Tryz.prog 27 #[v0,.int .i64 x1] w0 (SaysI r w0):=by
 unfold impl_classFault at hR
 refine xV (L:=[(0,v0),(1,.int .i64 x1)]) func27 rfl rfl rfl (sc rfl (sc rfl sn)) (fun a F=>?_);have H:=Sep.start hN;refine xP ?_;obtain⟨v1,rfl,i1,h1⟩:=xG.o A0;refine oX F rfl rfl rfl H fun a w b1 H F=>xA 1 F rfl fun a F=>xJ (xC (xS (xP (oBA isAgg35 sizeOf35 F rfl rfl (H.b 0 rfl) rfl rfl (fun a F=>?_)))));obtain⟨z1,c16,hR⟩:=xB hR;refine oK F rfl call53 rfl H (impl_ValidTemplate_c z1 c16 _ aA (xG.m i1 (H.a h1))) fun a w H F=>xA 2 F rfl fun a F=>xJ (qT F rfl (fun hb1=>?_) (fun hb1=>?_))
 ·
  replace hR:=vS hb1 hR;refine xP (xA 1 F rfl fun a F=>xJ (xT (vH (oE (xO F rfl (oD F rfl) ?_)))));obtain rfl:=Option.some.inj hR;exact⟨⟨rfl,H.bl⟩,(show xY (1) by decide)⟩
 replace hR:=vR hb1 hR;refine xP (oY fa35_0 F rfl rfl rfl fun a F=>oB isAgg2 F rfl rfl (H.b 0 rfl) rfl fun a F=>xA 2 F rfl fun a F=>xJ (qT F rfl (fun hb2=>?_) (fun hb2=>?_)))
 ·
  replace hR:=vS hb2 hR;refine xP (xA 1 F rfl fun a F=>xJ (xT (vH (oE (xO F rfl (oD F rfl) ?_)))));obtain rfl:=Option.some.inj hR;exact⟨⟨rfl,H.bl⟩,(show xY (4) by decide)⟩
 replace hR:=vR hb2 hR;refine xP (xA 1 F rfl fun a F=>?_);obtain⟨z2,c1,hR⟩:=xB hR;refine oK F rfl call59 rfl H (impl_isClass_c z2 c1 _ aA hx1) fun a w H F=>xA 2 F rfl fun a F=>xJ (qT F rfl (fun hb3=>?_) (fun hb3=>?_))
 ·
  replace hR:=vS hb3 hR;refine xP (xA 1 F rfl fun a F=>xJ (xT (vH (oE (xO F rfl (oD F rfl) ?_)))));obtain rfl:=Option.some.inj hR;exact⟨⟨rfl,H.bl⟩,(show xY (2) by decide)⟩
 replace hR:=vR hb3 hR;refine xL (qW (xF (xP (xA 1 F rfl fun a F=>xJ (xT (xO F rfl (oD F rfl) ?_))))));obtain rfl:=Option.some.inj hR;exact⟨⟨rfl,H.bl⟩,(show xY (0) by decide)⟩
def impl_readDigits (x0:ByteArray):Option (List Int):=
 vO (σ:=(List Int)) (
  qK (σ:=(List Int)) (ρ:=(List Int)) (fun(k1:Nat) (x1:UInt8) (s1:(List Int))=>
   vO (σ:=Bool) (
    if (decide ((x1.toNat:Int)<((48:UInt8).toNat:Int))) then  some (.nx true) else  some (.nx (decide (((57:UInt8).toNat:Int)<(x1.toNat:Int))))) fun s2=>
   if s2 then
    some (.ret ([]))
   else
    xX (ap s1 ([((u8w ((x1.toNat:Int) - ((48:UInt8).toNat:Int))).toNat:Int)])) fun z1=>
    some (.go z1)) x0.data.toList 0 []) fun s3=>
 some s3
theorem impl_readDigits_c {B:Nat→Prop} {x0:ByteArray} (r:(List Int)) (hR:impl_readDigits x0=some r)  (w0:World) (hN:∀ c,B c→c<w0.heap.size) (hx0:x0.size≤maxLen):Calls Tryz.prog 61 #[.string x0] w0 (Gv (fun v w'=>∃ (v1':Value),v=v1'∧Sep [] B w0 w' [rl 1 xH 2 v1' r])):=by
 unfold impl_readDigits at hR
 refine xV (L:=[(0,.string x0)]) func61 rfl rfl rfl (sc rfl sn) (fun a F=>?_);have H:=Sep.start hN;refine xP (xA 1 F rfl fun a F=>qU (oR0 (R:=xH) underlying30 sizeOf2 F rfl H fun a w v1 H F=>xA 1 F rfl fun a F=>xJ ?_));refine xC (xP (xA 1 F rfl fun a F=>oSB underlying9 underlying144 underlying5 F rfl rfl hx0 H fun a w v2 H F=>oL underlying144 F rfl rfl (H.ro 0 rfl) fun a i1 F=>xA 1 F rfl fun a F=>xJ ?_));obtain⟨o1,hR,hk1⟩:=xK hR;refine xW (fun a w=>∃ (s1:List Int) (v3:Value),o1= .nx s1∧Sk a 28 [(3,v3)]∧Sep [] B w0 w [rl 1 xH 2 v3 s1]) ?_ ?_
 ·
  refine xS ?_;obtain⟨fl1,hf1,hR⟩:=qE hR;refine oR (fun g a w=>∃ (k1:Nat) (t1:List UInt8) (s2:List Int) (v4:Value),(k1≤x0.data.toList.length∧x0.data.toList.drop k1=t1)∧t1.length=g∧qK fl1 t1 k1 s2=some o1∧Sk a 28 [(10,.int .i64 (k1:Int)),(3,v4),(8,v2),(9,.int .i64 (x0.data.toList.length:Int))]∧Sep [] B w0 w [ro N0 (V:=(Sl 1 RByte)) v2 x0.data.toList,rl 1 xH 2 v4 s2]) x0.data.toList.length ?_ ?_
  ·
   exact⟨0,x0.data.toList,[],v1,⟨Nat.zero_le _,rfl⟩,rfl,hR,F.su,H⟩
  intro g1 a w ⟨k1,t1,s2,v4,hd1,hg1,hR,F,H⟩
  cases t1 with
  | nil=>
   replace hR:=qG hR;have q1:=qH hd1.1 hd1.2;have l1:=vA q1;refine xP (xA 1 F rfl fun a F=>xJ (xC (qV F rfl l1 (oO (oQ (oQ (vJ ?_)))))));refine xF ?_;exact⟨s2,v4,(Option.some.inj hR).symm,F.su,(H.s [1] rfl rfl)⟩
  | cons x1 t1=>
   subst hg1;replace hd1:=oH hd1.2;have y1:=oV hd1.2.1;obtain⟨ck1,hR,hn1⟩:=oU hR;rw[hf1] at hR;have l1:=qP hd1.1;refine xP (xA 1 F rfl fun a F=>xJ (xC (qY F rfl l1 (xL (xF (xC ?_))))));have j1:=k64 (Nat.le_of_lt hd1.1) i1;have m1:=zA hd1.1 i1;refine xS (xP (oI underlying144 sizeOf5 F rfl rfl rfl (H.ro 0 rfl) y1 fun a p1 h1 F=>olU isAgg5 F rfl rfl (Sm.refl _ _) h1 fun a F=>xA 1 F rfl fun a F=>xJ (xC (xC ?_))));obtain⟨o2,hR,hk2⟩:=xK hR;refine xW (fun a w=>∃ (s3:Bool),o2= .nx s3∧Sk a 28 [(3,v4),(5,.int .u8 (x1).toNat),(8,v2),(9,.int .i64 (x0.data.toList.length:Int)),(10,.int .i64 (k1:Int)),(19,.bool s3)]∧Sep [] B w0 w [ro N0 (V:=(Sl 1 RByte)) v2 x0.data.toList,rl 1 xH 2 v4 s2]) ?_ ?_
   ·
    refine xR (xA 1 F rfl fun a F=>o_lssU (j:=(48:UInt8)) F rfl rfl rfl fun a F=>xA 1 F rfl fun a F=>?_)
    rcases vG (decide ((x1.toNat:Int)<((48:UInt8).toNat:Int))) with hb1 | hb1
    ·
     replace hR:=vS hb1 hR;have F:=F.eq (t:=16) rfl (congrArg Value.bool hb1);refine xA 3 F rfl fun a F=>xJ ?_;exact⟨true,(Option.some.inj hR).symm,F.su,H⟩
    replace hR:=vR hb1 hR;have F:=F.eq (t:=16) rfl (congrArg Value.bool hb1);refine xA 1 F rfl fun a F=>o_gtrU (j:=(57:UInt8)) F rfl rfl rfl fun a F=>xA 1 F rfl fun a F=>xJ ?_;exact⟨(decide (((57:UInt8).toNat:Int)<(x1.toNat:Int))),(Option.some.inj hR).symm,F.su,H⟩
   intro a w ⟨s3,ho1,F,H⟩;subst ho1;have hR:=xN hk2;refine xF (qT F rfl (fun hb2=>?_) (fun hb2=>?_))
   ·
    replace hR:=vS hb2 hR;refine xP (xA 1 F rfl fun a F=>xJ (xT (oE (vH (oE (oE ?_))))));replace hR:=zS hR hn1;refine vH (oE ?_);replace hR:=zR hR hk1;refine oE (xO F rfl (oD F rfl) ?_);obtain rfl:=Option.some.inj hR;exact⟨_,rfl,(.slice none 0 0),rfl,((H.nl 1 xH 2).s [0] rfl rfl)⟩
   replace hR:=vR hb2 hR;refine xL (xF (xR (xA 2 F rfl fun a F=>o_subU (j:=(48:UInt8)) F rfl rfl rfl fun a F=>o_convI underlying5 underlying2 F rfl rfl fun a F=>oR1z (R:=xH) (y:=((u8w ((x1.toNat:Int) - ((48:UInt8).toNat:Int))).toNat:Int)) underlying30 sizeOf2 zeroValue2 rfl rfl F rfl rfl H (Eo.int (u8_i64 _)) (fun a w v5 H F=>?_))));obtain⟨z1,c1,hR⟩:=xB hR;refine oPL (sz:=1) (R:=xH) (z:=(.int .i64 0)) (bytes:=8) underlying30 (by kernel_rfl) rfl rfl F rfl rfl rfl (H.s [2,0,1] rfl rfl) c1 fun a w v6 H F=>xA 1 F rfl fun a F=>qD (qW (xF (xR (qR F rfl rfl rfl m1 fun a F=>xA 1 F rfl fun a F=>xJ ?_))));replace hR:=qZ hR hn1;exact⟨_,Nat.lt_succ_self _,k1+1,t1,z1,v6,⟨hd1.1,hd1.2.2⟩,rfl,hR,F.su,(H.s [1,0] rfl rfl)⟩
 intro a w ⟨s1,v3,ho2,F,H⟩;subst ho2;have hR:=xN hk1;refine xF (xP (xA 2 F rfl fun a F=>xJ (xT (xO F rfl (oD F rfl) ?_))));obtain rfl:=Option.some.inj hR;exact⟨_,rfl,v3,rfl,H⟩
def impl_classOp (x0:Int):Option Op:=
 xX (ck (x0 - 1)) fun z1=>
 xX (ix ([(bstr [48,48]),(bstr [49,49]),(bstr [48,48,48,49]),(bstr [48,49,49,49]),(bstr [48,48,48,49,48,49,49,49]),(bstr [48,49,49,48,49,48,48,49])]) z1) fun z16=>
 xX (ix ([1,1,2,2,3,3]) z1) fun z2=>
 xX (impl_readDigits z16) fun z3=>
 some ((Op.mk z2 z3))
theorem impl_classOp_c {B:Nat→Prop} {x0:Int} (r:Op) (hR:impl_classOp x0=some r)  (w0:World) (hN:∀ c,B c→c<w0.heap.size) (hx0:xY x0):Calls Tryz.prog 29 #[.int .i64 x0] w0 (Gv (fun v w'=>∃ (v1':Value),v= .agg #[.int .i64 r.arity,v1']∧Sep [] B w0 w' [rl 1 xH 2 v1' r.table]∧xY r.arity)):=by
 unfold impl_classOp at hR
 refine xV (L:=[(0,.int .i64 x0)]) func29 rfl rfl rfl (sc rfl sn) (fun a F=>?_);have H:=Sep.start hN;refine xP (oA zeroValue64 F rfl rfl H fun a w b1 H F=>qU (oRE Value.string _ litStr (fun _=>rfl) (xs:=[.const (.string (bstr [48,48])),.const (.string (bstr [49,49])),.const (.string (bstr [48,48,48,49])),.const (.string (bstr [48,49,49,49])),.const (.string (bstr [48,48,48,49,48,49,49,49])),.const (.string (bstr [48,49,49,48,49,48,48,49]))]) (l:=[(bstr [48,48]),(bstr [49,49]),(bstr [48,48,48,49]),(bstr [48,49,49,49]),(bstr [48,48,48,49,48,49,49,49]),(bstr [48,49,49,48,49,48,48,49])]) underlying99 sizeOf9 zeroValue9 rfl F rfl rfl rfl rfl rfl rfl (by simp only[List.forall_mem_cons,List.not_mem_nil,false_implies,implies_true,and_true];exact⟨(by decide),(by decide),(by decide),(by decide),(by decide),(by decide)⟩) H fun a w v1 H F=>xA 1 F rfl fun a F=>xJ ?_));refine xC ?_;obtain⟨z1,c1,hR⟩:=xB hR;obtain⟨z16,c2,hR⟩:=xB hR;obtain⟨z2,c3,hR⟩:=xB hR;obtain⟨z3,c4,hR⟩:=xB hR;obtain⟨w1,rfl⟩:∃ x,x=w:=⟨_,rfl⟩;have sm1:=H.sm;obtain⟨X1,N1,g1,e1,H,th1,ab1⟩:=H.fza;have h1:=g1.ld;refine xD H (by kernel_rfl) fun w H=>vD 1 rfl (by kernel_rfl) (by kernel_rfl) (by kernel_rfl) (oJ F rfl (fun w l=>xM F rfl) fun a F=>vD 2 rfl (by kernel_rfl) (by kernel_rfl) (by kernel_rfl) (oJ F rfl (fun w l=>r_sub F rfl rfl c1) fun a F=>vD 5 rfl (by kernel_rfl) (by kernel_rfl) (by kernel_rfl) (oJ F rfl (fun w l=>xM F rfl) fun a F=>vD 6 rfl (by kernel_rfl) (by kernel_rfl) (by kernel_rfl) (oJ F rfl (fun w l=>xM F rfl) fun a F=>vD 7 rfl (by kernel_rfl) (by kernel_rfl) (by kernel_rfl) (oJ F rfl (fun w l=>r_sub F rfl rfl c1) (fun a F=>?_))))));refine kO 8 (by kernel_rfl) rfl (by kernel_rfl) (by kernel_rfl) (by kernel_rfl) (by kernel_rfl) (vI underlying99 sizeOf9 F rfl rfl rfl h1 c2 fun a p1 h2 F=>kO 9 (by kernel_rfl) rfl (by kernel_rfl) (by kernel_rfl) (by kernel_rfl) (by kernel_rfl) (vlT isAgg9 F rfl rfl H.v h2 fun a i1 F=>b_es [0,10] (by kernel_rfl) (by simp) ⟨⟨_,rfl,?_⟩,⟨_,rfl,?_⟩,trivial⟩))
 ·
  refine xEs H (oRI (xs:=[.const (.int .i64 1),.const (.int .i64 1),.const (.int .i64 2),.const (.int .i64 2),.const (.int .i64 3),.const (.int .i64 3)]) (l:=[1,1,2,2,3,3]) underlying30 sizeOf2 zeroValue2 rfl F rfl rfl rfl rfl rfl rfl (by simp only[List.forall_mem_cons,List.not_mem_nil,false_implies,implies_true,and_true];exact⟨(show xY (1) by decide),(show xY (1) by decide),(show xY (2) by decide),(show xY (2) by decide),(show xY (3) by decide),(show xY (3) by decide)⟩) H fun a w v2 H F=>xJ ⟨⟨_,H⟩,?_⟩);refine b_es [3,10] (by kernel_rfl) (by simp) ⟨⟨_,rfl,?_⟩,⟨_,rfl,?_⟩,trivial⟩
  ·
   refine xEs H ?_;obtain⟨w2,rfl⟩:∃ x,x=w:=⟨_,rfl⟩;have sm2:=H.sm;obtain⟨X2,N2,g2,e2,H,th2,ab64⟩:=H.fza;have h3:=g2.ld;refine oI underlying30 sizeOf2 F rfl rfl rfl h3 c3 fun a p2 h4 F=>xJ ⟨⟨_,(th2.1 H (Ns.all ⟨n0,trivial⟩))⟩,?_⟩;refine b_es [4,10] (by kernel_rfl) (by simp) ⟨⟨_,rfl,?_⟩,⟨_,rfl,?_⟩,trivial⟩
   ·
    refine xEs (th2.1 H (Ns.all ⟨n0,trivial⟩)) (olI isAgg2 F rfl rfl H.sm h4 fun a i2 F=>xJ ⟨⟨_,(th2.1 H (Ns.all ⟨n0,trivial⟩))⟩,?_⟩);refine xE (th2.1 H (Ns.all ⟨n0,trivial⟩)) 10 rfl (by kernel_rfl) (oG F rfl call61 rfl (impl_readDigits_c z3 c4 _ aA i1) (fun a vv w ⟨v3,hv1,S⟩ F=>?_));subst vv;have H:=H.r1 S n0;refine xJ ⟨⟨_,(th2.1 H (Ns.all ⟨n0,⟨n0,trivial⟩⟩))⟩,?_⟩;refine xE (th2.1 H (Ns.all ⟨n0,⟨n0,trivial⟩⟩)) 11 rfl (by kernel_rfl) (o_build underlying64 zeroValue64 (fun w=>by simp [sizeOf2,sizeOf30];rfl) F rfl rfl rfl rfl rfl (oc rfl (oc (H.l 0 rfl).one on)) rfl rfl fun a F=>xJ ⟨⟨_,(th2.1 H (Ns.all ⟨n0,⟨n0,trivial⟩⟩))⟩,?_⟩);refine xE (th2.1 H (Ns.all ⟨n0,⟨n0,trivial⟩⟩)) 12 rfl (by kernel_rfl) (oWA (vs:=[.int .i64 z2,v3]) sizeOf64 F rfl rfl rfl (H.s [1,0] rfl rfl) (oc rfl (oc ((H.s [1,0] rfl rfl).l 1 rfl).one on)) rfl rfl fun w H=>xJ ⟨⟨_,(th2.1 H (Ns.all ⟨n0,⟨n0,trivial⟩⟩))⟩,?_⟩);refine b_end (by kernel_rfl) (xF (xT ?_));have H:=(th1.1 (th2.1 H (Ns.all ⟨n0,⟨n0,trivial⟩⟩)) (Ns.all ⟨n0,⟨n0,⟨n0,trivial⟩⟩⟩));refine xO F rfl (rv_cA (arr:=#[.int .i64 z2,v3]) F isAgg64 sizeOf64 rfl (H.b 2 rfl)) ?_;obtain rfl:=Option.some.inj hR;exact⟨_,rfl,v3,rfl,(H.s [3] rfl rfl),i2⟩
   refine xEs (th2.1 H (Ns.all ⟨n0,trivial⟩)) (oG F rfl call61 rfl (impl_readDigits_c z3 c4 _ aA i1) (fun a vv w ⟨v4,hv2,S⟩ F=>?_));subst vv;have H:=H.r1 S n0;refine xJ ⟨⟨_,(th2.1 H (Ns.all ⟨n0,⟨n0,trivial⟩⟩))⟩,?_⟩;refine xE (th2.1 H (Ns.all ⟨n0,⟨n0,trivial⟩⟩)) 4 rfl (by kernel_rfl) (olI isAgg2 F rfl rfl H.sm h4 fun a i3 F=>xJ ⟨⟨_,(th2.1 H (Ns.all ⟨n0,⟨n0,trivial⟩⟩))⟩,?_⟩);refine xE (th2.1 H (Ns.all ⟨n0,⟨n0,trivial⟩⟩)) 11 rfl (by kernel_rfl) (o_build underlying64 zeroValue64 (fun w=>by simp [sizeOf2,sizeOf30];rfl) F rfl rfl rfl rfl rfl (oc rfl (oc (H.l 0 rfl).one on)) rfl rfl fun a F=>xJ ⟨⟨_,(th2.1 H (Ns.all ⟨n0,⟨n0,trivial⟩⟩))⟩,?_⟩);refine xE (th2.1 H (Ns.all ⟨n0,⟨n0,trivial⟩⟩)) 12 rfl (by kernel_rfl) (oWA (vs:=[.int .i64 z2,v4]) sizeOf64 F rfl rfl rfl (H.s [1,0] rfl rfl) (oc rfl (oc ((H.s [1,0] rfl rfl).l 1 rfl).one on)) rfl rfl fun w H=>xJ ⟨⟨_,(th2.1 H (Ns.all ⟨n0,⟨n0,trivial⟩⟩))⟩,?_⟩);refine b_end (by kernel_rfl) (xF (xT ?_));have H:=(th1.1 (th2.1 H (Ns.all ⟨n0,⟨n0,trivial⟩⟩)) (Ns.all ⟨n0,⟨n0,⟨n0,trivial⟩⟩⟩));refine xO F rfl (rv_cA (arr:=#[.int .i64 z2,v4]) F isAgg64 sizeOf64 rfl (H.b 2 rfl)) ?_;obtain rfl:=Option.some.inj hR;exact⟨_,rfl,v4,rfl,(H.s [3] rfl rfl),i3⟩
  refine xEs H (oG F rfl call61 rfl (impl_readDigits_c z3 c4 _ aA i1) (fun a vv w ⟨v5,hv3,S⟩ F=>?_));subst vv;have H:=H.r1 S n0;refine xJ ⟨⟨_,H⟩,?_⟩;refine xE H 3 rfl (by kernel_rfl) ?_;obtain⟨w3,rfl⟩:∃ x,x=w:=⟨_,rfl⟩;have sm3:=H.sm;obtain⟨X3,N3,g3,e3,H,th3,ab2⟩:=(H.s [1,0,2] rfl rfl).fza;have h5:=g3.ld;refine oI underlying30 sizeOf2 F rfl rfl rfl h5 c3 fun a p3 h6 F=>xJ ⟨⟨_,(th3.1 H (Ns.all ⟨n0,⟨n0,trivial⟩⟩))⟩,?_⟩;refine xE (th3.1 H (Ns.all ⟨n0,⟨n0,trivial⟩⟩)) 4 rfl (by kernel_rfl) (olI isAgg2 F rfl rfl H.sm h6 fun a i4 F=>xJ ⟨⟨_,(th3.1 H (Ns.all ⟨n0,⟨n0,trivial⟩⟩))⟩,?_⟩);refine xE (th3.1 H (Ns.all ⟨n0,⟨n0,trivial⟩⟩)) 11 rfl (by kernel_rfl) (o_build underlying64 zeroValue64 (fun w=>by simp [sizeOf2,sizeOf30];rfl) F rfl rfl rfl rfl rfl (oc rfl (oc (H.l 0 rfl).one on)) rfl rfl fun a F=>xJ ⟨⟨_,(th3.1 H (Ns.all ⟨n0,⟨n0,trivial⟩⟩))⟩,?_⟩);refine xE (th3.1 H (Ns.all ⟨n0,⟨n0,trivial⟩⟩)) 12 rfl (by kernel_rfl) (oWA (vs:=[.int .i64 z2,v5]) sizeOf64 F rfl rfl rfl (H.s [1,0] rfl rfl) (oc rfl (oc ((H.s [1,0] rfl rfl).l 1 rfl).one on)) rfl rfl fun w H=>xJ ⟨⟨_,(th3.1 H (Ns.all ⟨n0,⟨n0,trivial⟩⟩))⟩,?_⟩);refine b_end (by kernel_rfl) (xF (xT ?_));have H:=(th1.1 (th3.1 H (Ns.all ⟨n0,⟨n0,trivial⟩⟩)) (Ns.all ⟨n0,⟨n0,⟨n0,trivial⟩⟩⟩));refine xO F rfl (rv_cA (arr:=#[.int .i64 z2,v5]) F isAgg64 sizeOf64 rfl (H.b 2 rfl)) ?_;obtain rfl:=Option.some.inj hR;exact⟨_,rfl,v5,rfl,(H.s [3] rfl rfl),i4⟩
 refine xEs H (oG F rfl call61 rfl (impl_readDigits_c z3 c4 _ aA i1) (fun a vv w ⟨v6,hv4,S⟩ F=>?_));subst vv;have H:=H.r1 S n0;refine xJ ⟨⟨_,H⟩,?_⟩;refine xE H 0 rfl (by kernel_rfl) (oRI (xs:=[.const (.int .i64 1),.const (.int .i64 1),.const (.int .i64 2),.const (.int .i64 2),.const (.int .i64 3),.const (.int .i64 3)]) (l:=[1,1,2,2,3,3]) underlying30 sizeOf2 zeroValue2 rfl F rfl rfl rfl rfl rfl rfl (by simp only[List.forall_mem_cons,List.not_mem_nil,false_implies,implies_true,and_true];exact⟨(show xY (1) by decide),(show xY (1) by decide),(show xY (2) by decide),(show xY (2) by decide),(show xY (3) by decide),(show xY (3) by decide)⟩) H fun a w v7 H F=>xJ ⟨⟨_,H⟩,?_⟩);refine xE H 3 rfl (by kernel_rfl) ?_;obtain⟨w4,rfl⟩:∃ x,x=w:=⟨_,rfl⟩;have sm4:=H.sm;obtain⟨X4,N4,g4,e4,H,th4,ab3⟩:=H.fza;have h7:=g4.ld;refine oI underlying30 sizeOf2 F rfl rfl rfl h7 c3 fun a p4 h8 F=>xJ ⟨⟨_,(th4.1 H (Ns.all ⟨n0,⟨n0,trivial⟩⟩))⟩,?_⟩;refine xE (th4.1 H (Ns.all ⟨n0,⟨n0,trivial⟩⟩)) 4 rfl (by kernel_rfl) (olI isAgg2 F rfl rfl H.sm h8 fun a i5 F=>xJ ⟨⟨_,(th4.1 H (Ns.all ⟨n0,⟨n0,trivial⟩⟩))⟩,?_⟩);refine xE (th4.1 H (Ns.all ⟨n0,⟨n0,trivial⟩⟩)) 11 rfl (by kernel_rfl) (o_build underlying64 zeroValue64 (fun w=>by simp [sizeOf2,sizeOf30];rfl) F rfl rfl rfl rfl rfl (oc rfl (oc (H.l 0 rfl).one on)) rfl rfl fun a F=>xJ ⟨⟨_,(th4.1 H (Ns.all ⟨n0,⟨n0,trivial⟩⟩))⟩,?_⟩);refine xE (th4.1 H (Ns.all ⟨n0,⟨n0,trivial⟩⟩)) 12 rfl (by kernel_rfl) (oWA (vs:=[.int .i64 z2,v6]) sizeOf64 F rfl rfl rfl (H.s [1,0] rfl rfl) (oc rfl (oc ((H.s [1,0] rfl rfl).l 1 rfl).one on)) rfl rfl fun w H=>xJ ⟨⟨_,(th4.1 H (Ns.all ⟨n0,⟨n0,trivial⟩⟩))⟩,?_⟩);refine b_end (by kernel_rfl) (xF (xT ?_));have H:=(th1.1 (th4.1 H (Ns.all ⟨n0,⟨n0,trivial⟩⟩)) (Ns.all ⟨n0,⟨n0,⟨n0,trivial⟩⟩⟩));refine xO F rfl (rv_cA (arr:=#[.int .i64 z2,v6]) F isAgg64 sizeOf64 rfl (H.b 2 rfl)) ?_;obtain rfl:=Option.some.inj hR;exact⟨_,rfl,v6,rfl,(H.s [3] rfl rfl),i5⟩
def kU (x0:Int) (x1:Int):Option Int:=
 vO (σ:=Int) (
  vQ (σ:=Int) (ρ:=Int) (fun(k1:Nat) (s1:Int)=>
   xX (ck (s1*x0)) fun z1=>
   some (.go z1)) x1.toNat 0 1) fun s2=>
 some s2
theorem impl_power_c {B:Nat→Prop} {x0:Int} {x1:Int} (r:Int) (hR:kU x0 x1=some r)  (w0:World) (hN:∀ c,B c→c<w0.heap.size) (hx0:xY x0) (hx1:xY x1):Calls Tryz.prog 117 #[.int .i64 x0,.int .i64 x1] w0 (SaysI r w0):=by
 unfold kU at hR
 refine xV (L:=[(0,.int .i64 x0),(1,.int .i64 x1)]) func117 rfl rfl rfl (sc rfl (sc rfl sn)) (fun a F=>?_);have H:=Sep.start hN;refine xP (xA 1 F rfl fun a F=>qU (xA 1 F rfl fun a F=>xJ (xC ?_)));refine xP (xA 2 F rfl fun a F=>xJ ?_);obtain⟨o1,hR,hk16⟩:=xK hR;refine xW (fun a w=>∃ (s1:Int),o1= .nx s1∧Sk a 14 [(5,.int .i64 s1)]∧Sep [] B w0 w []∧xY s1) ?_ ?_
 ·
  refine xS ?_;obtain⟨fl1,hf1,hR⟩:=zI hR;refine oR (fun g a w=>∃ (k1:Nat) (s2:Int),k1+g=x1.toNat∧vQ fl1 g k1 s2=some o1∧Sk a 14 [(7,.int .i64 (k1:Int)),(0,.int .i64 x0),(5,.int .i64 s2),(6,.int .i64 x1)]∧Sep [] B w0 w []∧xY s2) x1.toNat ?_ ?_
  ·
   exact⟨0,1,(Nat.zero_add _),hR,F.su,H,(show xY (1) by decide)⟩
  intro g1 a w ⟨k1,s2,hd1,hR,F,H,i1⟩
  cases g1 with
  | zero=>
   replace hR:=vT hR;have l1:=kZ hd1;refine xP (xA 1 F rfl fun a F=>xJ (xC (qV F rfl l1 (oO (oQ (oQ (vJ ?_)))))));refine xF ?_;exact⟨s2,(Option.some.inj hR).symm,F.su,H,i1⟩
  | succ g1=>
   obtain⟨ck1,hR,hn1⟩:=vU hR;rw[hf1] at hR;have l1:=kE hd1;refine xP (xA 1 F rfl fun a F=>xJ (xC (qY F rfl l1 (xL (xF (xC ?_))))));have j1:=k64I hd1 hx1;have m1:=inc64I hd1 hx1;refine xS (xR (xA 2 F rfl fun a F=>?_));obtain⟨z1,c32,hR⟩:=xB hR;refine o_mul F rfl rfl rfl c32 fun a F=>xA 1 F rfl fun a F=>qD (qW (xF (xR (qR F rfl rfl rfl m1 fun a F=>xA 1 F rfl fun a F=>xJ ?_))));replace hR:=qZ hR hn1;exact⟨_,Nat.lt_succ_self _,k1+1,z1,(by omega),hR,F.su,H,(ck64 c32)⟩
 intro a w ⟨s1,ho1,F,H,i2⟩;subst ho1;have hR:=xN hk16;refine xF (xP (xA 2 F rfl fun a F=>xJ (xT (xO F rfl (oD F rfl) ?_))));obtain rfl:=Option.some.inj hR;exact⟨⟨rfl,H.bl⟩,i2⟩
def impl_indexOf (x0:Int) (x1:List Int):Option Int:=
 vO (σ:=Int) (
  qK (σ:=Int) (ρ:=Int) (fun(k1:Nat) (x2:Int) (s1:Int)=>
   xX (ck (s1*x0)) fun z1=>
   xX (ck (z1+x2)) fun z2=>
   some (.go z2)) x1 0 0) fun s2=>
 some s2
theorem impl_indexOf_c {B:Nat→Prop} {x0:Int} {x1:List Int} (r:Int) (hR:impl_indexOf x0 x1=some r) {v1:Value} (w0:World) (hN:∀ c,B c→c<w0.heap.size) (hx0:xY x0) (A1:Bo B w0 (Sl 1 xH) v1 x1):Calls Tryz.prog 168 #[.int .i64 x0,v1] w0 (SaysI r w0):=by
 unfold impl_indexOf at hR
 refine xV (L:=[(0,.int .i64 x0),(1,v1)]) func168 rfl rfl rfl (sc rfl (sc rfl sn)) (fun a F=>?_);have H:=Sep.start hN;refine xP (xA 1 F rfl fun a F=>qU (xA 1 F rfl fun a F=>xJ (xC ?_)));refine xP (xA 1 F rfl fun a F=>oL underlying30 F rfl rfl A1 fun a i1 F=>xA 1 F rfl fun a F=>xJ ?_);obtain⟨o1,hR,hk1⟩:=xK hR;refine xW (fun a w=>∃ (s1:Int),o1= .nx s1∧Sk a 21 [(5,.int .i64 s1)]∧Sep [] B w0 w []∧xY s1) ?_ ?_
 ·
  refine xS ?_;obtain⟨fl1,hf1,hR⟩:=qE hR;refine oR (fun g a w=>∃ (k1:Nat) (rest32:List Int) (s2:Int),(k1≤x1.length∧x1.drop k1=rest32)∧rest32.length=g∧qK fl1 rest32 k1 s2=some o1∧Sk a 21 [(10,.int .i64 (k1:Int)),(0,.int .i64 x0),(5,.int .i64 s2),(8,v1),(9,.int .i64 (x1.length:Int))]∧Sep [] B w0 w []∧xY s2) x1.length ?_ ?_
  ·
   exact⟨0,x1,0,⟨Nat.zero_le _,rfl⟩,rfl,hR,F.su,H,(show xY (0) by decide)⟩
  intro g1 a w ⟨k1,rest32,s2,hd1,hg1,hR,F,H,i2⟩
  cases rest32 with
  | nil=>
   replace hR:=qG hR;have q1:=qH hd1.1 hd1.2;have l1:=vA q1;refine xP (xA 1 F rfl fun a F=>xJ (xC (qV F rfl l1 (oO (oQ (oQ (vJ ?_)))))));refine xF ?_;exact⟨s2,(Option.some.inj hR).symm,F.su,H,i2⟩
  | cons x2 rest32=>
   subst hg1;replace hd1:=oH hd1.2;have y1:=oV hd1.2.1;obtain⟨ck1,hR,hn1⟩:=oU hR;rw[hf1] at hR;have l1:=qP hd1.1;refine xP (xA 1 F rfl fun a F=>xJ (xC (qY F rfl l1 (xL (xF (xC ?_))))));have j1:=k64 (Nat.le_of_lt hd1.1) i1;have m1:=zA hd1.1 i1;refine xS (xP (oI underlying30 sizeOf2 F rfl rfl rfl A1 y1 fun a p1 h1 F=>olI isAgg2 F rfl rfl H.sm h1 fun a i3 F=>xA 1 F rfl fun a F=>xJ (xR (xA 2 F rfl fun a F=>?_))));obtain⟨z1,c1,hR⟩:=xB hR;refine o_mul F rfl rfl rfl c1 fun a F=>xA 1 F rfl fun a F=>?_;obtain⟨z2,c2,hR⟩:=xB hR;refine kX F rfl rfl rfl c2 fun a F=>xA 1 F rfl fun a F=>qD (qW (xF (xR (qR F rfl rfl rfl m1 fun a F=>xA 1 F rfl fun a F=>xJ ?_))));replace hR:=qZ hR hn1;exact⟨_,Nat.lt_succ_self _,k1+1,rest32,z2,⟨hd1.1,hd1.2.2⟩,rfl,hR,F.su,H,(ck64 c2)⟩
 intro a w ⟨s1,ho1,F,H,i4⟩;subst ho1;have hR:=xN hk1;refine xF (xP (xA 2 F rfl fun a F=>xJ (xT (xO F rfl (oD F rfl) ?_))));obtain rfl:=Option.some.inj hR;exact⟨⟨rfl,H.bl⟩,i4⟩
def zF (N:Nat) (x0:Int) (x1:Int) (x2:Int):Option (List Int):=
 xX (mkz (0:Int) x1) fun z1=>
 xX (ck (x1 - 1)) fun z2=>
 vO (σ:=Int×Int×(List Int)) (
  whl (σ:=Int×Int×(List Int)) (ρ:=(List Int)) (fun(s:Int×Int×(List Int))=>
    match s with
    | (s1,s2,s64)=>
    if (decide (0≤s2)) then
     xX (rm s1 x0) fun z3=>
     xX (ix s64 s2) fun z4=>
     xX (dv s1 x0) fun z5=>
     xX (ck (s2 - 1)) fun z6=>
     some (.go (z5,z6,(s64.set (s2).toNat z3)))
    else
     some (.brk (s1,s2,s64))) N (x2,z2,z1)) fun(s3,s4,s5)=>
 some s5
theorem impl_listOf_c {B:Nat→Prop} {N:Nat} {x0:Int} {x1:Int} {x2:Int} (r:(List Int)) (hR:zF N x0 x1 x2=some r)  (w0:World) (hN:∀ c,B c→c<w0.heap.size) (hx0:xY x0) (hx1:xY x1) (hx2:xY x2):Calls Tryz.prog 118 #[.int .i64 x0,.int .i64 x1,.int .i64 x2] w0 (Gv (fun v w'=>∃ (v1':Value),v=v1'∧Sep [] B w0 w' [rl 1 xH 2 v1' r])):=by
 unfold zF at hR
 refine xV (L:=[(0,.int .i64 x0),(1,.int .i64 x1),(2,.int .i64 x2)]) func118 rfl rfl rfl (sc rfl (sc rfl (sc rfl sn))) (fun a F=>?_);have H:=Sep.start hN;refine xP (xA 1 F rfl fun a F=>qU (xA 1 F rfl fun a F=>?_));obtain⟨z1,c1,hR⟩:=xB hR;refine oRM (sz:=1) (R:=xH) (z:=(.int .i64 0)) (bytes:=8) underlying30 (by kernel_rfl) rfl (by decide) (by decide) (fun w=>⟨rfl,by decide,rfl⟩) F rfl rfl rfl c1 H fun a w v1 H F=>xA 1 F rfl fun a F=>xJ (xC (xP (xA 1 F rfl fun a F=>?_)));obtain⟨z2,c16,hR⟩:=xB hR;refine o_sub F rfl rfl rfl c16 fun a F=>xA 1 F rfl fun a F=>xJ ?_;obtain⟨o1,hR,hk1⟩:=xK hR;refine xW (fun a w=>∃ (s1:Int) (s2:Int) (s3:List Int) (v2:Value),o1= .nx (s1,s2,s3)∧Sk a 27 [(7,v2)]∧Sep [] B w0 w [rl 1 xH 2 v2 s3]∧xY s1∧xY s2) ?_ ?_
 ·
  refine xS ?_;obtain⟨fl1,hf1,hR⟩:=whl_gen hR;refine oR (fun g a w=>∃ (s4:Int) (s5:Int) (s64:List Int) (v3:Value),whl fl1 g (s4,s5,s64)=some o1∧Sk a 27 [(0,.int .i64 x0),(2,.int .i64 s4),(7,v3),(8,.int .i64 s5)]∧Sep [] B w0 w [rl 1 xH 2 v3 s64]∧xY s4∧xY s5) N ?_ ?_
  ·
   exact⟨x2,z2,z1,v1,hR,F.su,H,hx2,(ck64 c16)⟩
  intro g1 a w ⟨s4,s5,s64,v3,hR,F,H,i1,i2⟩;obtain⟨ck1,t1,hg1,hR,hn1⟩:=zU hR;rw[hf1] at hR;refine xC (xP (xA 2 F rfl fun a F=>xJ (qT F rfl (fun hb1=>?_) (fun hb1=>?_))))
  ·
   replace hR:=vS hb1 hR;refine xL (xF (xC (xS (xP (xA 4 F rfl fun a F=>?_)))));obtain⟨z3,c2,hR⟩:=xB hR;refine o_rem F rfl rfl rfl c2 (fun a F=>?_);obtain⟨z4,c3,hR⟩:=xB hR;refine oRl underlying30 sizeOf2 F rfl rfl rfl H 0 rfl c3 (fun a p1 h1 rp1 F=>?_);have H:=H.lw;refine oS sizeOf2 F rfl rfl rfl H rp1 (ix_lt c3) (Eo.int (rm64 c2 i1 hx0)) rfl rfl (fun w H=>?_);have H:=H.tl;refine xJ (xR (xA 2 F rfl fun a F=>?_));obtain⟨z5,c4,hR⟩:=xB hR;refine o_quo F rfl rfl rfl c4 fun a F=>xA 1 F rfl fun a F=>qD (qW (xF (xR (xA 1 F rfl fun a F=>?_))));obtain⟨z6,c5,hR⟩:=xB hR;refine o_sub F rfl rfl rfl c5 fun a F=>xA 1 F rfl fun a F=>xJ ?_;replace hR:=qZ hR hn1;exact⟨t1,(by omega),z5,z6,(s64.set (s5).toNat z3),v3,hR,F.su,H,(dv64 c4),(ck64 c5)⟩
  replace hR:=vR hb1 hR;refine oO (oQ (oQ ?_));replace hR:=l_brk hR hn1;refine vJ (xF ?_);exact⟨s4,s5,s64,v3,(Option.some.inj hR).symm,F.su,H,i1,i2⟩
 intro a w ⟨s1,s2,s3,v2,ho1,F,H,i3,i4⟩;subst ho1;have hR:=xN hk1;refine xF (xP (xA 2 F rfl fun a F=>xJ (xT (xO F rfl (oD F rfl) ?_))));obtain rfl:=Option.some.inj hR;exact⟨_,rfl,v2,rfl,H⟩
def impl_made (x0:Int) (x1:Op) (x2:List (List Int)):Option (List Int):=
 xX (ix x2 0) fun z1=>
 xX (mkz (0:Int) (z1.length:Int)) fun z2=>
 vO (σ:=(List Int)) (
  qK (σ:=(List Int)) (ρ:=(List Int)) (fun(k1:Nat) (x3:Int) (s1:(List Int))=>
   vO (σ:=Int) (
    qK (σ:=Int) (ρ:=(Ctl ((List Int)) (List Int))) (fun(k2:Nat) (x4:(List Int)) (s2:Int)=>
     xX (ck (s2*x0)) fun z3=>
     xX (ix x4 (k1:Int)) fun z4=>
     xX (ck (z3+z4)) fun z5=>
     some (.go z5)) x2 0 0) fun s3=>
   xX (ix x1.table s3) fun z6=>
   xX (ix s1 (k1:Int)) fun z7=>
   some (.go (s1.set ((k1:Int)).toNat z6))) z2 0 z2) fun s4=>
 some s4
theorem impl_made_c {B:Nat→Prop} {x0:Int} {x1:Op} {x2:List (List Int)} (r:(List Int)) (hR:impl_made x0 x1 x2=some r) {v1:Value} {v2:Value} (w0:World) (hN:∀ c,B c→c<w0.heap.size) (hx0:xY x0) (A1:Bo B w0 (zC 2 ROp) v1 x1) (A2:Bo B w0 (Sl 1 (vY 1 xH)) v2 x2):Calls Tryz.prog 169 #[.int .i64 x0,v1,v2] w0 (Gv (fun v w'=>∃ (v1':Value),v=v1'∧Sep [] B w0 w' [rl 1 xH 2 v1' r])):=by
 unfold impl_made at hR
 refine xV (L:=[(0,.int .i64 x0),(1,v1),(2,v2)]) func169 rfl rfl rfl (sc rfl (sc rfl (sc rfl sn))) (fun a F=>?_);have H:=Sep.start hN;refine xP ?_;obtain⟨v3,rfl,i1,h1⟩:=ROp.o A1;refine oX F rfl rfl rfl H fun a w b1 H F=>xA 1 F rfl fun a F=>qU (xA 1 F rfl fun a F=>?_);obtain⟨z1,c16,hR⟩:=xB hR;refine oI underlying67 sizeOf30 F rfl rfl rfl A2 c16 fun a p1 h2 F=>olS isAgg30 F rfl rfl H.sm h2 fun a v4 h3 F=>oL underlying30 F rfl rfl h3 (fun a i2 F=>?_);obtain⟨z2,c1,hR⟩:=xB hR;refine oRM (sz:=1) (R:=xH) (z:=(.int .i64 0)) (bytes:=8) underlying30 (by kernel_rfl) rfl (by decide) (by decide) (fun w=>⟨rfl,by decide,rfl⟩) F rfl rfl rfl c1 H fun a w v5 H F=>xA 1 F rfl fun a F=>xJ (xC (xP (xA 1 F rfl fun a F=>oL underlying30 F rfl rfl (H.l 0 rfl) fun a i3 F=>xA 1 F rfl fun a F=>qD ?_)));refine xF ?_;obtain⟨o1,hR,hk1⟩:=xK hR;refine xW (fun a w=>∃ (s1:List Int) (v6:Value),o1= .nx s1∧Sk a 47 [(7,v6)]∧Sep [] B w0 w [rl 1 xH 2 v6 s1]) ?_ ?_
 ·
  refine xS ?_;obtain⟨fl1,hf1,hR⟩:=qE hR;refine oR (fun g a w=>∃ (k1:Nat) (t1:List Int) (s2:List Int) (v7:Value),(k1≤z2.length∧z2.drop k1=t1)∧t1.length=g∧qK fl1 t1 k1 s2=some o1∧Sk a 47 [(19,.int .i64 (k1:Int)),(0,.int .i64 x0),(2,v2),(4,.pointer (some ⟨b1,0,none⟩)),(7,v7),(18,.int .i64 (z2.length:Int))]∧Sep [] B w0 w [rl 1 xH 2 v7 s2,bx b1 [.int .i64 x1.arity,v3] 64]) z2.length ?_ ?_
  ·
   exact⟨0,z2,z2,v5,⟨Nat.zero_le _,rfl⟩,rfl,hR,F.su,H⟩
  intro g1 a w ⟨k1,t1,s2,v7,hd1,hg1,hR,F,H⟩
  cases t1 with
  | nil=>
   replace hR:=qG hR;have q1:=qH hd1.1 hd1.2;have l1:=vA q1;refine xP (xA 1 F rfl fun a F=>xJ (xC (qV F rfl l1 (oO (oQ (oQ (vJ ?_)))))));refine xF ?_;exact⟨s2,v7,(Option.some.inj hR).symm,F.su,(H.s [0] rfl rfl)⟩
  | cons x3 t1=>
   subst hg1;replace hd1:=oH hd1.2;have y1:=oV hd1.2.1;obtain⟨ck1,hR,hn1⟩:=oU hR;rw[hf1] at hR;have l1:=qP hd1.1;refine xP (xA 1 F rfl fun a F=>xJ (xC (qY F rfl l1 (xL (xF (xC ?_))))));have j1:=k64 (Nat.le_of_lt hd1.1) i3;have m1:=zA hd1.1 i3;refine xS (xP (xA 2 F rfl fun a F=>qU (xA 1 F rfl fun a F=>qD ?_)));refine xF (xC (xP (xA 1 F rfl fun a F=>oL underlying67 F rfl rfl A2 fun a i4 F=>xA 1 F rfl fun a F=>xJ ?_)));obtain⟨o2,hR,hk2⟩:=xK hR;refine xW (fun a w=>∃ (s3:Int),o2= .nx s3∧Sk a 47 [(0,.int .i64 x0),(2,v2),(4,.pointer (some ⟨b1,0,none⟩)),(7,v7),(8,.int .i64 (k1:Int)),(9,.int .i64 s3),(18,.int .i64 (z2.length:Int)),(19,.int .i64 (k1:Int))]∧Sep [] B w0 w [rl 1 xH 2 v7 s2,bx b1 [.int .i64 x1.arity,v3] 64]∧xY s3) ?_ ?_
   ·
    refine xS ?_;obtain⟨fl2,hf2,hR⟩:=qE hR;refine oR (fun g a w=>∃ (k2:Nat) (t2:List (List Int)) (s4:Int),(k2≤x2.length∧x2.drop k2=t2)∧t2.length=g∧qK fl2 t2 k2 s4=some o2∧Sk a 47 [(24,.int .i64 (k2:Int)),(0,.int .i64 x0),(2,v2),(4,.pointer (some ⟨b1,0,none⟩)),(7,v7),(8,.int .i64 (k1:Int)),(9,.int .i64 s4),(18,.int .i64 (z2.length:Int)),(19,.int .i64 (k1:Int)),(22,v2),(23,.int .i64 (x2.length:Int))]∧Sep [] B w0 w [rl 1 xH 2 v7 s2,bx b1 [.int .i64 x1.arity,v3] 64]∧xY s4) x2.length ?_ ?_
    ·
     exact⟨0,x2,0,⟨Nat.zero_le _,rfl⟩,rfl,hR,F.su,H,(show xY (0) by decide)⟩
    intro g2 a w ⟨k2,t2,s4,hd2,hg2,hR,F,H,i5⟩
    cases t2 with
    | nil=>
     replace hR:=qG hR;have q2:=qH hd2.1 hd2.2;have l2:=vA q2;refine xP (xA 1 F rfl fun a F=>xJ (xC (qV F rfl l2 (oO (oQ (oQ (vJ ?_)))))));refine xF ?_;exact⟨s4,(Option.some.inj hR).symm,F.su,H,i5⟩
    | cons x4 t2=>
     subst hg2;replace hd2:=oH hd2.2;have y2:=oV hd2.2.1;obtain⟨ck2,hR,hn2⟩:=oU hR;rw[hf2] at hR;have l2:=qP hd2.1;refine xP (xA 1 F rfl fun a F=>xJ (xC (qY F rfl l2 (xL (xF (xC ?_))))));have j2:=k64 (Nat.le_of_lt hd2.1) i4;have m2:=zA hd2.1 i4;refine xS (xP (oI underlying67 sizeOf30 F rfl rfl rfl A2 y2 fun a p2 h4 F=>olS isAgg30 F rfl rfl H.sm h4 fun a v8 h5 F=>xA 1 F rfl fun a F=>xJ (xR (xA 2 F rfl fun a F=>?_))));obtain⟨z3,c2,hR⟩:=xB hR;refine o_mul F rfl rfl rfl c2 fun a F=>xA 2 F rfl fun a F=>?_;obtain⟨z4,c3,hR⟩:=xB hR;refine oI underlying30 sizeOf2 F rfl rfl rfl h5 c3 fun a p3 h6 F=>olI isAgg2 F rfl rfl H.sm h6 (fun a i6 F=>?_);obtain⟨z5,c4,hR⟩:=xB hR;refine kX F rfl rfl rfl c4 fun a F=>xA 1 F rfl fun a F=>qD (qW (xF (xR (qR F rfl rfl rfl m2 fun a F=>xA 1 F rfl fun a F=>xJ ?_))));replace hR:=qZ hR hn2;exact⟨_,Nat.lt_succ_self _,k2+1,t2,z5,⟨hd2.1,hd2.2.2⟩,rfl,hR,F.su,H,(ck64 c4)⟩
   intro a w ⟨s3,ho1,F,H,i7⟩;subst ho1;have hR:=xN hk2;refine xF (xR (xA 2 F rfl fun a F=>oY fa64_1 F rfl rfl rfl fun a F=>oB isAgg30 F rfl rfl (H.b 1 rfl) rfl fun a F=>xA 1 F rfl fun a F=>?_));obtain⟨z6,c5,hR⟩:=xB hR;refine oI underlying30 sizeOf2 F rfl rfl rfl h1 c5 fun a p4 h7 F=>olI isAgg2 F rfl rfl H.sm h7 (fun a i8 F=>?_);obtain⟨z7,c6,hR⟩:=xB hR;refine oRl underlying30 sizeOf2 F rfl rfl rfl H 0 rfl c6 (fun a p5 h8 rp1 F=>?_);have H:=H.lw;refine oS sizeOf2 F rfl rfl rfl H rp1 (ix_lt c6) (Eo.int i8) rfl rfl (fun w H=>?_);have H:=H.tl;refine qD (qW (xF (xR (qR F rfl rfl rfl m1 fun a F=>xA 1 F rfl fun a F=>xJ ?_))));replace hR:=qZ hR hn1;exact⟨_,Nat.lt_succ_self _,k1+1,t1,(s2.set ((k1:Int)).toNat z6),v7,⟨hd1.1,hd1.2.2⟩,rfl,hR,F.su,H⟩
 intro a w ⟨s1,v6,ho2,F,H⟩;subst ho2;have hR:=xN hk1;refine xF (xP (xA 2 F rfl fun a F=>xJ (xT (xO F rfl (oD F rfl) ?_))));obtain rfl:=Option.some.inj hR;exact⟨_,rfl,v6,rfl,H⟩
def impl_broken (N:Nat) (x0:Int) (x1:Op) (x2:Rel):Option ((List (List Int))×(List Int)):=
 xX (kU x0 x2.arity) fun z1=>
 if ((x2.tuples.length:Int)==z1) then
  some ([],[])
 else
  xX (mkz (false:Bool) z1) fun z2=>
  vO (σ:=(List Bool)) (
   qK (σ:=(List Bool)) (ρ:=(List (List Int))×(List Int)) (fun(k1:Nat) (x3:(List Int)) (s1:(List Bool))=>
    xX (impl_indexOf x0 x3) fun z3=>
    xX (ix s1 z3) fun z4=>
    some (.go (s1.set (z3).toNat true))) x2.tuples 0 z2) fun s2=>
  xX (kU (x2.tuples.length:Int) x1.arity) fun z5=>
  vO (σ:=Unit) (
   vQ (σ:=Unit) (ρ:=(List (List Int))×(List Int)) (fun(k2:Nat) (s:Unit)=>
     match s with
     | _=>
     xX (zF N (x2.tuples.length:Int) x1.arity (k2:Int)) fun z6=>
     vO (σ:=(List (List Int))) (
      qK (σ:=(List (List Int))) (ρ:=(Ctl (Unit) ((List (List Int))×(List Int)))) (fun(k3:Nat) (x4:Int) (s3:(List (List Int)))=>
       xX (ix x2.tuples x4) fun z7=>
       xX (ap s3 ([z7])) fun z8=>
       some (.go z8)) z6 0 []) fun s4=>
     xX (impl_made x0 (Op.mk x1.arity x1.table) s4) fun z9=>
     xX (impl_indexOf x0 z9) fun z10=>
     xX (ix s2 z10) fun z11=>
     if (!z11) then
      xX (nev z9) fun z12=>
      some (.ret (s4,z9))
     else
      some (.go ())) z5.toNat 0 ()) fun _=>
  some ([],[])
theorem impl_broken_c {B:Nat→Prop} {N:Nat} {x0:Int} {x1:Op} {x2:Rel} (r:(List (List Int))×(List Int)) (hR:impl_broken N x0 x1 x2=some r) {v1:Value} {v2:Value} (w0:World) (hN:∀ c,B c→c<w0.heap.size) (hx0:xY x0) (A1:Bo B w0 (zC 2 ROp) v1 x1) (A2:Bo B w0 (zC 2 oM) v2 x2):Calls Tryz.prog 138 #[.int .i64 x0,v1,v2] w0 (Gv (fun v w'=>∃ (v1':Value) (v2':Value),v= .tuple #[v1',v2']∧Sep [] B w0 w' [rw B 1 (vY 1 xH) 30 v1' r.1,rl 1 xH 2 v2' r.2]∧(r.2=[]→v2'= .slice none 0 0))):=by
 unfold impl_broken at hR
 refine xV (L:=[(0,.int .i64 x0),(1,v1),(2,v2)]) func138 rfl rfl rfl (sc rfl (sc rfl (sc rfl sn))) (fun a F=>?_);have H:=Sep.start hN;refine xP ?_;obtain⟨v3,rfl,i1,h1⟩:=ROp.o A1;refine oX F rfl rfl rfl H (fun a w b1 H F=>?_);obtain⟨v16,rfl,i2,h2⟩:=oM.o A2;refine oX F rfl rfl rfl H fun a w b2 H F=>xA 2 F rfl fun a F=>qU (oY vX F rfl rfl rfl fun a F=>oB isAgg67 F rfl rfl (H.b 0 rfl) rfl fun a F=>oL underlying67 F rfl rfl h2 fun a i3 F=>xA 1 F rfl fun a F=>?_);refine xJ (xC (xP (xA 2 F rfl fun a F=>oY fa69_0 F rfl rfl rfl fun a F=>oB isAgg2 F rfl rfl (H.b 0 rfl) rfl (fun a F=>?_))));obtain⟨z1,c1,hR⟩:=xB hR;refine oKI F rfl call117 rfl H (impl_power_c z1 c1 _ aA hx0 i2) fun a w H iz1 F=>xA 1 F rfl fun a F=>xJ (qT F rfl (fun hb1=>?_) (fun hb1=>?_))
 ·
  replace hR:=vS hb1 hR;refine xP (xA 2 F rfl fun a F=>xJ (xT (oE (zV F rfl (oD F rfl) (oD F rfl) ?_))));obtain rfl:=Option.some.inj hR;exact⟨_,rfl,(.slice none 0 0),(.slice none 0 0),rfl,((((H.nl 1 (vY 1 xH) 30).nl 1 xH 2).s [1,0,2,3] rfl rfl).lw.wk.s [0,1] rfl rfl),(fun _=>rfl)⟩
 replace hR:=vR hb1 hR;refine xL (xF (xP (xA 1 F rfl fun a F=>oY fa69_0 F rfl rfl rfl fun a F=>oB isAgg2 F rfl rfl (H.b 0 rfl) rfl fun a F=>oKI F rfl call117 rfl H (impl_power_c z1 c1 _ aA hx0 i2) (fun a w H iz1 F=>?_))));obtain⟨z2,c2,hR⟩:=xB hR;refine oRM (sz:=1) (R:=RBool) (z:=(.bool false)) (bytes:=1) underlying203 (by kernel_rfl) rfl (by decide) (by decide) (fun w=>⟨rfl,rfl⟩) F rfl rfl rfl c2 H fun a w v4 H F=>xA 1 F rfl fun a F=>xJ (xC (xP (oY vX F rfl rfl rfl fun a F=>oB isAgg67 F rfl rfl (H.b 1 rfl) rfl fun a F=>oL underlying67 F rfl rfl h2 fun a i4 F=>xA 1 F rfl fun a F=>?_)));refine xJ ?_;obtain⟨o1,hR,hk1⟩:=xK hR;refine xW (fun a w=>∃ (s1:List Bool) (v5:Value),o1= .nx s1∧Sk a 85 [(0,.int .i64 x0),(4,.pointer (some ⟨b1,0,none⟩)),(5,.pointer (some ⟨b2,0,none⟩)),(8,.int .i64 (x2.tuples.length:Int)),(9,v5)]∧Sep [] B w0 w [rl 1 RBool 4 v5 s1,bx b2 [.int .i64 x2.arity,v16] 69,bx b1 [.int .i64 x1.arity,v3] 64]) ?_ ?_
 ·
  refine xS ?_;obtain⟨fl1,hf1,hR⟩:=qE hR;refine oR (fun g a w=>∃ (k1:Nat) (t1:List (List Int)) (s2:List Bool) (v6:Value),(k1≤x2.tuples.length∧x2.tuples.drop k1=t1)∧t1.length=g∧qK fl1 t1 k1 s2=some o1∧Sk a 85 [(34,.int .i64 (k1:Int)),(0,.int .i64 x0),(4,.pointer (some ⟨b1,0,none⟩)),(5,.pointer (some ⟨b2,0,none⟩)),(8,.int .i64 (x2.tuples.length:Int)),(9,v6),(32,v16),(33,.int .i64 (x2.tuples.length:Int))]∧Sep [] B w0 w [rl 1 RBool 4 v6 s2,bx b2 [.int .i64 x2.arity,v16] 69,bx b1 [.int .i64 x1.arity,v3] 64]) x2.tuples.length ?_ ?_
  ·
   exact⟨0,x2.tuples,z2,v4,⟨Nat.zero_le _,rfl⟩,rfl,hR,F.su,H⟩
  intro g1 a w ⟨k1,t1,s2,v6,hd1,hg1,hR,F,H⟩
  cases t1 with
  | nil=>
   replace hR:=qG hR;have q1:=qH hd1.1 hd1.2;have l1:=vA q1;refine xP (xA 1 F rfl fun a F=>xJ (xC (qV F rfl l1 (oO (oQ (oQ (vJ ?_)))))));refine xF ?_;exact⟨s2,v6,(Option.some.inj hR).symm,F.su,H⟩
  | cons x3 t1=>
   subst hg1;replace hd1:=oH hd1.2;have y1:=oV hd1.2.1;obtain⟨ck1,hR,hn1⟩:=oU hR;rw[hf1] at hR;have l1:=qP hd1.1;refine xP (xA 1 F rfl fun a F=>xJ (xC (qY F rfl l1 (xL (xF (xC ?_))))));have j1:=k64 (Nat.le_of_lt hd1.1) i4;have m1:=zA hd1.1 i4;refine xS (xP (oI underlying67 sizeOf30 F rfl rfl rfl h2 y1 fun a p1 h3 F=>olS isAgg30 F rfl rfl H.sm h3 fun a v7 h4 F=>xA 1 F rfl fun a F=>xJ (xR (xA 2 F rfl fun a F=>?_))));refine xA 1 F rfl fun a F=>?_;obtain⟨z3,c3,hR⟩:=xB hR;refine oKI F rfl call168 rfl H (impl_indexOf_c z3 c3 _ aA hx0 (H.a h4)) (fun a w H iz2 F=>?_);obtain⟨z4,c4,hR⟩:=xB hR;refine oRl underlying203 sizeOf4 F rfl rfl rfl H 0 rfl c4 (fun a p2 h5 rp1 F=>?_);have H:=H.lw;refine oS sizeOf4 F rfl rfl rfl H rp1 (ix_lt c4) Eo.bool rfl rfl (fun w H=>?_);have H:=H.tl;refine qD (qW (xF (xR (qR F rfl rfl rfl m1 fun a F=>xA 1 F rfl fun a F=>xJ ?_))));replace hR:=qZ hR hn1;exact⟨_,Nat.lt_succ_self _,k1+1,t1,(s2.set (z3).toNat true),v6,⟨hd1.1,hd1.2.2⟩,rfl,hR,F.su,H⟩
 intro a w ⟨s1,v5,ho1,F,H⟩;subst ho1;have hR:=xN hk1;refine xF (xC (xP (xA 1 F rfl fun a F=>oY fa64_0 F rfl rfl rfl fun a F=>oB isAgg2 F rfl rfl (H.b 2 rfl) rfl (fun a F=>?_))));obtain⟨z5,c5,hR⟩:=xB hR;refine oKI F rfl call117 rfl H (impl_power_c z5 c5 _ aA i3 i1) fun a w H iz3 F=>xA 1 F rfl fun a F=>xJ ?_;obtain⟨o2,hR,hk2⟩:=xK hR;refine xW (fun a w=>o2= .nx ()∧Sk a 85 []∧Sep [] B w0 w []) ?_ ?_
 ·
  refine xS ?_;obtain⟨fl2,hf2,hR⟩:=zI hR;refine oR (fun g a w=>∃ (k2:Nat),k2+g=z5.toNat∧vQ fl2 g k2 ()=some o2∧Sk a 85 [(48,.int .i64 (k2:Int)),(0,.int .i64 x0),(4,.pointer (some ⟨b1,0,none⟩)),(5,.pointer (some ⟨b2,0,none⟩)),(8,.int .i64 (x2.tuples.length:Int)),(9,v5),(47,.int .i64 z5)]∧Sep [] B w0 w [rl 1 RBool 4 v5 s1,bx b2 [.int .i64 x2.arity,v16] 69,bx b1 [.int .i64 x1.arity,v3] 64]) z5.toNat ?_ ?_
  ·
   exact⟨0,(Nat.zero_add _),hR,F.su,H⟩
  intro g2 a w ⟨k2,hd2,hR,F,H⟩
  cases g2 with
  | zero=>
   replace hR:=vT hR;have l2:=kZ hd2;refine xP (xA 1 F rfl fun a F=>xJ (xC (qV F rfl l2 (oO (oQ (oQ (vJ ?_)))))));refine xF ?_;exact⟨(Option.some.inj hR).symm,F.sub sn,(H.s [] rfl rfl)⟩
  | succ g2=>
   obtain⟨ck2,hR,hn2⟩:=vU hR;rw[hf2] at hR;have l2:=kE hd2;refine xP (xA 1 F rfl fun a F=>xJ (xC (qY F rfl l2 (xL (xF (xC ?_))))));have j2:=k64I hd2 iz3;have m2:=inc64I hd2 iz3;refine xS (xP (xA 2 F rfl fun a F=>qU (oR0 (R:=(vY 1 xH)) underlying67 sizeOf30 F rfl H fun a w v8 H F=>xA 1 F rfl fun a F=>?_)));refine xJ (xC (xP (xA 1 F rfl fun a F=>oY fa64_0 F rfl rfl rfl fun a F=>oB isAgg2 F rfl rfl (H.b 3 rfl) rfl fun a F=>xA 1 F rfl fun a F=>?_)));obtain⟨z6,c6,hR⟩:=xB hR;refine oG F rfl call118 rfl (impl_listOf_c z6 c6 _ aA i3 i1 j2) (fun a vv w ⟨v9,hv1,S⟩ F=>?_);subst vv;have H:=H.r1 S n0;refine oL underlying30 F rfl rfl (H.l 0 rfl) fun a i5 F=>xA 1 F rfl fun a F=>xJ ?_;obtain⟨o3,hR,hk3⟩:=xK hR;refine xW (fun a w=>∃ (s3:List (List Int)) (v10:Value),o3= .nx s3∧Sk a 85 [(0,.int .i64 x0),(4,.pointer (some ⟨b1,0,none⟩)),(5,.pointer (some ⟨b2,0,none⟩)),(8,.int .i64 (x2.tuples.length:Int)),(9,v5),(13,v10),(47,.int .i64 z5),(48,.int .i64 (k2:Int))]∧Sep [] B w0 w [rw B 1 (vY 1 xH) 30 v10 s3,rl 1 RBool 4 v5 s1,bx b2 [.int .i64 x2.arity,v16] 69,bx b1 [.int .i64 x1.arity,v3] 64]) ?_ ?_
   ·
    refine xS ?_;obtain⟨fl3,hf3,hR⟩:=qE hR;refine oR (fun g a w=>∃ (k3:Nat) (t2:List Int) (s4:List (List Int)) (v11:Value),(k3≤z6.length∧z6.drop k3=t2)∧t2.length=g∧qK fl3 t2 k3 s4=some o3∧Sk a 85 [(58,.int .i64 (k3:Int)),(0,.int .i64 x0),(4,.pointer (some ⟨b1,0,none⟩)),(5,.pointer (some ⟨b2,0,none⟩)),(8,.int .i64 (x2.tuples.length:Int)),(9,v5),(13,v11),(47,.int .i64 z5),(48,.int .i64 (k2:Int)),(56,v9),(57,.int .i64 (z6.length:Int))]∧Sep [] B w0 w [rl 1 xH 2 v9 z6,rw B 1 (vY 1 xH) 30 v11 s4,rl 1 RBool 4 v5 s1,bx b2 [.int .i64 x2.arity,v16] 69,bx b1 [.int .i64 x1.arity,v3] 64]) z6.length ?_ ?_
    ·
     exact⟨0,z6,[],v8,⟨Nat.zero_le _,rfl⟩,rfl,hR,F.su,((H.s [1,0,2,3,4] rfl rfl).lw.wk.s [1,0,2,3,4] rfl rfl)⟩
    intro g3 a w ⟨k3,t2,s4,v11,hd3,hg2,hR,F,H⟩
    cases t2 with
    | nil=>
     replace hR:=qG hR;have q2:=qH hd3.1 hd3.2;have l3:=vA q2;refine xP (xA 1 F rfl fun a F=>xJ (xC (qV F rfl l3 (oO (oQ (oQ (vJ ?_)))))));refine xF ?_;exact⟨s4,v11,(Option.some.inj hR).symm,F.su,(H.s [1,2,3,4] rfl rfl)⟩
    | cons x4 t2=>
     subst hg2;replace hd3:=oH hd3.2;have y2:=oV hd3.2.1;obtain⟨ck3,hR,hn3⟩:=oU hR;rw[hf3] at hR;have l3:=qP hd3.1;refine xP (xA 1 F rfl fun a F=>xJ (xC (qY F rfl l3 (xL (xF (xC ?_))))));have j3:=k64 (Nat.le_of_lt hd3.1) i5;have m3:=zA hd3.1 i5;refine xS (xP (oI underlying30 sizeOf2 F rfl rfl rfl (H.l 0 rfl) y2 fun a p3 h6 F=>olI isAgg2 F rfl rfl (Sm.refl _ _) h6 fun a i6 F=>xA 1 F rfl fun a F=>xJ (xR (xA 1 F rfl fun a F=>oY vX F rfl rfl rfl (fun a F=>?_)))));refine oB isAgg67 F rfl rfl (H.b 3 rfl) rfl fun a F=>xA 1 F rfl fun a F=>?_;obtain⟨z7,c7,hR⟩:=xB hR;refine oI underlying67 sizeOf30 F rfl rfl rfl h2 c7 fun a p4 h7 F=>olS isAgg30 F rfl rfl H.sm h7 fun a v13 h8 F=>oR1 (R:=(vY 1 xH)) (y:=z7) (N1:=B) underlying67 sizeOf30 zeroValue30 rfl rfl F rfl rfl H n1 (Eo.sl (H.u h8)) (fun a w v14 H F=>?_);obtain⟨z8,c8,hR⟩:=xB hR;refine oP (sz:=1) (R:=(vY 1 xH)) (z:=((.slice none 0 0))) (bytes:=24) underlying67 (by kernel_rfl) rfl rfl F rfl rfl rfl (H.s [2,0,1,3,4,5] rfl rfl) c8 fun a w v15 H F=>xA 1 F rfl fun a F=>qD (qW (xF (xR (qR F rfl rfl rfl m3 fun a F=>xA 1 F rfl fun a F=>xJ ?_))));replace hR:=qZ hR hn3;exact⟨_,Nat.lt_succ_self _,k3+1,t2,z8,v15,⟨hd3.1,hd3.2.2⟩,rfl,hR,F.su,(H.s [1,0,2,3,4] rfl rfl)⟩
   intro a w ⟨s3,v10,ho2,F,H⟩;subst ho2;have hR:=xN hk3;refine xF (xP (xA 1 F rfl fun a F=>oBA isAgg64 sizeOf64 F rfl rfl (H.b 3 rfl) rfl rfl fun a F=>xA 1 F rfl fun a F=>?_));obtain⟨z9,c9,hR⟩:=xB hR;refine oG F rfl call169 rfl (impl_made_c z9 c9 _ aA hx0 (ROp.m i1 (H.a h1)) (H.r 0 rfl)) (fun a vv w ⟨v17,hv2,S⟩ F=>?_);subst vv;have H:=H.r1 S n0;refine xA 1 F rfl fun a F=>qU (xA 3 F rfl fun a F=>?_);obtain⟨z10,c10,hR⟩:=xB hR;refine oKI F rfl call168 rfl H (impl_indexOf_c z10 c10 _ aA hx0 (H.l 0 rfl)) (fun a w H iz4 F=>?_);obtain⟨z11,c11,hR⟩:=xB hR;refine oI underlying203 sizeOf4 F rfl rfl rfl (H.l 2 rfl) c11 fun a p5 h9 F=>olB isAgg4 F rfl rfl (Sm.refl _ _) h9 fun a F=>xA 1 F rfl fun a F=>xJ (qT F rfl (fun hb2=>?_) (fun hb2=>?_))
   ·
    replace hR:=vS hb2 hR;refine xP (xA 4 F rfl fun a F=>xJ (xT ?_));obtain⟨z12,c12,hR⟩:=xB hR;refine vH (oE (oE ?_));replace hR:=zS hR hn2;refine vH (oE ?_);replace hR:=zR hR hk2;refine oE (zV F rfl (oD F rfl) (oD F rfl) ?_);obtain rfl:=Option.some.inj hR;exact⟨_,rfl,v10,v17,rfl,(H.s [1,0] rfl rfl),(nev_z c12)⟩
   replace hR:=vR hb2 hR;refine xL (qW (xF (xR (qR F rfl rfl rfl m2 fun a F=>xA 1 F rfl fun a F=>xJ ?_))));replace hR:=qZ hR hn2;exact⟨_,Nat.lt_succ_self _,k2+1,(by omega),hR,F.su,(H.s [2,3,4] rfl rfl)⟩
 intro a w ⟨ho3,F,H⟩;subst ho3;have hR:=xN hk2;refine xF (xP (xA 2 F rfl fun a F=>xJ (xT (zV F rfl (oD F rfl) (oD F rfl) ?_))));obtain rfl:=Option.some.inj hR;exact⟨_,rfl,(.slice none 0 0),(.slice none 0 0),rfl,(((H.nl 1 (vY 1 xH) 30).nl 1 xH 2).s [1,0] rfl rfl).lw.wk,(fun _=>rfl)⟩
def impl_keeps (N:Nat) (x0:Int) (x1:Op) (x2:Rel):Option Bool:=
 xX (impl_broken N x0 (Op.mk x1.arity x1.table) (Rel.mk x2.arity x2.tuples)) fun z1=>
 some z1.2.isEmpty
theorem impl_keeps_c {B:Nat→Prop} {N:Nat} {x0:Int} {x1:Op} {x2:Rel} (r:Bool) (hR:impl_keeps N x0 x1 x2=some r) {v1:Value} {v2:Value} (w0:World) (hN:∀ c,B c→c<w0.heap.size) (hx0:xY x0) (A1:Bo B w0 (zC 2 ROp) v1 x1) (A2:Bo B w0 (zC 2 oM) v2 x2):Calls Tryz.prog 103 #[.int .i64 x0,v1,v2] w0 (vV (.bool r) w0):=by
 unfold impl_keeps at hR
 refine xV (L:=[(0,.int .i64 x0),(1,v1),(2,v2)]) func103 rfl rfl rfl (sc rfl (sc rfl (sc rfl sn))) (fun a F=>?_);have H:=Sep.start hN;refine xP ?_;obtain⟨v3,rfl,i1,h1⟩:=ROp.o A1;refine oX F rfl rfl rfl H (fun a w b1 H F=>?_);obtain⟨v16,rfl,i2,h2⟩:=oM.o A2;refine oX F rfl rfl rfl H fun a w b2 H F=>xA 1 F rfl fun a F=>qU (xA 1 F rfl fun a F=>oBA isAgg64 sizeOf64 F rfl rfl (H.b 1 rfl) rfl rfl fun a F=>oBA isAgg69 sizeOf69 F rfl rfl (H.b 0 rfl) rfl rfl (fun a F=>?_));obtain⟨z1,c1,hR⟩:=xB hR;refine oG F rfl call138 rfl (impl_broken_c z1 c1 _ H.hN hx0 (ROp.m i1 (H.u h1)) (oM.m i2 (H.u h2))) (fun a vv w ⟨v4,v5,hv1,S,hz25⟩ F=>?_);subst vv;have H:=H.rk S ⟨n1,⟨n0,trivial⟩⟩ rfl;refine xA 5 F rfl fun a F=>qU (xA 1 F rfl fun a F=>oEz underlying30 F rfl rfl rfl (H.l 1 rfl) hz25 (fun a F=>?_));refine xA 1 F rfl fun a F=>xJ (xT (xO F rfl (oD F rfl) ?_));obtain rfl:=Option.some.inj hR;exact⟨rfl,H.bl⟩
def impl_firstBroken_1 (N:Nat) (x0:Rel) (y0:Template) (y1:Op):Option Bool:=
 xX (impl_keeps N y0.size y1 (Rel.mk x0.arity x0.tuples)) fun z1=>
 some ((!z1))
theorem impl_firstBroken_1_c {B:Nat→Prop} {N:Nat} {x0:Rel} {y0:Template} {y1:Op} (r:Bool) (hR:impl_firstBroken_1 N x0 y0 y1=some r) {v0:Value} {v1:Value} {v2:Value} (w0:World) (hN:∀ c,B c→c<w0.heap.size) (A0:Bo B w0 (zC 2 oM) v0 x0) (A1:Bo B w0 (Pt 2 xG) v1 y0) (A2:Bo B w0 (Pt 2 ROp) v2 y1):Calls Tryz.prog 102 #[v0,v1,v2] w0 (vV (.bool r) w0):=by
 unfold impl_firstBroken_1 at hR
 refine xV (L:=[(0,v0),(1,v1),(2,v2)]) func102 rfl rfl rfl (sc rfl (sc rfl (sc rfl sn))) (fun a F=>?_);have H:=Sep.start hN;refine xP ?_;obtain⟨v3,rfl,i1,h1⟩:=oM.o A0;refine oX F rfl rfl rfl H fun a w b1 H F=>xA 1 F rfl fun a F=>qU (oF (s':=1) fa35_0 F rfl rfl A1 xG.f0 fun a p1 h16 F=>olI isAgg2 F rfl rfl H.sm h16 fun a i2 F=>olA isAgg64 sizeOf64 F rfl rfl H.sm A2 fun a v4 h2 F=>oBA isAgg69 sizeOf69 F rfl rfl (H.b 0 rfl) rfl rfl (fun a F=>?_));obtain⟨z1,c1,hR⟩:=xB hR;refine oK F rfl call103 rfl H (impl_keeps_c z1 c1 _ aA i2 (H.a h2) (oM.m i1 (H.a h1))) fun a w H F=>xA 2 F rfl fun a F=>xJ (xT (xO F rfl (oD F rfl) ?_));obtain rfl:=Option.some.inj hR;exact⟨rfl,H.bl⟩
def impl_firstBroken (N:Nat) (x0:Template) (x1:Op):Option Int:=
 xX (zP x0.rels (fun a0=>impl_firstBroken_1 N a0 (Template.mk x0.size x0.rels) (Op.mk x1.arity x1.table))) fun z1=>
 some z1
theorem impl_firstBroken_c {B:Nat→Prop} {N:Nat} {x0:Template} {x1:Op} (r:Int) (hR:impl_firstBroken N x0 x1=some r) {v0:Value} {v1:Value} (w0:World) (hN:∀ c,B c→c<w0.heap.size) (A0:Bo B w0 (zC 2 xG) v0 x0) (A1:Bo B w0 (zC 2 ROp) v1 x1):Calls Tryz.prog 60 #[v0,v1] w0 (SaysI r w0):=by
 unfold impl_firstBroken at hR
 refine xV (L:=[(0,v0),(1,v1)]) func60 rfl rfl rfl (sc rfl (sc rfl sn)) (fun a F=>?_);have H:=Sep.start hN;refine xP ?_;obtain⟨v2,rfl,i1,h1⟩:=xG.o A0;refine oX F rfl rfl rfl H (fun a w b1 H F=>?_);obtain⟨v16,rfl,i2,h2⟩:=ROp.o A1;refine oX F rfl rfl rfl H fun a w b2 H F=>xA 1 F rfl fun a F=>qU (oY fa35_1 F rfl rfl rfl fun a F=>oB isAgg33 F rfl rfl (H.b 1 rfl) rfl fun a F=>o_func F rfl rfl rfl (fun a F=>?_));obtain⟨z1,c1,hR⟩:=xB hR;refine oKI F rfl call62 rfl H (slices_IndexFunc_s_Rel_Rel_c z1 c1 _ aA (H.a h1) call102 (fun a0 r h W l1 u0 f0=>impl_firstBroken_1_c r h W aA f0 ((xG.b (H.g 1 rfl).bk i1 (H.a h1)).w l1) ((ROp.b (H.g 0 rfl).bk i2 (H.a h2)).w l1))) fun a w H iz1 F=>xA 1 F rfl fun a F=>xJ (xT (xO F rfl (oD F rfl) ?_));obtain rfl:=Option.some.inj hR;exact⟨⟨rfl,H.bl⟩,iz1⟩
def impl_isKept (N:Nat) (x0:Template) (x1:Op):Option Bool:=
 xX (impl_firstBroken N (Template.mk x0.size x0.rels) (Op.mk x1.arity x1.table)) fun z1=>
 some ((decide (z1<0)))
theorem impl_isKept_c {B:Nat→Prop} {N:Nat} {x0:Template} {x1:Op} (r:Bool) (hR:impl_isKept N x0 x1=some r) {v0:Value} {v1:Value} (w0:World) (hN:∀ c,B c→c<w0.heap.size) (A0:Bo B w0 (zC 2 xG) v0 x0) (A1:Bo B w0 (zC 2 ROp) v1 x1):Calls Tryz.prog 28 #[v0,v1] w0 (vV (.bool r) w0):=by
 unfold impl_isKept at hR
 refine xV (L:=[(0,v0),(1,v1)]) func28 rfl rfl rfl (sc rfl (sc rfl sn)) (fun a F=>?_);have H:=Sep.start hN;refine xP ?_;obtain⟨v2,rfl,i1,h1⟩:=xG.o A0;refine oX F rfl rfl rfl H (fun a w b1 H F=>?_);obtain⟨v16,rfl,i2,h2⟩:=ROp.o A1;refine oX F rfl rfl rfl H fun a w b2 H F=>xA 1 F rfl fun a F=>qU (oBA isAgg35 sizeOf35 F rfl rfl (H.b 1 rfl) rfl rfl fun a F=>oBA isAgg64 sizeOf64 F rfl rfl (H.b 0 rfl) rfl rfl (fun a F=>?_));obtain⟨z1,c1,hR⟩:=xB hR;refine oKI F rfl call60 rfl H (impl_firstBroken_c z1 c1 _ aA (xG.m i1 (H.a h1)) (ROp.m i2 (H.a h2))) fun a w H iz1 F=>xA 2 F rfl fun a F=>xJ (xT (xO F rfl (oD F rfl) ?_));obtain rfl:=Option.some.inj hR;exact⟨rfl,H.bl⟩
def impl_hasNone (x0:Rel):Option Bool:=
 some (((x0.tuples.length:Int)==0))
theorem impl_hasNone_c {B:Nat→Prop} {x0:Rel} (r:Bool) (hR:impl_hasNone x0=some r) {v0:Value} (w0:World) (hN:∀ c,B c→c<w0.heap.size) (A0:Bo B w0 (zC 2 oM) v0 x0):Calls Tryz.prog 31 #[v0] w0 (vV (.bool r) w0):=by
 unfold impl_hasNone at hR
 refine xV (L:=[(0,v0)]) func31 rfl rfl rfl (sc rfl sn) (fun a F=>?_);have H:=Sep.start hN;refine xP ?_;obtain⟨v1,rfl,i1,h1⟩:=oM.o A0;refine oX F rfl rfl rfl H fun a w b1 H F=>xA 1 F rfl fun a F=>qU (oY vX F rfl rfl rfl fun a F=>oB isAgg67 F rfl rfl (H.b 0 rfl) rfl fun a F=>oL underlying67 F rfl rfl h1 fun a i2 F=>xA 2 F rfl fun a F=>?_);refine xJ (xT (xO F rfl (oD F rfl) ?_));obtain rfl:=Option.some.inj hR;exact⟨rfl,H.bl⟩
def impl_upTo (x0:Int) (x1:Int):Option (List Int):=
 vO (σ:=(List Int)) (
  vQ (σ:=(List Int)) (ρ:=(List Int)) (fun(k1:Nat) (s1:(List Int))=>
   xX (ck (x0+(k1:Int))) fun z1=>
   xX (ap s1 ([z1])) fun z2=>
   some (.go z2)) x1.toNat 0 []) fun s2=>
 some s2
theorem impl_upTo_c {B:Nat→Prop} {x0:Int} {x1:Int} (r:(List Int)) (hR:impl_upTo x0 x1=some r)  (w0:World) (hN:∀ c,B c→c<w0.heap.size) (hx0:xY x0) (hx1:xY x1):Calls Tryz.prog 71 #[.int .i64 x0,.int .i64 x1] w0 (Gv (fun v w'=>∃ (v1':Value),v=v1'∧Sep [] B w0 w' [rl 1 xH 2 v1' r])):=by
 unfold impl_upTo at hR
 refine xV (L:=[(0,.int .i64 x0),(1,.int .i64 x1)]) func71 rfl rfl rfl (sc rfl (sc rfl sn)) (fun a F=>?_);have H:=Sep.start hN;refine xP (xA 1 F rfl fun a F=>qU (oR0 (R:=xH) underlying30 sizeOf2 F rfl H fun a w v1 H F=>xA 1 F rfl fun a F=>xJ ?_));refine xC (xP (xA 2 F rfl fun a F=>xJ ?_));obtain⟨o1,hR,hk1⟩:=xK hR;refine xW (fun a w=>∃ (s1:List Int) (v2:Value),o1= .nx s1∧Sk a 20 [(5,v2)]∧Sep [] B w0 w [rl 1 xH 2 v2 s1]) ?_ ?_
 ·
  refine xS ?_;obtain⟨fl1,hf1,hR⟩:=zI hR;refine oR (fun g a w=>∃ (k1:Nat) (s2:List Int) (v32:Value),k1+g=x1.toNat∧vQ fl1 g k1 s2=some o1∧Sk a 20 [(9,.int .i64 (k1:Int)),(0,.int .i64 x0),(5,v32),(8,.int .i64 x1)]∧Sep [] B w0 w [rl 1 xH 2 v32 s2]) x1.toNat ?_ ?_
  ·
   exact⟨0,[],v1,(Nat.zero_add _),hR,F.su,H⟩
  intro g1 a w ⟨k1,s2,v32,hd1,hR,F,H⟩
  cases g1 with
  | zero=>
   replace hR:=vT hR;have l1:=kZ hd1;refine xP (xA 1 F rfl fun a F=>xJ (xC (qV F rfl l1 (oO (oQ (oQ (vJ ?_)))))));refine xF ?_;exact⟨s2,v32,(Option.some.inj hR).symm,F.su,H⟩
  | succ g1=>
   obtain⟨ck1,hR,hn1⟩:=vU hR;rw[hf1] at hR;have l1:=kE hd1;refine xP (xA 1 F rfl fun a F=>xJ (xC (qY F rfl l1 (xL (xF (xC ?_))))));have j1:=k64I hd1 hx1;have m1:=inc64I hd1 hx1;refine xS (xP (xA 2 F rfl fun a F=>xJ (xR (xA 3 F rfl fun a F=>?_))));obtain⟨z1,c1,hR⟩:=xB hR;refine kX F rfl rfl rfl c1 fun a F=>oR1z (R:=xH) (y:=z1) underlying30 sizeOf2 zeroValue2 rfl rfl F rfl rfl H (Eo.int (ck64 c1)) (fun a w v3 H F=>?_);obtain⟨z2,c2,hR⟩:=xB hR;refine oPL (sz:=1) (R:=xH) (z:=(.int .i64 0)) (bytes:=8) underlying30 (by kernel_rfl) rfl rfl F rfl rfl rfl (H.s [1,0] rfl rfl) c2 fun a w v4 H F=>xA 1 F rfl fun a F=>qD (qW (xF (xR (qR F rfl rfl rfl m1 fun a F=>xA 1 F rfl fun a F=>xJ ?_))));replace hR:=qZ hR hn1;exact⟨_,Nat.lt_succ_self _,k1+1,z2,v4,(by omega),hR,F.su,H⟩
 intro a w ⟨s1,v2,ho1,F,H⟩;subst ho1;have hR:=xN hk1;refine xF (xP (xA 2 F rfl fun a F=>xJ (xT (xO F rfl (oD F rfl) ?_))));obtain rfl:=Option.some.inj hR;exact⟨_,rfl,v2,rfl,H⟩
def impl_fullDomains (x0:Template) (x1:Instance):Option (List (List Int)):=
 vO (σ:=(List (List Int))) (
  vQ (σ:=(List (List Int))) (ρ:=(List (List Int))) (fun(k1:Nat) (s1:(List (List Int)))=>
   xX (impl_upTo 0 x0.size) fun z1=>
   xX (ap s1 ([z1])) fun z2=>
   some (.go z2)) x1.vars.toNat 0 []) fun s2=>
 some s2
theorem impl_fullDomains_c {B:Nat→Prop} {x0:Template} {x1:Instance} (r:(List (List Int))) (hR:impl_fullDomains x0 x1=some r) {v0:Value} {v1:Value} (w0:World) (hN:∀ c,B c→c<w0.heap.size) (A0:Bo B w0 (zC 2 xG) v0 x0) (A1:Bo B w0 (zC 2 xI) v1 x1):Calls Tryz.prog 64 #[v0,v1] w0 (Gv (fun v w'=>∃ (v1':Value),v=v1'∧Sep [] B w0 w' [rl 1 (vY 1 xH) 30 v1' r])):=by
 unfold impl_fullDomains at hR
 refine xV (L:=[(0,v0),(1,v1)]) func64 rfl rfl rfl (sc rfl (sc rfl sn)) (fun a F=>?_);have H:=Sep.start hN;refine xP ?_;obtain⟨v2,rfl,i1,h1⟩:=xG.o A0;refine oX F rfl rfl rfl H (fun a w b1 H F=>?_);obtain⟨v16,rfl,i2,h2⟩:=xI.o A1;refine oX F rfl rfl rfl H fun a w b2 H F=>xA 1 F rfl fun a F=>qU (oR0 (R:=(vY 1 xH)) underlying67 sizeOf30 F rfl H fun a w v3 H F=>xA 1 F rfl fun a F=>xJ (xC ?_));refine xP (oY zY F rfl rfl rfl fun a F=>oB isAgg2 F rfl rfl (H.b 1 rfl) rfl fun a F=>xA 1 F rfl fun a F=>xJ ?_);obtain⟨o1,hR,hk1⟩:=xK hR;refine xW (fun a w=>∃ (s1:List (List Int)) (v4:Value),o1= .nx s1∧Sk a 19 [(5,v4)]∧Sep [] B w0 w [rl 1 (vY 1 xH) 30 v4 s1]) ?_ ?_
 ·
  refine xS ?_;obtain⟨fl1,hf1,hR⟩:=zI hR;refine oR (fun g a w=>∃ (k1:Nat) (s2:List (List Int)) (v5:Value),k1+g=x1.vars.toNat∧vQ fl1 g k1 s2=some o1∧Sk a 19 [(9,.int .i64 (k1:Int)),(2,.pointer (some ⟨b1,0,none⟩)),(5,v5),(8,.int .i64 x1.vars)]∧Sep [] B w0 w [rl 1 (vY 1 xH) 30 v5 s2,bx b1 [.int .i64 x0.size,v2] 35]) x1.vars.toNat ?_ ?_
  ·
   exact⟨0,[],v3,(Nat.zero_add _),hR,F.su,(H.s [0,2] rfl rfl)⟩
  intro g1 a w ⟨k1,s2,v5,hd1,hR,F,H⟩
  cases g1 with
  | zero=>
   replace hR:=vT hR;have l1:=kZ hd1;refine xP (xA 1 F rfl fun a F=>xJ (xC (qV F rfl l1 (oO (oQ (oQ (vJ ?_)))))));refine xF ?_;exact⟨s2,v5,(Option.some.inj hR).symm,F.su,(H.s [0] rfl rfl)⟩
  | succ g1=>
   obtain⟨ck1,hR,hn1⟩:=vU hR;rw[hf1] at hR;have l1:=kE hd1;refine xP (xA 1 F rfl fun a F=>xJ (xC (qY F rfl l1 (xL (xF (xC ?_))))));have j1:=k64I hd1 i2;have m1:=inc64I hd1 i2;refine xS (xR (xA 1 F rfl fun a F=>oY fa35_0 F rfl rfl rfl fun a F=>oB isAgg2 F rfl rfl (H.b 1 rfl) rfl (fun a F=>?_)));obtain⟨z1,c1,hR⟩:=xB hR;refine oG F rfl call71 rfl (impl_upTo_c z1 c1 _ aA (show xY (0) by decide) i1) (fun a vv w ⟨v6,hv1,S⟩ F=>?_);subst vv;have H:=H.r1 S n0;have H:=H.os;refine oR1L (R:=(vY 1 xH)) (y:=z1) underlying67 sizeOf30 zeroValue30 rfl rfl F rfl rfl H El.sl (fun a w v7 H F=>?_);obtain⟨z2,c2,hR⟩:=xB hR;refine oPL (sz:=1) (R:=(vY 1 xH)) (z:=((.slice none 0 0))) (bytes:=24) underlying67 (by kernel_rfl) rfl rfl F rfl rfl rfl (H.s [1,0,2] rfl rfl) c2 fun a w v8 H F=>xA 1 F rfl fun a F=>qD (qW (xF (xR (qR F rfl rfl rfl m1 fun a F=>xA 1 F rfl fun a F=>xJ ?_))));replace hR:=qZ hR hn1;exact⟨_,Nat.lt_succ_self _,k1+1,z2,v8,(by omega),hR,F.su,H⟩
 intro a w ⟨s1,v4,ho1,F,H⟩;subst ho1;have hR:=xN hk1;refine xF (xP (xA 2 F rfl fun a F=>xJ (xT (xO F rfl (oD F rfl) ?_))));obtain rfl:=Option.some.inj hR;exact⟨_,rfl,v4,rfl,H⟩
def impl_Con_agrees (x0:Con) (x1:List Int):Option Bool:=
 vO (σ:=Unit) (
  qK (σ:=Unit) (ρ:=Bool) (fun(k1:Nat) (x2:Int) (s:Unit)=>
    match s with
    | _=>
    vO (σ:=Unit) (
     vQ (σ:=Unit) (ρ:=(Ctl (Unit) Bool)) (fun(k2:Nat) (s:Unit)=>
       match s with
       | _=>
       vO (σ:=Bool) (
        xX (ix x0.scope (k2:Int)) fun z1=>
        if (z1==x2) then  xX (ix x1 (k2:Int)) fun z2=>
         xX (ix x1 (k1:Int)) fun z3=>
         some (.nx (z2 != z3)) else  some (.nx false)) fun s1=>
       if s1 then
        some (.ret (.ret false))
       else
        some (.go ())) (k1:Int).toNat 0 ()) fun _=>
    some (.go ())) x0.scope 0 ()) fun _=>
 some true
theorem impl_Con_agrees_c {B:Nat→Prop} {x0:Con} {x1:List Int} (r:Bool) (hR:impl_Con_agrees x0 x1=some r) {v0:Value} {v1:Value} (w0:World) (hN:∀ c,B c→c<w0.heap.size) (A0:Bo B w0 (zC 2 qX) v0 x0) (A1:Bo B w0 (Sl 1 xH) v1 x1):Calls Tryz.prog 140 #[v0,v1] w0 (vV (.bool r) w0):=by
 unfold impl_Con_agrees at hR
 refine xV (L:=[(0,v0),(1,v1)]) func140 rfl rfl rfl (sc rfl (sc rfl sn)) (fun a F=>?_);have H:=Sep.start hN;refine xP ?_;obtain⟨v2,rfl,i1,h1⟩:=qX.o A0;refine oX F rfl rfl rfl H fun a w b1 H F=>xA 1 F rfl fun a F=>xJ (xC (xP (oY kV F rfl rfl rfl fun a F=>oB isAgg30 F rfl rfl (H.b 0 rfl) rfl fun a F=>oL underlying30 F rfl rfl h1 fun a i2 F=>xA 1 F rfl fun a F=>?_)));refine xJ ?_;obtain⟨o1,hR,hk1⟩:=xK hR;refine xW (fun a w=>o1= .nx ()∧Sk a 40 []∧Sep [] B w0 w []) ?_ ?_
 ·
  refine xS ?_;obtain⟨fl1,hf1,hR⟩:=qE hR;refine oR (fun g a w=>∃ (k1:Nat) (t1:List Int),(k1≤x0.scope.length∧x0.scope.drop k1=t1)∧t1.length=g∧qK fl1 t1 k1 ()=some o1∧Sk a 40 [(11,.int .i64 (k1:Int)),(1,v1),(2,.pointer (some ⟨b1,0,none⟩)),(9,v2),(10,.int .i64 (x0.scope.length:Int))]∧Sep [] B w0 w [bx b1 [.int .i64 x0.rel,v2] 85]) x0.scope.length ?_ ?_
  ·
   exact⟨0,x0.scope,⟨Nat.zero_le _,rfl⟩,rfl,hR,F.su,H⟩
  intro g1 a w ⟨k1,t1,hd1,hg1,hR,F,H⟩
  cases t1 with
  | nil=>
   replace hR:=qG hR;have q1:=qH hd1.1 hd1.2;have l1:=vA q1;refine xP (xA 1 F rfl fun a F=>xJ (xC (qV F rfl l1 (oO (oQ (oQ (vJ ?_)))))));refine xF ?_;exact⟨(Option.some.inj hR).symm,F.sub sn,(H.s [] rfl rfl)⟩
  | cons x2 t1=>
   subst hg1;replace hd1:=oH hd1.2;have y1:=oV hd1.2.1;obtain⟨ck1,hR,hn1⟩:=oU hR;rw[hf1] at hR;have l1:=qP hd1.1;refine xP (xA 1 F rfl fun a F=>xJ (xC (qY F rfl l1 (xL (xF (xC ?_))))));have j1:=k64 (Nat.le_of_lt hd1.1) i2;have m1:=zA hd1.1 i2;refine xS (xP (xA 1 F rfl fun a F=>oI underlying30 sizeOf2 F rfl rfl rfl h1 y1 fun a p1 h2 F=>olI isAgg2 F rfl rfl H.sm h2 fun a i3 F=>xA 2 F rfl fun a F=>xJ (xC ?_)));refine xR (xA 2 F rfl fun a F=>xJ ?_);obtain⟨o2,hR,hk2⟩:=xK hR;refine xW (fun a w=>o2= .nx ()∧Sk a 40 [(1,v1),(2,.pointer (some ⟨b1,0,none⟩)),(9,v2),(10,.int .i64 (x0.scope.length:Int)),(11,.int .i64 (k1:Int))]∧Sep [] B w0 w [bx b1 [.int .i64 x0.rel,v2] 85]) ?_ ?_
   ·
    refine xS ?_;obtain⟨fl2,hf2,hR⟩:=zI hR;refine oR (fun g a w=>∃ (k2:Nat),k2+g=(k1:Int).toNat∧vQ fl2 g k2 ()=some o2∧Sk a 40 [(17,.int .i64 (k2:Int)),(1,v1),(2,.pointer (some ⟨b1,0,none⟩)),(5,.int .i64 (k1:Int)),(6,.int .i64 x2),(9,v2),(10,.int .i64 (x0.scope.length:Int)),(11,.int .i64 (k1:Int)),(16,.int .i64 (k1:Int))]∧Sep [] B w0 w [bx b1 [.int .i64 x0.rel,v2] 85]) (k1:Int).toNat ?_ ?_
    ·
     exact⟨0,(Nat.zero_add _),hR,F.su,H⟩
    intro g2 a w ⟨k2,hd2,hR,F,H⟩
    cases g2 with
    | zero=>
     replace hR:=vT hR;have l2:=kZ hd2;refine xP (xA 1 F rfl fun a F=>xJ (xC (qV F rfl l2 (oO (oQ (oQ (vJ ?_)))))));refine xF ?_;exact⟨(Option.some.inj hR).symm,F.su,H⟩
    | succ g2=>
     obtain⟨ck2,hR,hn2⟩:=vU hR;rw[hf2] at hR;have l2:=kE hd2;refine xP (xA 1 F rfl fun a F=>xJ (xC (qY F rfl l2 (xL (xF (xC ?_))))));have j2:=k64I hd2 j1;have m2:=inc64I hd2 j1;refine xS (xP (xA 2 F rfl fun a F=>xJ (xC ?_)));obtain⟨o3,hR,hk3⟩:=xK hR;refine xW (fun a w=>∃ (s1:Bool),o3= .nx s1∧Sk a 40 [(1,v1),(2,.pointer (some ⟨b1,0,none⟩)),(5,.int .i64 (k1:Int)),(6,.int .i64 x2),(9,v2),(10,.int .i64 (x0.scope.length:Int)),(11,.int .i64 (k1:Int)),(16,.int .i64 (k1:Int)),(17,.int .i64 (k2:Int)),(37,.bool s1)]∧Sep [] B w0 w [bx b1 [.int .i64 x0.rel,v2] 85]) ?_ ?_
     ·
      refine xQ H (by kernel_rfl) (by kernel_rfl) (xU F rfl (fun w l=>zQ kV F rfl rfl) fun a F=>qB isAgg30 F rfl rfl (H.qb 0 rfl) rfl fun a F=>xU F rfl (fun w l=>xM F rfl) (fun a F=>?_));obtain⟨z1,c1,hR⟩:=xB hR;refine qI underlying30 sizeOf2 F rfl rfl rfl h1 c1 fun a p2 h3 F=>qlI isAgg2 F rfl rfl H.q h3 fun a i4 F=>xU F rfl (fun w l=>xM F rfl) fun a F=>xU F rfl (fun w l=>r_eql F rfl rfl) fun a F=>xU F rfl (fun w l=>xM F rfl) (fun a F=>?_)
      rcases vG (z1==x2) with hb1 | hb1
      ·
       replace hR:=vS hb1 hR;have F:=F.eq (t:=27) rfl (congrArg Value.bool hb1);refine xU F rfl (fun w l=>xM F rfl) fun a F=>xU F rfl (fun w l=>xM F rfl) (fun a F=>?_);obtain⟨z2,c2,hR⟩:=xB hR;refine qI underlying30 sizeOf2 F rfl rfl rfl A1 c2 fun a p3 h4 F=>qlI isAgg2 F rfl rfl H.q h4 fun a i5 F=>xU F rfl (fun w l=>xM F rfl) fun a F=>xU F rfl (fun w l=>xM F rfl) (fun a F=>?_);obtain⟨z3,c3,hR⟩:=xB hR;refine qI underlying30 sizeOf2 F rfl rfl rfl A1 c3 fun a p4 h5 F=>qlI isAgg2 F rfl rfl H.q h5 fun a i6 F=>xU F rfl (fun w l=>r_neq F rfl rfl) fun a F=>xU F rfl (fun w l=>r_pickt F rfl rfl) fun a F=>kP fun w H=>xF ?_;exact⟨(z2 != z3),(Option.some.inj hR).symm,F.su,H⟩
      replace hR:=vR hb1 hR;have F:=F.eq (t:=27) rfl (congrArg Value.bool hb1);refine qS F rfl rfl fun a F=>qS F rfl rfl fun a F=>qS F rfl rfl fun a F=>qS F rfl rfl fun a F=>qS F rfl rfl fun a F=>qS F rfl rfl fun a F=>qS F rfl rfl fun a F=>qS F rfl rfl fun a F=>qS F rfl rfl fun a F=>xU F rfl (fun w l=>r_pickf F rfl rfl) fun a F=>kP (fun w H=>?_);refine xF ?_;exact⟨false,(Option.some.inj hR).symm,F.su,H⟩
     intro a w ⟨s1,ho1,F,H⟩;subst ho1;have hR:=xN hk3;refine xF (qT F rfl (fun hb2=>?_) (fun hb2=>?_))
     ·
      replace hR:=vS hb2 hR;refine xP (xA 1 F rfl fun a F=>xJ (xT (vH (oE (oE ?_)))));replace hR:=zS hR hn2;refine vH (oE ?_);replace hR:=zR hR hk2;refine vH (oE (oE ?_));replace hR:=zS hR hn1;refine vH (oE ?_);replace hR:=zR hR hk1;refine oE (xO F rfl (oD F rfl) ?_);obtain rfl:=Option.some.inj hR;exact⟨rfl,H.bl⟩
     replace hR:=vR hb2 hR;refine xL (qW (xF (xR (qR F rfl rfl rfl m2 fun a F=>xA 1 F rfl fun a F=>xJ ?_))));replace hR:=qZ hR hn2;exact⟨_,Nat.lt_succ_self _,k2+1,(by omega),hR,F.su,H⟩
   intro a w ⟨ho2,F,H⟩;subst ho2;have hR:=xN hk2;refine qW (xF (xR (qR F rfl rfl rfl m1 fun a F=>xA 1 F rfl fun a F=>xJ ?_)));replace hR:=qZ hR hn1;exact⟨_,Nat.lt_succ_self _,k1+1,t1,⟨hd1.1,hd1.2.2⟩,rfl,hR,F.su,H⟩
 intro a w ⟨ho3,F,H⟩;subst ho3;have hR:=xN hk1;refine xF (xP (xA 1 F rfl fun a F=>xJ (xT (xO F rfl (oD F rfl) ?_))));obtain rfl:=Option.some.inj hR;exact⟨rfl,H.bl⟩
def zG (x0:List Int) (x1:Int):Option Int:=
 vO (σ:=Unit) (
  qK (σ:=Unit) (ρ:=Int) (fun(k1:Nat) (x2:Int) (s:Unit)=>
    match s with
    | _=>
    if (x1==x2) then
     some (.ret ((k1:Int)))
    else
     some (.go ())) x0 0 ()) fun _=>
 some ((-1))
theorem slices_Index_s_int64_int64_c {B:Nat→Prop} {x0:List Int} {x1:Int} (r:Int) (hR:zG x0 x1=some r) {v0:Value} (w0:World) (hN:∀ c,B c→c<w0.heap.size) (A0:Bo B w0 (Sl 1 xH) v0 x0) (hx1:xY x1):Calls Tryz.prog 76 #[v0,.int .i64 x1] w0 (SaysI r w0):=by
 unfold zG at hR
 refine xV (L:=[(0,v0),(1,.int .i64 x1)]) func76 rfl rfl rfl (sc rfl (sc rfl sn)) (fun a F=>?_);have H:=Sep.start hN;refine xP (xA 1 F rfl fun a F=>xJ (xC (xP (xA 1 F rfl fun a F=>oL underlying30 F rfl rfl A0 fun a i1 F=>xA 1 F rfl fun a F=>?_))));refine xJ ?_;obtain⟨o16,hR,hk1⟩:=xK hR;refine xW (fun a w=>o16= .nx ()∧Sk a 19 []∧Sep [] B w0 w []) ?_ ?_
 ·
  refine xS ?_;obtain⟨fl1,hf1,hR⟩:=qE hR;refine oR (fun g a w=>∃ (k1:Nat) (t1:List Int),(k1≤x0.length∧x0.drop k1=t1)∧t1.length=g∧qK fl1 t1 k1 ()=some o16∧Sk a 19 [(8,.int .i64 (k1:Int)),(0,v0),(1,.int .i64 x1),(7,.int .i64 (x0.length:Int))]∧Sep [] B w0 w []) x0.length ?_ ?_
  ·
   exact⟨0,x0,⟨Nat.zero_le _,rfl⟩,rfl,hR,F.su,H⟩
  intro g1 a w ⟨k1,t1,hd1,hg1,hR,F,H⟩
  cases t1 with
  | nil=>
   replace hR:=qG hR;have q1:=qH hd1.1 hd1.2;have l1:=vA q1;refine xP (xA 1 F rfl fun a F=>xJ (xC (qV F rfl l1 (oO (oQ (oQ (vJ ?_)))))));refine xF ?_;exact⟨(Option.some.inj hR).symm,F.sub sn,H⟩
  | cons x2 t1=>
   subst hg1;replace hd1:=oH hd1.2;have y1:=oV hd1.2.1;obtain⟨ck1,hR,hn1⟩:=oU hR;rw[hf1] at hR;have l1:=qP hd1.1;refine xP (xA 1 F rfl fun a F=>xJ (xC (qY F rfl l1 (xL (xF (xC ?_))))));have j1:=k64 (Nat.le_of_lt hd1.1) i1;have m1:=zA hd1.1 i1;refine xS (xP (xA 2 F rfl fun a F=>qU (xA 2 F rfl fun a F=>?_)));refine xA 1 F rfl fun a F=>oI underlying30 sizeOf2 F rfl rfl rfl A0 y1 fun a p1 h1 F=>olI isAgg2 F rfl rfl H.sm h1 fun a i2 F=>xA 1 F rfl fun a F=>xJ (qT F rfl (fun hb1=>?_) (fun hb1=>?_))
   ·
    replace hR:=vS hb1 hR;refine xP (xA 2 F rfl fun a F=>xJ (xT (vH (oE (oE ?_)))));replace hR:=zS hR hn1;refine vH (oE ?_);replace hR:=zR hR hk1;refine oE (xO F rfl (oD F rfl) ?_);obtain rfl:=Option.some.inj hR;exact⟨⟨rfl,H.bl⟩,j1⟩
   replace hR:=vR hb1 hR;refine xL (qW (xF (xR (qR F rfl rfl rfl m1 fun a F=>xA 1 F rfl fun a F=>xJ ?_))));replace hR:=qZ hR hn1;exact⟨_,Nat.lt_succ_self _,k1+1,t1,⟨hd1.1,hd1.2.2⟩,rfl,hR,F.su,H⟩
 intro a w ⟨ho1,F,H⟩;subst ho1;have hR:=xN hk1;refine xF (xP (xA 1 F rfl fun a F=>xJ (xT (xO F rfl (oD F rfl) ?_))));obtain rfl:=Option.some.inj hR;exact⟨⟨rfl,H.bl⟩,(show xY (-1) by decide)⟩
def vK (x0:List Int) (x1:Int):Option Bool:=
 xX (zG x0 x1) fun z1=>
 some ((decide (0≤z1)))
theorem slices_Contains_s_int64_int64_c {B:Nat→Prop} {x0:List Int} {x1:Int} (r:Bool) (hR:vK x0 x1=some r) {v0:Value} (w0:World) (hN:∀ c,B c→c<w0.heap.size) (A0:Bo B w0 (Sl 1 xH) v0 x0) (hx1:xY x1):Calls Tryz.prog 141 #[v0,.int .i64 x1] w0 (vV (.bool r) w0):=by
 unfold vK at hR
 refine xV (L:=[(0,v0),(1,.int .i64 x1)]) func141 rfl rfl rfl (sc rfl (sc rfl sn)) (fun a F=>?_);have H:=Sep.start hN;refine xP (xA 1 F rfl fun a F=>qU (xA 2 F rfl fun a F=>?_));obtain⟨z1,c1,hR⟩:=xB hR;refine oKI F rfl call76 rfl H (slices_Index_s_int64_int64_c z1 c1 _ aA (H.a A0) hx1) fun a w H iz1 F=>xA 2 F rfl fun a F=>xJ (xT (xO F rfl (oD F rfl) ?_));obtain rfl:=Option.some.inj hR;exact⟨rfl,H.bl⟩
def impl_hasSupport_1 (x0:List Int) (y0:Int) (y1:Int) (y2:Con) (y3:(List (List Int))):Option Bool:=
 vO (σ:=Bool) (
  xX (ix x0 y0) fun z1=>
  if (z1 != y1) then  some (.nx true) else  xX (impl_Con_agrees y2 x0) fun z2=>
   some (.nx (!z2))) fun s1=>
 if s1 then
  some false
 else
  vO (σ:=Unit) (
   qK (σ:=Unit) (ρ:=Bool) (fun(k1:Nat) (x1:Int) (s:Unit)=>
     match s with
     | _=>
     xX (ix y3 x1) fun z3=>
     xX (ix x0 (k1:Int)) fun z4=>
     xX (vK z3 z4) fun z5=>
     if (!z5) then
      some (.ret false)
     else
      some (.go ())) y2.scope 0 ()) fun _=>
  some true
theorem impl_hasSupport_1_c {B:Nat→Prop} {x0:List Int} {y0:Int} {y1:Int} {y2:Con} {y3:(List (List Int))} (r:Bool) (hR:impl_hasSupport_1 x0 y0 y1 y2 y3=some r) {v0:Value} {v1:Value} {v2:Value} {v3:Value} {v4:Value} (w0:World) (hN:∀ c,B c→c<w0.heap.size) (A0:Bo B w0 (Sl 1 xH) v0 x0) (A1:Bo B w0 (Pt 1 xH) v1 y0) (A2:Bo B w0 (Pt 1 xH) v2 y1) (A3:Bo B w0 (Pt 2 qX) v3 y2) (A4:Bo B w0 (Pt 1 (vY 1 (vY 1 xH))) v4 y3):Calls Tryz.prog 139 #[v0,v1,v2,v3,v4] w0 (vV (.bool r) w0):=by
 unfold impl_hasSupport_1 at hR
 refine xV (L:=[(0,v0),(1,v1),(2,v2),(3,v3),(4,v4)]) func139 rfl rfl rfl (sc rfl (sc rfl (sc rfl (sc rfl (sc rfl sn))))) (fun a F=>?_);have H:=Sep.start hN;refine xP (xA 1 F rfl fun a F=>xJ (xC (xC ?_)));obtain⟨o1,hR,hk1⟩:=xK hR;refine xW (fun a w=>∃ (s1:Bool),o1= .nx s1∧Sk a 40 [(0,v0),(3,v3),(4,v4),(20,.bool s1)]∧Sep [] B w0 w []) ?_ ?_
 ·
  refine xQ H (by kernel_rfl) (by kernel_rfl) (xU F rfl (fun w l=>xM F rfl) fun a F=>qlI isAgg3 F rfl rfl H.q A1 (fun a i1 F=>?_));obtain⟨z1,c1,hR⟩:=xB hR;refine qI underlying30 sizeOf2 F rfl rfl rfl A0 c1 fun a p1 h1 F=>qlI isAgg2 F rfl rfl H.q h1 fun a i32 F=>qlI isAgg2 F rfl rfl H.q A2 fun a i2 F=>xU F rfl (fun w l=>r_neq F rfl rfl) fun a F=>xU F rfl (fun w l=>xM F rfl) (fun a F=>?_)
  rcases vG (z1 != y1) with hb1 | hb1
  ·
   replace hR:=vS hb1 hR;have F:=F.eq (t:=15) rfl (congrArg Value.bool hb1);refine qS F rfl rfl fun a F=>qS F rfl rfl fun a F=>qS F rfl rfl fun a F=>qS F rfl rfl fun a F=>xU F rfl (fun w l=>r_pickt F rfl rfl) fun a F=>kP fun w H=>xF ?_;exact⟨true,(Option.some.inj hR).symm,F.su,H⟩
  replace hR:=vR hb1 hR;have F:=F.eq (t:=15) rfl (congrArg Value.bool hb1);refine qlA isAgg85 sizeOf85 F rfl rfl H.q A3 fun a v5 h2 F=>xU F rfl (fun w l=>xM F rfl) (fun a F=>?_);obtain⟨z2,c2,hR⟩:=xB hR;refine q_says F rfl call140 rfl (fun w w' h l=>l.through h) (fun w l=>impl_Con_agrees_c z2 c2 w aA ((H.go l).a h2) ((H.go l).a A0)) fun a F=>xU F rfl (fun w l=>r_not F rfl) fun a F=>xU F rfl (fun w l=>r_pickf F rfl rfl) fun a F=>kP fun w H=>xF ?_;exact⟨(!z2),(Option.some.inj hR).symm,F.su,H⟩
 intro a w ⟨s1,ho1,F,H⟩;subst ho1;have hR:=xN hk1;refine xF (qT F rfl (fun hb2=>?_) (fun hb2=>?_))
 ·
  replace hR:=vS hb2 hR;refine xP (xA 1 F rfl fun a F=>xJ (xT (oE (xO F rfl (oD F rfl) ?_))));obtain rfl:=Option.some.inj hR;exact⟨rfl,H.bl⟩
 replace hR:=vR hb2 hR;refine xL (xF (xC (xP (oF (s':=1) kV F rfl rfl A3 qX.f1 fun a p2 h3 F=>olS isAgg30 F rfl rfl H.sm h3 fun a v6 h4 F=>oL underlying30 F rfl rfl h4 fun a i3 F=>xA 1 F rfl fun a F=>xJ ?_))));obtain⟨o64,hR,hk2⟩:=xK hR;refine xW (fun a w=>o64= .nx ()∧Sk a 40 []∧Sep [] B w0 w []) ?_ ?_
 ·
  refine xS ?_;obtain⟨fl1,hf1,hR⟩:=qE hR;refine oR (fun g a w=>∃ (k1:Nat) (t1:List Int),(k1≤y2.scope.length∧y2.scope.drop k1=t1)∧t1.length=g∧qK fl1 t1 k1 ()=some o64∧Sk a 40 [(24,.int .i64 (k1:Int)),(0,v0),(4,v4),(22,v6),(23,.int .i64 (y2.scope.length:Int))]∧Sep [] B w0 w []) y2.scope.length ?_ ?_
  ·
   exact⟨0,y2.scope,⟨Nat.zero_le _,rfl⟩,rfl,hR,F.su,H⟩
  intro g1 a w ⟨k1,t1,hd1,hg1,hR,F,H⟩
  cases t1 with
  | nil=>
   replace hR:=qG hR;have q1:=qH hd1.1 hd1.2;have l1:=vA q1;refine xP (xA 1 F rfl fun a F=>xJ (xC (qV F rfl l1 (oO (oQ (oQ (vJ ?_)))))));refine xF ?_;exact⟨(Option.some.inj hR).symm,F.sub sn,H⟩
  | cons x1 t1=>
   subst hg1;replace hd1:=oH hd1.2;have y4:=oV hd1.2.1;obtain⟨ck1,hR,hn1⟩:=oU hR;rw[hf1] at hR;have l1:=qP hd1.1;refine xP (xA 1 F rfl fun a F=>xJ (xC (qY F rfl l1 (xL (xF (xC ?_))))));have j1:=k64 (Nat.le_of_lt hd1.1) i3;have m1:=zA hd1.1 i3;refine xS (xP (xA 1 F rfl fun a F=>oI underlying30 sizeOf2 F rfl rfl rfl h4 y4 fun a p3 h5 F=>olI isAgg2 F rfl rfl H.sm h5 fun a i4 F=>xA 2 F rfl fun a F=>xJ (xC ?_)));refine xQ H (by kernel_rfl) (by kernel_rfl) (qlS isAgg67 F rfl rfl H.q A4 fun a v7 h6 F=>xU F rfl (fun w l=>xM F rfl) (fun a F=>?_));obtain⟨z3,c3,hR⟩:=xB hR;refine qI underlying67 sizeOf30 F rfl rfl rfl h6 c3 fun a p4 h7 F=>qlS isAgg30 F rfl rfl H.q h7 fun a v8 h8 F=>xU F rfl (fun w l=>xM F rfl) fun a F=>xU F rfl (fun w l=>xM F rfl) (fun a F=>?_);obtain⟨z4,c4,hR⟩:=xB hR;refine qI underlying30 sizeOf2 F rfl rfl rfl A0 c4 fun a p5 h9 F=>qlI isAgg2 F rfl rfl H.q h9 (fun a i5 F=>?_);obtain⟨z5,c5,hR⟩:=xB hR;refine q_says F rfl call141 rfl (fun w w' h l=>l.through h) (fun w l=>slices_Contains_s_int64_int64_c z5 c5 w aA ((H.go l).a h8) i5) fun a F=>xU F rfl (fun w l=>r_not F rfl) fun a F=>kP fun w H=>xF (qT F rfl (fun hb3=>?_) (fun hb3=>?_))
   ·
    replace hR:=vS hb3 hR;refine xP (xA 1 F rfl fun a F=>xJ (xT (vH (oE (oE ?_)))));replace hR:=zS hR hn1;refine vH (oE ?_);replace hR:=zR hR hk2;refine oE (xO F rfl (oD F rfl) ?_);obtain rfl:=Option.some.inj hR;exact⟨rfl,H.bl⟩
   replace hR:=vR hb3 hR;refine xL (qW (xF (xR (qR F rfl rfl rfl m1 fun a F=>xA 1 F rfl fun a F=>xJ ?_))));replace hR:=qZ hR hn1;exact⟨_,Nat.lt_succ_self _,k1+1,t1,⟨hd1.1,hd1.2.2⟩,rfl,hR,F.su,H⟩
 intro a w ⟨ho2,F,H⟩;subst ho2;have hR:=xN hk2;refine xF (xP (xA 1 F rfl fun a F=>xJ (xT (xO F rfl (oD F rfl) ?_))));obtain rfl:=Option.some.inj hR;exact⟨rfl,H.bl⟩
def zW (x0:List (List Int)) (x1:(List Int)→Option Bool):Option Int:=
 vO (σ:=Unit) (
  qK (σ:=Unit) (ρ:=Int) (fun(k1:Nat) (x2:(List Int)) (s:Unit)=>
    match s with
    | _=>
    xX (x1 x2) fun z1=>
    if z1 then
     some (.ret ((k1:Int)))
    else
     some (.go ())) x0 0 ()) fun _=>
 some ((-1))
theorem slices_IndexFunc_s_s_int64_s_int64_c {B:Nat→Prop} {x0:List (List Int)} {x1:(List Int)→Option Bool} (r:Int) (hR:zW x0 x1=some r) {v0:Value} {g1:FuncId} {lb1:List Value} (w0:World) (hN:∀ c,B c→c<w0.heap.size) (A0:Bo B w0 (Sl 1 (vY 1 xH)) v0 x0) (hg1:∀ args w,(callFunc g1 args).run Tryz.prog w= .ok (.enter g1 args) w) (hp1:∀ (a0:List Int) (r:Bool),x1 a0=some r→∀ W,Below w0.heap.size w0 W→∀ (u0:Value),Bo (All W) W (Sl 1 xH) u0 a0→Calls Tryz.prog g1 ([u0]++lb1:List Value).toArray W (vV (.bool r) W)):Calls Tryz.prog 156 #[v0,.func (.func g1) #[] lb1.toArray] w0 (SaysI r w0):=by
 unfold zW at hR
 refine xV (L:=[(0,v0),(1,.func (.func g1) #[] lb1.toArray)]) func156 rfl rfl rfl (sc rfl (sc rfl sn)) (fun a F=>?_);have H:=Sep.start hN;refine xP (xA 1 F rfl fun a F=>xJ (xC (xP (xA 1 F rfl fun a F=>oL underlying67 F rfl rfl A0 fun a i1 F=>xA 1 F rfl fun a F=>?_))));refine xJ ?_;obtain⟨o1,hR,hk1⟩:=xK hR;refine xW (fun a w=>o1= .nx ()∧Sk a 19 []∧Sep [] B w0 w []) ?_ ?_
 ·
  refine xS ?_;obtain⟨fl1,hf1,hR⟩:=qE hR;refine oR (fun g a w=>∃ (k1:Nat) (t1:List (List Int)),(k1≤x0.length∧x0.drop k1=t1)∧t1.length=g∧qK fl1 t1 k1 ()=some o1∧Sk a 19 [(8,.int .i64 (k1:Int)),(0,v0),(1,.func (.func g1) #[] lb1.toArray),(7,.int .i64 (x0.length:Int))]∧Sep [] B w0 w []) x0.length ?_ ?_
  ·
   exact⟨0,x0,⟨Nat.zero_le _,rfl⟩,rfl,hR,F.su,H⟩
  intro g2 a w ⟨k1,t1,hd1,hg2,hR,F,H⟩
  cases t1 with
  | nil=>
   replace hR:=qG hR;have q1:=qH hd1.1 hd1.2;have l1:=vA q1;refine xP (xA 1 F rfl fun a F=>xJ (xC (qV F rfl l1 (oO (oQ (oQ (vJ ?_)))))));refine xF ?_;exact⟨(Option.some.inj hR).symm,F.sub sn,H⟩
  | cons x2 t1=>
   subst hg2;replace hd1:=oH hd1.2;have y1:=oV hd1.2.1;obtain⟨ck1,hR,hn1⟩:=oU hR;rw[hf1] at hR;have l1:=qP hd1.1;refine xP (xA 1 F rfl fun a F=>xJ (xC (qY F rfl l1 (xL (xF (xC ?_))))));have j1:=k64 (Nat.le_of_lt hd1.1) i1;have m1:=zA hd1.1 i1;refine xS (xP (xA 2 F rfl fun a F=>qU (xA 2 F rfl fun a F=>?_)));refine xA 1 F rfl fun a F=>oI underlying67 sizeOf30 F rfl rfl rfl A0 y1 fun a p1 h32 F=>olS isAgg30 F rfl rfl H.sm h32 (fun a v1 h1 F=>?_);obtain⟨z1,c1,hR⟩:=xB hR;refine oKV F rfl rfl hg1 rfl H (hp1 _ z1 c1 _ H.bl _ (H.a h1)) fun a w H F=>xJ (qT F rfl (fun hb1=>?_) (fun hb1=>?_))
   ·
    replace hR:=vS hb1 hR;refine xP (xA 2 F rfl fun a F=>xJ (xT (vH (oE (oE ?_)))));replace hR:=zS hR hn1;refine vH (oE ?_);replace hR:=zR hR hk1;refine oE (xO F rfl (oD F rfl) ?_);obtain rfl:=Option.some.inj hR;exact⟨⟨rfl,H.bl⟩,j1⟩
   replace hR:=vR hb1 hR;refine xL (qW (xF (xR (qR F rfl rfl rfl m1 fun a F=>xA 1 F rfl fun a F=>xJ ?_))));replace hR:=qZ hR hn1;exact⟨_,Nat.lt_succ_self _,k1+1,t1,⟨hd1.1,hd1.2.2⟩,rfl,hR,F.su,H⟩
 intro a w ⟨ho1,F,H⟩;subst ho1;have hR:=xN hk1;refine xF (xP (xA 1 F rfl fun a F=>xJ (xT (xO F rfl (oD F rfl) ?_))));obtain rfl:=Option.some.inj hR;exact⟨⟨rfl,H.bl⟩,(show xY (-1) by decide)⟩
def qO (x0:List (List Int)) (x1:(List Int)→Option Bool):Option Bool:=
 xX (zW x0 x1) fun z1=>
 some ((decide (0≤z1)))
theorem kG {B:Nat→Prop} {x0:List (List Int)} {x1:(List Int)→Option Bool} (r:Bool) (hR:qO x0 x1=some r) {v0:Value} {g1:FuncId} {lb1:List Value} (w0:World) (hN:∀ c,B c→c<w0.heap.size) (A0:Bo B w0 (Sl 1 (vY 1 xH)) v0 x0) (hg1:∀ args w,(callFunc g1 args).run Tryz.prog w= .ok (.enter g1 args) w) (hp1:∀ (a0:List Int) (r:Bool),x1 a0=some r→∀ W,Below w0.heap.size w0 W→∀ (u0:Value),Bo (All W) W (Sl 1 xH) u0 a0→Calls Tryz.prog g1 ([u0]++lb1:List Value).toArray W (vV (.bool r) W)):Calls Tryz.prog 119 #[v0,.func (.func g1) #[] lb1.toArray] w0 (vV (.bool r) w0):=by
 unfold qO at hR
 refine xV (L:=[(0,v0),(1,.func (.func g1) #[] lb1.toArray)]) func119 rfl rfl rfl (sc rfl (sc rfl sn)) (fun a F=>?_);have H:=Sep.start hN;refine xP (xA 1 F rfl fun a F=>qU (xA 2 F rfl fun a F=>?_));obtain⟨z1,c1,hR⟩:=xB hR;refine oKI F rfl call156 rfl H (slices_IndexFunc_s_s_int64_s_int64_c z1 c1 _ aA (H.a A0) hg1 (fun a0 r h W l1=>hp1 a0 r h W (H.bl.trans (l1.mono H.fr.size)))) fun a w H iz1 F=>xA 2 F rfl fun a F=>xJ (xT (xO F rfl (oD F rfl) ?_));obtain rfl:=Option.some.inj hR;exact⟨rfl,H.bl⟩
def impl_hasSupport (x0:Template) (x1:Con) (x2:List (List Int)) (x3:Int) (x4:Int):Option Bool:=
 xX (ix x0.rels x1.rel) fun z1=>
 xX (qO z1.tuples (fun a0=>impl_hasSupport_1 a0 x3 x4 (Con.mk x1.rel x1.scope) x2)) fun z2=>
 some z2
theorem impl_hasSupport_c {B:Nat→Prop} {x0:Template} {x1:Con} {x2:List (List Int)} {x3:Int} {x4:Int} (r:Bool) (hR:impl_hasSupport x0 x1 x2 x3 x4=some r) {v0:Value} {v1:Value} {v2:Value} (w0:World) (hN:∀ c,B c→c<w0.heap.size) (A0:Bo B w0 (zC 2 xG) v0 x0) (A1:Bo B w0 (zC 2 qX) v1 x1) (A2:Bo B w0 (Sl 1 (vY 1 xH)) v2 x2) (hx3:xY x3) (hx4:xY x4):Calls Tryz.prog 107 #[v0,v1,v2,.int .i64 x3,.int .i64 x4] w0 (vV (.bool r) w0):=by
 unfold impl_hasSupport at hR
 refine xV (L:=[(0,v0),(1,v1),(2,v2),(3,.int .i64 x3),(4,.int .i64 x4)]) func107 rfl rfl rfl (sc rfl (sc rfl (sc rfl (sc rfl (sc rfl sn))))) (fun a F=>?_);have H:=Sep.start hN;refine xP ?_;obtain⟨v3,rfl,i1,h1⟩:=xG.o A0;refine oX F rfl rfl rfl H (fun a w b1 H F=>?_);obtain⟨v16,rfl,i2,h2⟩:=qX.o A1;refine oX F rfl rfl rfl H fun a w b2 H F=>oX F rfl rfl (one_cells (H.a A2).one) H fun a w b3 H F=>oX F rfl rfl rfl H fun a w b4 H F=>oX F rfl rfl rfl H fun a w b5 H F=>xA 1 F rfl fun a F=>qU (oY fa35_1 F rfl rfl rfl fun a F=>oB isAgg33 F rfl rfl (H.b 4 rfl) rfl (fun a F=>?_));refine oY fa85_0 F rfl rfl rfl fun a F=>oB isAgg2 F rfl rfl (H.b 3 rfl) rfl (fun a F=>?_);obtain⟨z1,c1,hR⟩:=xB hR;refine oI underlying33 sizeOf69 F rfl rfl rfl h1 c1 fun a p1 h3 F=>oF (s':=1) vX F rfl rfl h3 oM.f1 fun a p2 h4 F=>olS isAgg67 F rfl rfl H.sm h4 fun a v4 h5 F=>o_func F rfl rfl rfl (fun a F=>?_);obtain⟨z2,c2,hR⟩:=xB hR;refine oK F rfl call119 rfl H (kG z2 c2 _ aA (H.a h5) call139 (fun a0 r h W l1 u0 f0=>impl_hasSupport_1_c r h W aA f0 ((c1I (H.g 1 rfl).bk hx3).w l1) ((c1I (H.g 0 rfl).bk hx4).w l1) ((qX.b (H.g 3 rfl).bk i2 (H.a h2)).w l1) ((c1S (H.g 2 rfl).bk (H.a A2)).w l1))) fun a w H F=>xA 1 F rfl fun a F=>xJ (xT (xO F rfl (oD F rfl) ?_));obtain rfl:=Option.some.inj hR;exact⟨rfl,H.bl⟩
def impl_without_1 (x0:Int) (y0:Int):Option Bool:=
 some ((x0==y0))
theorem impl_without_1_c {B:Nat→Prop} {x0:Int} {y0:Int} (r:Bool) (hR:impl_without_1 x0 y0=some r) {v1:Value} (w0:World) (hN:∀ c,B c→c<w0.heap.size) (hx0:xY x0) (A1:Bo B w0 (Pt 1 xH) v1 y0):Calls Tryz.prog 143 #[.int .i64 x0,v1] w0 (vV (.bool r) w0):=by
 unfold impl_without_1 at hR
 refine xV (L:=[(0,.int .i64 x0),(1,v1)]) func143 rfl rfl rfl (sc rfl (sc rfl sn)) (fun a F=>?_);have H:=Sep.start hN;refine xP (xA 1 F rfl fun a F=>qU (xA 1 F rfl fun a F=>olI isAgg2 F rfl rfl H.sm A1 fun a i1 F=>xA 2 F rfl fun a F=>?_));refine xJ (xT (xO F rfl (oD F rfl) ?_));obtain rfl:=Option.some.inj hR;exact⟨rfl,H.bl⟩
def impl_never:Option Bool:=
 some false
theorem impl_never_c {B:Nat→Prop} (r:Bool) (hR:impl_never=some r)  (w0:World) (hN:∀ c,B c→c<w0.heap.size):Calls Tryz.prog 66 #[] w0 (vV (.bool r) w0):=by
 unfold impl_never at hR
 refine xV (L:=[]) func66 rfl rfl rfl sn (fun a F=>?_);have H:=Sep.start hN;refine xP (xA 1 F rfl fun a F=>qU (xA 1 F rfl fun a F=>xJ (xT ?_)));refine xO F rfl (oD F rfl) ?_;obtain rfl:=Option.some.inj hR;exact⟨rfl,H.bl⟩
def impl_solverFor (x0:Template) (x1:Instance):Option solver:=
 vO (σ:=(List Atom)) (
  qK (σ:=(List Atom)) (ρ:=solver) (fun(k1:Nat) (x2:Con) (s1:(List Atom))=>
   xX (ap s1 ([(Atom.mk x2.rel x2.scope)])) fun z1=>
   some (.go z1)) x1.cons 0 []) fun s2=>
 xX (impl_solverOf (Template.mk x0.size x0.rels) x1.vars s2) fun z2=>
 some z2
theorem impl_solverFor_c {B:Nat→Prop} {x0:Template} {x1:Instance} (r:solver) (hR:impl_solverFor x0 x1=some r) {v0:Value} {v1:Value} (w0:World) (hN:∀ c,B c→c<w0.heap.size) (A0:Bo B w0 (zC 2 xG) v0 x0) (A1:Bo B w0 (zC 2 xI) v1 x1):Calls Tryz.prog 67 #[v0,v1] w0 (Gv (fun v w'=>∃ (v1':Value),v=v1'∧Sep [] B w0 w' [ro B (V:=(Pt 4 zX)) v1' r])):=by
 unfold impl_solverFor at hR
 refine xV (L:=[(0,v0),(1,v1)]) func67 rfl rfl rfl (sc rfl (sc rfl sn)) (fun a F=>?_);have H:=Sep.start hN;refine xP ?_;obtain⟨v2,rfl,i1,h1⟩:=xG.o A0;refine oX F rfl rfl rfl H (fun a w b1 H F=>?_);obtain⟨v16,rfl,i2,h2⟩:=xI.o A1;refine oX F rfl rfl rfl H fun a w b2 H F=>xA 1 F rfl fun a F=>qU (oR0 (R:=zE) underlying155 sizeOf157 F rfl H fun a w v3 H F=>xA 1 F rfl fun a F=>xJ (xC ?_));refine xP (oY fa39_1 F rfl rfl rfl fun a F=>oB isAgg37 F rfl rfl (H.b 1 rfl) rfl fun a F=>oL underlying37 F rfl rfl h2 fun a i3 F=>xA 1 F rfl fun a F=>xJ ?_);obtain⟨o1,hR,hk1⟩:=xK hR;refine xW (fun a w=>∃ (s1:List Atom) (v4:Value),o1= .nx s1∧Sk a 30 [(2,.pointer (some ⟨b1,0,none⟩)),(3,.pointer (some ⟨b2,0,none⟩)),(5,v4)]∧Sep [] B w0 w [rw B 2 zE 157 v4 s1,bx b2 [.int .i64 x1.vars,v16] 39,bx b1 [.int .i64 x0.size,v2] 35]) ?_ ?_
 ·
  refine xS ?_;obtain⟨fl1,hf1,hR⟩:=qE hR;refine oR (fun g a w=>∃ (k1:Nat) (t1:List Con) (s2:List Atom) (v64:Value),(k1≤x1.cons.length∧x1.cons.drop k1=t1)∧t1.length=g∧qK fl1 t1 k1 s2=some o1∧Sk a 30 [(12,.int .i64 (k1:Int)),(2,.pointer (some ⟨b1,0,none⟩)),(3,.pointer (some ⟨b2,0,none⟩)),(5,v64),(10,v16),(11,.int .i64 (x1.cons.length:Int))]∧Sep [] B w0 w [rw B 2 zE 157 v64 s2,bx b2 [.int .i64 x1.vars,v16] 39,bx b1 [.int .i64 x0.size,v2] 35]) x1.cons.length ?_ ?_
  ·
   exact⟨0,x1.cons,[],v3,⟨Nat.zero_le _,rfl⟩,rfl,hR,F.su,H.lw.wk⟩
  intro g1 a w ⟨k1,t1,s2,v64,hd1,hg1,hR,F,H⟩
  cases t1 with
  | nil=>
   replace hR:=qG hR;have q1:=qH hd1.1 hd1.2;have l1:=vA q1;refine xP (xA 1 F rfl fun a F=>xJ (xC (qV F rfl l1 (oO (oQ (oQ (vJ ?_)))))));refine xF ?_;exact⟨s2,v64,(Option.some.inj hR).symm,F.su,H⟩
  | cons x2 t1=>
   subst hg1;replace hd1:=oH hd1.2;have y1:=oV hd1.2.1;obtain⟨ck1,hR,hn1⟩:=oU hR;rw[hf1] at hR;have l1:=qP hd1.1;refine xP (xA 1 F rfl fun a F=>xJ (xC (qY F rfl l1 (xL (xF (xC ?_))))));have j1:=k64 (Nat.le_of_lt hd1.1) i3;have m1:=zA hd1.1 i3;refine xS (xP (oI underlying37 sizeOf85 F rfl rfl rfl h2 y1 fun a p1 h3 F=>olA isAgg85 sizeOf85 F rfl rfl H.sm h3 fun a v5 h4 F=>oA zeroValue85 F rfl rfl H (fun a w b3 H F=>?_)));obtain⟨v6,rfl,i4,h5⟩:=qX.o h4;refine oWA (vs:=[.int .i64 x2.rel,v6]) sizeOf85 F rfl rfl rfl H (oc rfl (oc (H.a h5).one on)) rfl rfl fun w H=>xJ (xR (xA 1 F rfl fun a F=>oY fa85_0 F rfl rfl rfl fun a F=>oB isAgg2 F rfl rfl (H.b 0 rfl) rfl fun a F=>oY kV F rfl rfl rfl fun a F=>oB isAgg30 F rfl rfl (H.b 0 rfl) rfl fun a F=>o_build underlying157 zeroValue157 (fun w=>by simp [sizeOf2,sizeOf30];rfl) F rfl rfl rfl rfl rfl (oc rfl (oc (H.a h5).one on)) rfl rfl fun a F=>oR1 (R:=zE) (y:=(Atom.mk x2.rel x2.scope)) (N1:=B) underlying155 sizeOf157 zeroValue157 rfl rfl F rfl rfl H n1 (Eo.agg (zE.m i4 (H.u h5))) (fun a w v7 H F=>?_)));obtain⟨z1,c1,hR⟩:=xB hR;refine oP (sz:=2) (R:=zE) (z:=(.agg #[.int .i64 0,(.slice none 0 0)])) (bytes:=32) underlying155 (by kernel_rfl) rfl rfl F rfl rfl rfl (H.s [2,0,1,3,4] rfl rfl) c1 fun a w v8 H F=>xA 1 F rfl fun a F=>qD (qW (xF (xR (qR F rfl rfl rfl m1 fun a F=>xA 1 F rfl fun a F=>xJ ?_))));replace hR:=qZ hR hn1;exact⟨_,Nat.lt_succ_self _,k1+1,t1,z1,v8,⟨hd1.1,hd1.2.2⟩,rfl,hR,F.su,(H.s [0,2,3] rfl rfl)⟩
 intro a w ⟨s1,v4,ho1,F,H⟩;subst ho1;have hR:=xN hk1;refine xF (xP (oBA isAgg35 sizeOf35 F rfl rfl (H.b 2 rfl) rfl rfl fun a F=>oY zY F rfl rfl rfl fun a F=>oB isAgg2 F rfl rfl (H.b 1 rfl) rfl fun a F=>xA 1 F rfl fun a F=>?_));obtain⟨w1,rfl⟩:∃ x,x=w:=⟨_,rfl⟩;have sm1:=H.sm;obtain⟨X1,N2,g2,e1,H,th1,ab1⟩:=H.fza;have h6:=g2.rd;obtain⟨z2,c2,hR⟩:=xB hR;refine oG F rfl call109 rfl (impl_solverOf_s z2 c2 _ H.hN (xG.m i1 (H.u (e1 h1))) i2 (H.u h6)) (fun a vv w ⟨v9,hv1,S⟩ F=>?_);subst vv;have H:=H.r1 S n1;obtain⟨w2,rfl⟩:∃ x,x=w:=⟨_,rfl⟩;have sm2:=H.sm;obtain⟨X2,N3,g3,e2,H,th2,ab2⟩:=H.fza;have h7:=g3.rod;refine xA 1 F rfl fun a F=>xJ (xT ?_);have H:=H.rob h7;have H:=(th1.2.1 (th2.2.1 (H.s [0] rfl rfl) (Ns.all trivial)) (Ns.all trivial));refine xO F rfl (oD F rfl) ?_;obtain rfl:=Option.some.inj hR;exact⟨_,rfl,v9,rfl,H⟩
def impl_solver_first (N:Nat) (x0:solver) (x1:List Int):Option ((List Int)×Bool):=
 vO (σ:=Unit) (
  qK (σ:=Unit) (ρ:=(List Int)×Bool) (fun(k1:Nat) (x2:Int) (s:Unit)=>
    match s with
    | _=>
    xX (ck ((k1:Int)+1)) fun z1=>
    xX (sl x1 0 z1) fun z2=>
    xX (impl_solver_goes N x0 z2) fun z3=>
    if (!z3) then
     some (.ret ([],false))
    else
     some (.go ())) x1 0 ()) fun _=>
 xX (solver_walk (fun a _=>some (false,a)) N x0 x1 ([])) fun z4=>
 some (z4.2,(!z4.1))
theorem impl_solver_first_c {B:Nat→Prop} {N:Nat} {x0:solver} {x1:List Int} (r:(List Int)×Bool) (hR:impl_solver_first N x0 x1=some r) {v0:Value} {v1:Value} (w0:World) (hN:∀ c,B c→c<w0.heap.size) (A0:Bo B w0 (Pt 4 zX) v0 x0) (A1:Bo B w0 (Sl 1 xH) v1 x1):Calls Tryz.prog 68 #[v0,v1] w0 (Gv (fun v w'=>∃ (v1':Value),v= .tuple #[v1',.bool r.2]∧Sep [] B w0 w' [rl 1 xH 2 v1' r.1])):=by
 unfold impl_solver_first at hR
 refine xV (L:=[(0,v0),(1,v1)]) func68 rfl rfl rfl (sc rfl (sc rfl sn)) (fun a F=>?_);have H:=Sep.start hN;refine xP (xA 2 F rfl fun a F=>xJ (xC (xP (xA 1 F rfl fun a F=>oL underlying30 F rfl rfl A1 (fun a i1 F=>?_)))));refine xA 1 F rfl fun a F=>xJ ?_;obtain⟨o1,hR,hk1⟩:=xK hR;refine xW (fun a w=>o1= .nx ()∧Sk a 29 [(0,v0),(1,v1)]∧Sep [] B w0 w []) ?_ ?_
 ·
  refine xS ?_;obtain⟨fl1,hf1,hR⟩:=qE hR;refine oR (fun g a w=>∃ (k1:Nat) (t1:List Int),(k1≤x1.length∧x1.drop k1=t1)∧t1.length=g∧qK fl1 t1 k1 ()=some o1∧Sk a 29 [(11,.int .i64 (k1:Int)),(0,v0),(1,v1),(10,.int .i64 (x1.length:Int))]∧Sep [] B w0 w []) x1.length ?_ ?_
  ·
   exact⟨0,x1,⟨Nat.zero_le _,rfl⟩,rfl,hR,F.su,H⟩
  intro g1 a w ⟨k1,t1,hd32,hg1,hR,F,H⟩
  cases t1 with
  | nil=>
   replace hR:=qG hR;have q1:=qH hd32.1 hd32.2;have l1:=vA q1;refine xP (xA 1 F rfl fun a F=>xJ (xC (qV F rfl l1 (oO (oQ (oQ (vJ ?_)))))));refine xF ?_;exact⟨(Option.some.inj hR).symm,F.su,H⟩
  | cons x2 t1=>
   subst hg1;replace hd32:=oH hd32.2;have y1:=oV hd32.2.1;obtain⟨ck1,hR,hn1⟩:=oU hR;rw[hf1] at hR;have l1:=qP hd32.1;refine xP (xA 1 F rfl fun a F=>xJ (xC (qY F rfl l1 (xL (xF (xC ?_))))));have j1:=k64 (Nat.le_of_lt hd32.1) i1;have m1:=zA hd32.1 i1;refine xS (xP (xA 2 F rfl fun a F=>qU (xA 2 F rfl fun a F=>?_)));refine xA 1 F rfl fun a F=>?_;obtain⟨z1,c1,hR⟩:=xB hR;refine kX F rfl rfl rfl c1 (fun a F=>?_);obtain⟨z2,c2,hR⟩:=xB hR;refine oC underlying30 sizeOf2 F rfl rfl rfl rfl A1 c2 (fun a v2 h1 F=>?_);obtain⟨z3,c3,hR⟩:=xB hR;refine oK F rfl call110 rfl H (impl_solver_goes_c z3 c3 _ aA (H.a A0) (H.a h1)) fun a w H F=>xA 1 F rfl fun a F=>xJ (qT F rfl (fun hb1=>?_) (fun hb1=>?_))
   ·
    replace hR:=vS hb1 hR;refine xP (xA 2 F rfl fun a F=>xJ (xT (vH (oE (oE ?_)))));replace hR:=zS hR hn1;refine vH (oE ?_);replace hR:=zR hR hk1;refine oE (zV F rfl (oD F rfl) (oD F rfl) ?_);obtain rfl:=Option.some.inj hR;exact⟨_,rfl,(.slice none 0 0),rfl,(H.nl 1 xH 2)⟩
   replace hR:=vR hb1 hR;refine xL (qW (xF (xR (qR F rfl rfl rfl m1 fun a F=>xA 1 F rfl fun a F=>xJ ?_))));replace hR:=qZ hR hn1;exact⟨_,Nat.lt_succ_self _,k1+1,t1,⟨hd32.1,hd32.2.2⟩,rfl,hR,F.su,H⟩
 intro a w ⟨ho1,F,H⟩;subst ho1;have hR:=xN hk1;refine xF (xP (oA zeroValue30 F rfl rfl H fun a w b1 H F=>qU (xA 2 F rfl fun a F=>o_func F rfl rfl rfl (fun a F=>?_))));have H:=H.nl 1 xH 2;obtain⟨z4,c4,hR⟩:=xB hR;obtain⟨X1,K1,bk1⟩:=Sep.lend1 (A:=bI b1 ([])) (Sep.exI (f:=fun v=>pr (bx b1 [v] 30) (rl 1 xH 2 v ([]))) (b:=(.slice none 0 0)) ((H.s [1,0] rfl rfl)).mg);refine oG F rfl call111 rfl (solver_walk_c (fun _ _ h=>h) call112 (first1_c b1) N z4 c4 _ K1 (H.u A0) (H.u A1)) (fun a vv w ⟨hv,S⟩ F=>?_);subst vv;obtain⟨v3,H⟩:=Sep.exE (f:=fun v=>pr (bx b1 [v] 30) (rl 1 xH 2 v z4.2)) (bk1 S);have H:=H.um;refine xA 2 F rfl fun a F=>qU (oB isAgg30 F rfl rfl (H.b 0 rfl) rfl fun a F=>xA 3 F rfl fun a F=>qD ?_);refine xF (xT (zV F rfl (oD F rfl) (oD F rfl) ?_));obtain rfl:=Option.some.inj hR;exact⟨_,rfl,v3,rfl,(H.s [1] rfl rfl)⟩
def impl_Con_allows_1 (x0:List Int) (y0:Con) (y1:Int) (y2:Int) (y3:Int) (y4:Int):Option Bool:=
 vO (σ:=Unit) (
  qK (σ:=Unit) (ρ:=Bool) (fun(k1:Nat) (x1:Int) (s:Unit)=>
    match s with
    | _=>
    vO (σ:=Bool) (
     if (x1==y1) then  xX (ix x0 (k1:Int)) fun z1=>
      if (z1 != y2) then  some (.nx true) else  if (x1==y3) then  some (.nx (z1 != y4)) else  some (.nx false) else  if (x1==y3) then  xX (ix x0 (k1:Int)) fun z2=>
       some (.nx (z2 != y4)) else  some (.nx false)) fun s1=>
    if s1 then
     some (.ret false)
    else
     some (.go ())) y0.scope 0 ()) fun _=>
 xX (impl_Con_agrees y0 x0) fun z3=>
 some z3
theorem impl_Con_allows_1_c {B:Nat→Prop} {x0:List Int} {y0:Con} {y1:Int} {y2:Int} {y3:Int} {y4:Int} (r:Bool) (hR:impl_Con_allows_1 x0 y0 y1 y2 y3 y4=some r) {v0:Value} {v1:Value} {v2:Value} {v3:Value} {v4:Value} {v5:Value} (w0:World) (hN:∀ c,B c→c<w0.heap.size) (A0:Bo B w0 (Sl 1 xH) v0 x0) (A1:Bo B w0 (Pt 2 qX) v1 y0) (A2:Bo B w0 (Pt 1 xH) v2 y1) (A3:Bo B w0 (Pt 1 xH) v3 y2) (A4:Bo B w0 (Pt 1 xH) v4 y3) (A5:Bo B w0 (Pt 1 xH) v5 y4):Calls Tryz.prog 172 #[v0,v1,v2,v3,v4,v5] w0 (vV (.bool r) w0):=by
 unfold impl_Con_allows_1 at hR
 refine xV (L:=[(0,v0),(1,v1),(2,v2),(3,v3),(4,v4),(5,v5)]) func172 rfl rfl rfl (sc rfl (sc rfl (sc rfl (sc rfl (sc rfl (sc rfl sn)))))) (fun a F=>?_);have H:=Sep.start hN;refine xP (xA 1 F rfl fun a F=>xJ (xC (xP (oF (s':=1) kV F rfl rfl A1 qX.f1 fun a p1 h1 F=>olS isAgg30 F rfl rfl H.sm h1 fun a v6 h2 F=>oL underlying30 F rfl rfl h2 (fun a i1 F=>?_)))));refine xA 1 F rfl fun a F=>xJ ?_;obtain⟨o1,hR,hk1⟩:=xK hR;refine xW (fun a w=>o1= .nx ()∧Sk a 46 [(0,v0),(1,v1)]∧Sep [] B w0 w []) ?_ ?_
 ·
  refine xS ?_;obtain⟨fl1,hf1,hR⟩:=qE hR;refine oR (fun g a w=>∃ (k1:Nat) (t1:List Int),(k1≤y0.scope.length∧y0.scope.drop k1=t1)∧t1.length=g∧qK fl1 t1 k1 ()=some o1∧Sk a 46 [(13,.int .i64 (k1:Int)),(0,v0),(1,v1),(2,v2),(3,v3),(4,v4),(5,v5),(11,v6),(12,.int .i64 (y0.scope.length:Int))]∧Sep [] B w0 w []) y0.scope.length ?_ ?_
  ·
   exact⟨0,y0.scope,⟨Nat.zero_le _,rfl⟩,rfl,hR,F.su,H⟩
  intro g1 a w ⟨k1,t1,hd1,hg1,hR,F,H⟩
  cases t1 with
  | nil=>
   replace hR:=qG hR;have q1:=qH hd1.1 hd1.2;have l1:=vA q1;refine xP (xA 1 F rfl fun a F=>xJ (xC (qV F rfl l1 (oO (oQ (oQ (vJ ?_)))))));refine xF ?_;exact⟨(Option.some.inj hR).symm,F.su,H⟩
  | cons x1 t1=>
   subst hg1;replace hd1:=oH hd1.2;have y5:=oV hd1.2.1;obtain⟨ck1,hR,hn1⟩:=oU hR;rw[hf1] at hR;have l1:=qP hd1.1;refine xP (xA 1 F rfl fun a F=>xJ (xC (qY F rfl l1 (xL (xF (xC ?_))))));have j1:=k64 (Nat.le_of_lt hd1.1) i1;have m1:=zA hd1.1 i1;refine xS (xP (xA 1 F rfl fun a F=>oI underlying30 sizeOf2 F rfl rfl rfl h2 y5 fun a p2 h3 F=>olI isAgg2 F rfl rfl H.sm h3 fun a i2 F=>xA 2 F rfl fun a F=>xJ (xC ?_)));obtain⟨o2,hR,hk2⟩:=xK hR;refine xW (fun a w=>∃ (s1:Bool),o2= .nx s1∧Sk a 46 [(0,v0),(1,v1),(2,v2),(3,v3),(4,v4),(5,v5),(11,v6),(12,.int .i64 (y0.scope.length:Int)),(13,.int .i64 (k1:Int)),(41,.bool s1)]∧Sep [] B w0 w []) ?_ ?_
   ·
    refine xQ H (by kernel_rfl) (by kernel_rfl) (xU F rfl (fun w l=>xM F rfl) fun a F=>qlI isAgg2 F rfl rfl H.q A2 fun a i3 F=>xU F rfl (fun w l=>r_eql F rfl rfl) fun a F=>xU F rfl (fun w l=>xM F rfl) (fun a F=>?_))
    rcases vG (x1==y1) with hb1 | hb1
    ·
     replace hR:=vS hb1 hR;have F:=F.eq (t:=21) rfl (congrArg Value.bool hb1);refine xU F rfl (fun w l=>xM F rfl) fun a F=>xU F rfl (fun w l=>xM F rfl) (fun a F=>?_);obtain⟨z1,c1,hR⟩:=xB hR;refine qI underlying30 sizeOf2 F rfl rfl rfl A0 c1 fun a p3 h4 F=>qlI isAgg2 F rfl rfl H.q h4 fun a i4 F=>qlI isAgg2 F rfl rfl H.q A3 fun a i5 F=>xU F rfl (fun w l=>r_neq F rfl rfl) fun a F=>xU F rfl (fun w l=>r_pickt F rfl rfl) fun a F=>xU F rfl (fun w l=>xM F rfl) (fun a F=>?_)
     rcases vG (z1 != y2) with hb2 | hb2
     ·
      replace hR:=vS hb2 hR;have F:=F.eq (t:=29) rfl (congrArg Value.bool hb2);refine qS F rfl rfl fun a F=>qS F rfl rfl fun a F=>qS F rfl rfl fun a F=>qS F rfl rfl fun a F=>qS F rfl rfl fun a F=>qS F rfl rfl fun a F=>qS F rfl rfl fun a F=>qS F rfl rfl fun a F=>qS F rfl rfl fun a F=>qS F rfl rfl fun a F=>qS F rfl rfl (fun a F=>?_);refine xU F rfl (fun w l=>r_pickt F rfl rfl) fun a F=>kP fun w H=>xF ?_;exact⟨true,(Option.some.inj hR).symm,F.su,H⟩
     replace hR:=vR hb2 hR;have F:=F.eq (t:=29) rfl (congrArg Value.bool hb2);refine xU F rfl (fun w l=>xM F rfl) fun a F=>qlI isAgg2 F rfl rfl H.q A4 fun a i6 F=>xU F rfl (fun w l=>r_eql F rfl rfl) fun a F=>xU F rfl (fun w l=>xM F rfl) (fun a F=>?_)
     rcases vG (x1==y3) with hb3 | hb3
     ·
      replace hR:=vS hb3 hR;have F:=F.eq (t:=33) rfl (congrArg Value.bool hb3);refine xU F rfl (fun w l=>xM F rfl) fun a F=>xU F rfl (fun w l=>xM F rfl) fun a F=>qI underlying30 sizeOf2 F rfl rfl rfl A0 c1 fun a p4 h5 F=>qlI isAgg2 F rfl rfl H.q h5 fun a i7 F=>qlI isAgg2 F rfl rfl H.q A5 fun a i8 F=>xU F rfl (fun w l=>r_neq F rfl rfl) fun a F=>xU F rfl (fun w l=>r_pickt F rfl rfl) fun a F=>xU F rfl (fun w l=>r_pickf F rfl rfl) fun a F=>kP fun w H=>xF ?_;exact⟨(z1 != y4),(Option.some.inj hR).symm,F.su,H⟩
     replace hR:=vR hb3 hR;have F:=F.eq (t:=33) rfl (congrArg Value.bool hb3);refine qS F rfl rfl fun a F=>qS F rfl rfl fun a F=>qS F rfl rfl fun a F=>qS F rfl rfl fun a F=>qS F rfl rfl fun a F=>qS F rfl rfl fun a F=>xU F rfl (fun w l=>r_pickf F rfl rfl) fun a F=>xU F rfl (fun w l=>r_pickf F rfl rfl) fun a F=>kP fun w H=>xF ?_;exact⟨false,(Option.some.inj hR).symm,F.su,H⟩
    replace hR:=vR hb1 hR;have F:=F.eq (t:=21) rfl (congrArg Value.bool hb1);refine qS F rfl rfl fun a F=>qS F rfl rfl fun a F=>qS F rfl rfl fun a F=>qS F rfl rfl fun a F=>qS F rfl rfl fun a F=>qS F rfl rfl fun a F=>xU F rfl (fun w l=>r_pickf F rfl rfl) fun a F=>xU F rfl (fun w l=>xM F rfl) fun a F=>xU F rfl (fun w l=>xM F rfl) fun a F=>qlI isAgg2 F rfl rfl H.q A4 fun a i9 F=>xU F rfl (fun w l=>r_eql F rfl rfl) (fun a F=>?_);refine xU F rfl (fun w l=>xM F rfl) (fun a F=>?_)
    rcases vG (x1==y3) with hb4 | hb4
    ·
     replace hR:=vS hb4 hR;have F:=F.eq (t:=33) rfl (congrArg Value.bool hb4);refine xU F rfl (fun w l=>xM F rfl) fun a F=>xU F rfl (fun w l=>xM F rfl) (fun a F=>?_);obtain⟨z2,c2,hR⟩:=xB hR;refine qI underlying30 sizeOf2 F rfl rfl rfl A0 c2 fun a p5 h6 F=>qlI isAgg2 F rfl rfl H.q h6 fun a i10 F=>qlI isAgg2 F rfl rfl H.q A5 fun a i11 F=>xU F rfl (fun w l=>r_neq F rfl rfl) fun a F=>xU F rfl (fun w l=>r_pickt F rfl rfl) fun a F=>xU F rfl (fun w l=>r_pickf F rfl rfl) fun a F=>kP fun w H=>xF ?_;exact⟨(z2 != y4),(Option.some.inj hR).symm,F.su,H⟩
    replace hR:=vR hb4 hR;have F:=F.eq (t:=33) rfl (congrArg Value.bool hb4);refine qS F rfl rfl fun a F=>qS F rfl rfl fun a F=>qS F rfl rfl fun a F=>qS F rfl rfl fun a F=>qS F rfl rfl fun a F=>qS F rfl rfl fun a F=>xU F rfl (fun w l=>r_pickf F rfl rfl) fun a F=>xU F rfl (fun w l=>r_pickf F rfl rfl) fun a F=>kP fun w H=>xF ?_;exact⟨false,(Option.some.inj hR).symm,F.su,H⟩
   intro a w ⟨s1,ho1,F,H⟩;subst ho1;have hR:=xN hk2;refine xF (qT F rfl (fun hb5=>?_) (fun hb5=>?_))
   ·
    replace hR:=vS hb5 hR;refine xP (xA 1 F rfl fun a F=>xJ (xT (vH (oE (oE ?_)))));replace hR:=zS hR hn1;refine vH (oE ?_);replace hR:=zR hR hk1;refine oE (xO F rfl (oD F rfl) ?_);obtain rfl:=Option.some.inj hR;exact⟨rfl,H.bl⟩
   replace hR:=vR hb5 hR;refine xL (qW (xF (xR (qR F rfl rfl rfl m1 fun a F=>xA 1 F rfl fun a F=>xJ ?_))));replace hR:=qZ hR hn1;exact⟨_,Nat.lt_succ_self _,k1+1,t1,⟨hd1.1,hd1.2.2⟩,rfl,hR,F.su,H⟩
 intro a w ⟨ho2,F,H⟩;subst ho2;have hR:=xN hk1;refine xF (xP (olA isAgg85 sizeOf85 F rfl rfl H.sm A1 fun a v7 h7 F=>xA 1 F rfl fun a F=>?_));obtain⟨z3,c3,hR⟩:=xB hR;refine oK F rfl call140 rfl H (impl_Con_agrees_c z3 c3 _ aA (H.a h7) (H.a A0)) fun a w H F=>xA 1 F rfl fun a F=>xJ (xT (xO F rfl (oD F rfl) ?_));obtain rfl:=Option.some.inj hR;exact⟨rfl,H.bl⟩
def impl_Con_allows (x0:Con) (x1:Template) (x2:Int) (x3:Int) (x4:Int) (x5:Int):Option Bool:=
 vO (σ:=Bool) (
  xX (vK x0.scope x2) fun z32=>
  if (!z32) then  xX (vK x0.scope x3) fun z1=>
   some (.nx (!z1)) else  some (.nx false)) fun s1=>
 if s1 then
  some true
 else
  xX (ix x1.rels x0.rel) fun z2=>
  xX (qO z2.tuples (fun a0=>impl_Con_allows_1 a0 (Con.mk x0.rel x0.scope) x2 x4 x3 x5)) fun z3=>
  some z3
theorem impl_Con_allows_c {B:Nat→Prop} {x0:Con} {x1:Template} {x2:Int} {x3:Int} {x4:Int} {x5:Int} (r:Bool) (hR:impl_Con_allows x0 x1 x2 x3 x4 x5=some r) {v0:Value} {v1:Value} (w0:World) (hN:∀ c,B c→c<w0.heap.size) (A0:Bo B w0 (zC 2 qX) v0 x0) (A1:Bo B w0 (zC 2 xG) v1 x1) (hx2:xY x2) (hx3:xY x3) (hx4:xY x4) (hx5:xY x5):Calls Tryz.prog 152 #[v0,v1,.int .i64 x2,.int .i64 x3,.int .i64 x4,.int .i64 x5] w0 (vV (.bool r) w0):=by
 unfold impl_Con_allows at hR
 refine xV (L:=[(0,v0),(1,v1),(2,.int .i64 x2),(3,.int .i64 x3),(4,.int .i64 x4),(5,.int .i64 x5)]) func152 rfl rfl rfl (sc rfl (sc rfl (sc rfl (sc rfl (sc rfl (sc rfl sn)))))) (fun a F=>?_);have H:=Sep.start hN;refine xP ?_;obtain⟨v2,rfl,i1,h1⟩:=qX.o A0;refine oX F rfl rfl rfl H (fun a w b1 H F=>?_);obtain⟨v16,rfl,i2,h2⟩:=xG.o A1;refine oX F rfl rfl rfl H fun a w b2 H F=>oX F rfl rfl rfl H fun a w b3 H F=>oX F rfl rfl rfl H fun a w b4 H F=>oX F rfl rfl rfl H fun a w b5 H F=>oX F rfl rfl rfl H fun a w b6 H F=>xA 1 F rfl fun a F=>xJ (xC (xC ?_));obtain⟨o1,hR,hk1⟩:=xK hR;refine xW (fun a w=>∃ (s1:Bool),o1= .nx s1∧Sk a 34 [(6,.pointer (some ⟨b1,0,none⟩)),(7,.pointer (some ⟨b2,0,none⟩)),(8,.pointer (some ⟨b3,0,none⟩)),(9,.pointer (some ⟨b4,0,none⟩)),(10,.pointer (some ⟨b5,0,none⟩)),(11,.pointer (some ⟨b6,0,none⟩)),(24,.bool s1)]∧Sep [] B w0 w [bx b6 [.int .i64 x5] 2,bx b5 [.int .i64 x4] 2,bx b4 [.int .i64 x3] 2,bx b3 [.int .i64 x2] 2,bx b2 [.int .i64 x1.size,v16] 35,bx b1 [.int .i64 x0.rel,v2] 85]) ?_ ?_
 ·
  refine xR (oY kV F rfl rfl rfl fun a F=>oB isAgg30 F rfl rfl (H.b 5 rfl) rfl fun a F=>oB isAgg2 F rfl rfl (H.b 3 rfl) rfl (fun a F=>?_));obtain⟨z32,c1,hR⟩:=xB hR;refine oK F rfl call141 rfl H (slices_Contains_s_int64_int64_c z32 c1 _ aA (H.a h1) hx2) fun a w H F=>xA 2 F rfl fun a F=>?_
  rcases vG (!z32) with hb1 | hb1
  ·
   replace hR:=vS hb1 hR;have F:=F.eq (t:=18) rfl (congrArg Value.bool hb1);refine oY kV F rfl rfl rfl fun a F=>oB isAgg30 F rfl rfl (H.b 5 rfl) rfl fun a F=>oB isAgg2 F rfl rfl (H.b 2 rfl) rfl (fun a F=>?_);obtain⟨z1,c2,hR⟩:=xB hR;refine oK F rfl call141 rfl H (slices_Contains_s_int64_int64_c z1 c2 _ aA (H.a h1) hx3) fun a w H F=>xA 2 F rfl fun a F=>xJ ?_;exact⟨(!z1),(Option.some.inj hR).symm,F.su,H⟩
  replace hR:=vR hb1 hR;have F:=F.eq (t:=18) rfl (congrArg Value.bool hb1);refine xA 6 F rfl fun a F=>xJ ?_;exact⟨false,(Option.some.inj hR).symm,F.su,H⟩
 intro a w ⟨s1,ho1,F,H⟩;subst ho1;have hR:=xN hk1;refine xF (qT F rfl (fun hb2=>?_) (fun hb2=>?_))
 ·
  replace hR:=vS hb2 hR;refine xP (xA 1 F rfl fun a F=>xJ (xT (oE (xO F rfl (oD F rfl) ?_))));obtain rfl:=Option.some.inj hR;exact⟨rfl,H.bl⟩
 replace hR:=vR hb2 hR;refine xL (xF (xP (oY fa35_1 F rfl rfl rfl fun a F=>oB isAgg33 F rfl rfl (H.b 4 rfl) rfl fun a F=>oY fa85_0 F rfl rfl rfl fun a F=>oB isAgg2 F rfl rfl (H.b 5 rfl) rfl (fun a F=>?_))));obtain⟨z2,c3,hR⟩:=xB hR;refine oI underlying33 sizeOf69 F rfl rfl rfl h2 c3 fun a p1 h3 F=>oF (s':=1) vX F rfl rfl h3 oM.f1 fun a p2 h4 F=>olS isAgg67 F rfl rfl H.sm h4 fun a v3 h5 F=>o_func F rfl rfl rfl (fun a F=>?_);obtain⟨z3,c4,hR⟩:=xB hR;refine oK F rfl call119 rfl H (kG z3 c4 _ aA (H.a h5) call172 (fun a0 r h W l1 u0 f0=>impl_Con_allows_1_c r h W aA f0 ((qX.b (H.g 5 rfl).bk i1 (H.a h1)).w l1) ((c1I (H.g 3 rfl).bk hx2).w l1) ((c1I (H.g 1 rfl).bk hx4).w l1) ((c1I (H.g 2 rfl).bk hx3).w l1) ((c1I (H.g 0 rfl).bk hx5).w l1))) fun a w H F=>xA 1 F rfl fun a F=>xJ (xT (xO F rfl (oD F rfl) ?_));obtain rfl:=Option.some.inj hR;exact⟨rfl,H.bl⟩
def impl_firstPairs_1_1 (x0:Con) (y0:Template) (y1:Int) (y2:Int) (y3:(List Int)):Option Bool:=
 xX (ix y3 0) fun z1=>
 xX (ix y3 1) fun z2=>
 xX (impl_Con_allows (Con.mk x0.rel x0.scope) y0 y1 y2 z1 z2) fun z3=>
 some ((!z3))
theorem impl_firstPairs_1_1_c {B:Nat→Prop} {x0:Con} {y0:Template} {y1:Int} {y2:Int} {y3:(List Int)} (r:Bool) (hR:impl_firstPairs_1_1 x0 y0 y1 y2 y3=some r) {v0:Value} {v1:Value} {v2:Value} {v3:Value} {v4:Value} (w0:World) (hN:∀ c,B c→c<w0.heap.size) (A0:Bo B w0 (zC 2 qX) v0 x0) (A1:Bo B w0 (Pt 2 xG) v1 y0) (A2:Bo B w0 (Pt 1 xH) v2 y1) (A3:Bo B w0 (Pt 1 xH) v3 y2) (A4:Bo B w0 (Pt 1 (vY 1 xH)) v4 y3):Calls Tryz.prog 151 #[v0,v1,v2,v3,v4] w0 (vV (.bool r) w0):=by
 unfold impl_firstPairs_1_1 at hR
 refine xV (L:=[(0,v0),(1,v1),(2,v2),(3,v3),(4,v4)]) func151 rfl rfl rfl (sc rfl (sc rfl (sc rfl (sc rfl (sc rfl sn))))) (fun a F=>?_);have H:=Sep.start hN;refine xP ?_;obtain⟨v5,rfl,i1,h1⟩:=qX.o A0;refine oX F rfl rfl rfl H fun a w b1 H F=>xA 1 F rfl fun a F=>xJ (xC (xQ H (by kernel_rfl) (by kernel_rfl) (qBA isAgg85 sizeOf85 F rfl rfl (H.qb 0 rfl) rfl rfl fun a F=>qlA isAgg35 sizeOf35 F rfl rfl H.q A1 fun a v6 h16 F=>qlI isAgg2 F rfl rfl H.q A2 fun a i2 F=>qlI isAgg2 F rfl rfl H.q A3 fun a i3 F=>qlS isAgg30 F rfl rfl H.q A4 (fun a v7 h2 F=>?_))));obtain⟨z1,c1,hR⟩:=xB hR;refine qI underlying30 sizeOf2 F rfl rfl rfl h2 c1 fun a p1 h3 F=>qlI isAgg2 F rfl rfl H.q h3 fun a i4 F=>qlS isAgg30 F rfl rfl H.q A4 (fun a v8 h4 F=>?_);obtain⟨z2,c2,hR⟩:=xB hR;refine qI underlying30 sizeOf2 F rfl rfl rfl h4 c2 fun a p2 h5 F=>qlI isAgg2 F rfl rfl H.q h5 (fun a i32 F=>?_);obtain⟨z3,c3,hR⟩:=xB hR;refine q_says F rfl call152 rfl (fun w w' h l=>l.through h) (fun w l=>impl_Con_allows_c z3 c3 w aA (qX.m i1 ((H.go l).a h1)) ((H.go l).a h16) i2 i3 i4 i32) fun a F=>xU F rfl (fun w l=>r_not F rfl) fun a F=>xU F rfl (fun w l=>kL F rfl) fun a F=>kP fun w H=>xF (xT (xO F rfl (oD F rfl) ?_));obtain rfl:=Option.some.inj hR;exact⟨rfl,H.bl⟩
def impl_firstPairs_1 (x0:List Int) (y0:Instance) (y1:Template) (y2:Int) (y3:Int):Option Bool:=
 xX (zH y0.cons (fun a0=>impl_firstPairs_1_1 a0 y1 y2 y3 x0)) fun z16=>
 some ((!z16))
theorem impl_firstPairs_1_c {B:Nat→Prop} {x0:List Int} {y0:Instance} {y1:Template} {y2:Int} {y3:Int} (r:Bool) (hR:impl_firstPairs_1 x0 y0 y1 y2 y3=some r) {v0:Value} {v1:Value} {v2:Value} {v3:Value} {v4:Value} (w0:World) (hN:∀ c,B c→c<w0.heap.size) (A0:Bo B w0 (Sl 1 xH) v0 x0) (A1:Bo B w0 (Pt 2 xI) v1 y0) (A2:Bo B w0 (Pt 2 xG) v2 y1) (A3:Bo B w0 (Pt 1 xH) v3 y2) (A4:Bo B w0 (Pt 1 xH) v4 y3):Calls Tryz.prog 150 #[v0,v1,v2,v3,v4] w0 (vV (.bool r) w0):=by
 unfold impl_firstPairs_1 at hR
 refine xV (L:=[(0,v0),(1,v1),(2,v2),(3,v3),(4,v4)]) func150 rfl rfl rfl (sc rfl (sc rfl (sc rfl (sc rfl (sc rfl sn))))) (fun a F=>?_);have H:=Sep.start hN;refine xP (oX F rfl rfl (one_cells (H.a A0).one) H fun a w b1 H F=>xA 1 F rfl fun a F=>qU (oF (s':=1) fa39_1 F rfl rfl A1 xI.f1 fun a p1 h1 F=>olS isAgg37 F rfl rfl H.sm h1 fun a v5 h2 F=>o_func F rfl rfl rfl (fun a F=>?_)));obtain⟨z16,c1,hR⟩:=xB hR;refine oK F rfl call55 rfl H (slices_ContainsFunc_s_Con_Con_c z16 c1 _ aA (H.a h2) call151 (fun a0 r h W l1 u0 f0=>impl_firstPairs_1_1_c r h W aA f0 ((H.a A2).w l1) ((H.a A3).w l1) ((H.a A4).w l1) ((c1S (H.g 0 rfl).bk (H.a A0)).w l1))) fun a w H F=>xA 2 F rfl fun a F=>xJ (xT (xO F rfl (oD F rfl) ?_));obtain rfl:=Option.some.inj hR;exact⟨rfl,H.bl⟩
def impl_relOf (N:Nat) (x0:Int) (x1:Int) (x2:(List Int)→Option Bool):Option Rel:=
 xX (kU x0 x1) fun z1=>
 vO (σ:=(List (List Int))) (
  vQ (σ:=(List (List Int))) (ρ:=Rel) (fun(k1:Nat) (s1:(List (List Int)))=>
   xX (zF N x0 x1 (k1:Int)) fun z2=>
   xX (x2 z2) fun z3=>
   if z3 then
    xX (ap s1 ([z2])) fun z4=>
    some (.go z4)
   else
    some (.go s1)) z1.toNat 0 []) fun s2=>
 some ((Rel.mk x1 s2))
theorem impl_relOf_c {B:Nat→Prop} {N:Nat} {x0:Int} {x1:Int} {x2:(List Int)→Option Bool} (r:Rel) (hR:impl_relOf N x0 x1 x2=some r) {g2:FuncId} {lb2:List Value} (w0:World) (hN:∀ c,B c→c<w0.heap.size) (hx0:xY x0) (hx1:xY x1) (hg2:∀ args w,(callFunc g2 args).run Tryz.prog w= .ok (.enter g2 args) w) (hp2:∀ (a0:List Int) (r:Bool),x2 a0=some r→∀ W,Below w0.heap.size w0 W→∀ (u0:Value),Bo (All W) W (Sl 1 xH) u0 a0→Calls Tryz.prog g2 ([u0]++lb2:List Value).toArray W (vV (.bool r) W)):Calls Tryz.prog 149 #[.int .i64 x0,.int .i64 x1,.func (.func g2) #[] lb2.toArray] w0 (Gv (fun v w'=>∃ (v1':Value),v= .agg #[.int .i64 r.arity,v1']∧Sep [] B w0 w' [rl 1 (vY 1 xH) 30 v1' r.tuples]∧xY r.arity)):=by
 unfold impl_relOf at hR
 refine xV (L:=[(0,.int .i64 x0),(1,.int .i64 x1),(2,.func (.func g2) #[] lb2.toArray)]) func149 rfl rfl rfl (sc rfl (sc rfl (sc rfl sn))) (fun a F=>?_);have H:=Sep.start hN;refine xP (oA zeroValue69 F rfl rfl H fun a w b1 H F=>qU (xA 1 F rfl fun a F=>o_build underlying69 zeroValue69 (fun w=>by simp [sizeOf2,sizeOf67];rfl) F rfl rfl rfl rfl rfl (oc rfl on) rfl rfl fun a F=>oA zeroValue69 F rfl rfl H fun a w b2 H F=>oWA (vs:=[.int .i64 x1,(.slice none 0 0)]) sizeOf69 F rfl rfl rfl H (oc rfl (oc rfl on)) rfl rfl (fun w H=>?_)));refine xJ (xC (xP (xA 2 F rfl fun a F=>?_)));obtain⟨z1,c1,hR⟩:=xB hR;refine oKI F rfl call117 rfl H (impl_power_c z1 c1 _ aA hx0 hx1) fun a w H iz1 F=>xA 1 F rfl fun a F=>xJ ?_;obtain⟨o1,hR,hk1⟩:=xK hR;refine xW (fun a w=>∃ (s1:List (List Int)) (v1:Value),o1= .nx s1∧Sk a 33 [(6,.pointer (some ⟨b1,0,none⟩)),(7,.pointer (some ⟨b2,0,none⟩))]∧Sep [] B w0 w [rl 1 (vY 1 xH) 30 v1 s1,bx b2 [.int .i64 x1,v1] 69,bx b1 [.int .i64 0,(.slice none 0 0)] 69]) ?_ ?_
 ·
  refine xS ?_;obtain⟨fl1,hf1,hR⟩:=zI hR;refine oR (fun g a w=>∃ (k1:Nat) (s2:List (List Int)) (v2:Value),k1+g=z1.toNat∧vQ fl1 g k1 s2=some o1∧Sk a 33 [(15,.int .i64 (k1:Int)),(0,.int .i64 x0),(1,.int .i64 x1),(2,.func (.func g2) #[] lb2.toArray),(6,.pointer (some ⟨b1,0,none⟩)),(7,.pointer (some ⟨b2,0,none⟩)),(14,.int .i64 z1)]∧Sep [] B w0 w [rl 1 (vY 1 xH) 30 v2 s2,bx b2 [.int .i64 x1,v2] 69,bx b1 [.int .i64 0,(.slice none 0 0)] 69]) z1.toNat ?_ ?_
  ·
   exact⟨0,[],(.slice none 0 0),(Nat.zero_add _),hR,F.su,(H.nl 1 (vY 1 xH) 30)⟩
  intro g1 a w ⟨k1,s2,v2,hd1,hR,F,H⟩
  cases g1 with
  | zero=>
   replace hR:=vT hR;have l1:=kZ hd1;refine xP (xA 1 F rfl fun a F=>xJ (xC (qV F rfl l1 (oO (oQ (oQ (vJ ?_)))))));refine xF ?_;exact⟨s2,v2,(Option.some.inj hR).symm,F.su,H⟩
  | succ g1=>
   obtain⟨ck1,hR,hn1⟩:=vU hR;rw[hf1] at hR;have l1:=kE hd1;refine xP (xA 1 F rfl fun a F=>xJ (xC (qY F rfl l1 (xL (xF (xC ?_))))));have j1:=k64I hd1 iz1;have m1:=inc64I hd1 iz1;refine xS (xP (xA 2 F rfl fun a F=>qU (xA 2 F rfl fun a F=>?_)));refine xA 1 F rfl fun a F=>?_;obtain⟨z2,c2,hR⟩:=xB hR;refine oG F rfl call118 rfl (impl_listOf_c z2 c2 _ aA hx0 hx1 j1) (fun a vv w ⟨v3,hv1,S⟩ F=>?_);subst vv;have H:=H.r1 S n0;refine xA 1 F rfl fun a F=>qU (xA 2 F rfl fun a F=>?_);obtain⟨z3,c3,hR⟩:=xB hR;refine oKV F rfl rfl hg2 rfl H (hp2 _ z3 c3 _ H.bl _ (H.l 0 rfl)) fun a w H F=>xJ (qT F rfl (fun hb1=>?_) (fun hb1=>?_))
   ·
    replace hR:=vS hb1 hR;refine xR (oY vX F rfl rfl rfl fun a F=>oB isAgg67 F rfl rfl (H.b 2 rfl) rfl fun a F=>xA 1 F rfl fun a F=>?_);have H:=H.os;refine oR1L (R:=(vY 1 xH)) (y:=z2) underlying67 sizeOf30 zeroValue30 rfl rfl F rfl rfl H El.sl (fun a w v4 H F=>?_);obtain⟨z4,c4,hR⟩:=xB hR;refine oPL (sz:=1) (R:=(vY 1 xH)) (z:=((.slice none 0 0))) (bytes:=24) underlying67 (by kernel_rfl) rfl rfl F rfl rfl rfl (H.s [1,0,2,3] rfl rfl) c4 fun a w v5 H F=>oY vX F rfl rfl rfl fun a F=>oW sizeOf67 F rfl rfl rfl (H.s [1,0,2] rfl rfl) ((H.s [1,0,2] rfl rfl).l 1 rfl).one rfl rfl fun w H=>qD (qW (xF (xR (qR F rfl rfl rfl m1 fun a F=>xA 1 F rfl fun a F=>xJ ?_))));replace hR:=qZ hR hn1;exact⟨_,Nat.lt_succ_self _,k1+1,z4,v5,(by omega),hR,F.su,(H.s [1,0,2] rfl rfl)⟩
   replace hR:=vR hb1 hR;refine xL (qW (xF (xR (qR F rfl rfl rfl m1 fun a F=>xA 1 F rfl fun a F=>xJ ?_))));replace hR:=qZ hR hn1;exact⟨_,Nat.lt_succ_self _,k1+1,s2,v2,(by omega),hR,F.su,(H.s [1,2,3] rfl rfl)⟩
 intro a w ⟨s1,v1,ho1,F,H⟩;subst ho1;have hR:=xN hk1;refine xF (xP (oBA isAgg69 sizeOf69 F rfl rfl (H.b 1 rfl) rfl rfl fun a F=>oWA (vs:=[.int .i64 x1,v1]) sizeOf69 F rfl rfl rfl (H.s [2,0,1] rfl rfl) (oc rfl (oc ((H.s [2,0,1] rfl rfl).l 1 rfl).one on)) rfl rfl fun w H=>xJ (xT (xO F rfl (rv_cA (arr:=#[.int .i64 x1,v1]) F isAgg69 sizeOf69 rfl (H.b 0 rfl)) ?_))));obtain rfl:=Option.some.inj hR;exact⟨_,rfl,v1,rfl,(H.s [1] rfl rfl),hx1⟩
def impl_firstPairs (N:Nat) (x0:Template) (x1:Instance):Option (List Rel):=
 vO (σ:=(List Rel)) (
  vQ (σ:=(List Rel)) (ρ:=(List Rel)) (fun(k1:Nat) (s1:(List Rel))=>
   vO (σ:=(List Rel)) (
    vQ (σ:=(List Rel)) (ρ:=(Ctl ((List Rel)) (List Rel))) (fun(k2:Nat) (s2:(List Rel))=>
     xX (impl_relOf N x0.size 2 (fun a0=>impl_firstPairs_1 a0 (Instance.mk x1.vars x1.cons) (Template.mk x0.size x0.rels) (k2:Int) (k1:Int))) fun z1=>
     xX (ap s2 ([(Rel.mk z1.arity z1.tuples)])) fun z2=>
     some (.go z2)) (k1:Int).toNat 0 s1) fun s3=>
   some (.go s3)) x1.vars.toNat 0 []) fun s4=>
 some s4
theorem impl_firstPairs_c {B:Nat→Prop} {N:Nat} {x0:Template} {x1:Instance} (r:(List Rel)) (hR:impl_firstPairs N x0 x1=some r) {v0:Value} {v1:Value} (w0:World) (hN:∀ c,B c→c<w0.heap.size) (A0:Bo B w0 (zC 2 xG) v0 x0) (A1:Bo B w0 (zC 2 xI) v1 x1):Calls Tryz.prog 113 #[v0,v1] w0 (Gv (fun v w'=>∃ (v1':Value),v=v1'∧Sep [] B w0 w' [rl 2 oM 69 v1' r])):=by
 unfold impl_firstPairs at hR
 refine xV (L:=[(0,v0),(1,v1)]) func113 rfl rfl rfl (sc rfl (sc rfl sn)) (fun a F=>?_);have H:=Sep.start hN;refine xP ?_;obtain⟨v2,rfl,i1,h1⟩:=xG.o A0;refine oX F rfl rfl rfl H (fun a w b1 H F=>?_);obtain⟨v16,rfl,i2,h2⟩:=xI.o A1;refine oX F rfl rfl rfl H fun a w b2 H F=>xA 1 F rfl fun a F=>qU (oR0 (R:=oM) underlying33 sizeOf69 F rfl H fun a w v3 H F=>xA 1 F rfl fun a F=>xJ (xC ?_));refine xP (oY zY F rfl rfl rfl fun a F=>oB isAgg2 F rfl rfl (H.b 1 rfl) rfl fun a F=>xA 1 F rfl fun a F=>xJ ?_);obtain⟨o1,hR,hk1⟩:=xK hR;refine xW (fun a w=>∃ (s1:List Rel) (v4:Value),o1= .nx s1∧Sk a 28 [(5,v4)]∧Sep [] B w0 w [rl 2 oM 69 v4 s1]) ?_ ?_
 ·
  refine xS ?_;obtain⟨fl1,hf1,hR⟩:=zI hR;refine oR (fun g a w=>∃ (k1:Nat) (s2:List Rel) (v5:Value),k1+g=x1.vars.toNat∧vQ fl1 g k1 s2=some o1∧Sk a 28 [(11,.int .i64 (k1:Int)),(2,.pointer (some ⟨b1,0,none⟩)),(3,.pointer (some ⟨b2,0,none⟩)),(5,v5),(10,.int .i64 x1.vars)]∧Sep [] B w0 w [rl 2 oM 69 v5 s2,bx b2 [.int .i64 x1.vars,v16] 39,bx b1 [.int .i64 x0.size,v2] 35]) x1.vars.toNat ?_ ?_
  ·
   exact⟨0,[],v3,(Nat.zero_add _),hR,F.su,H⟩
  intro g1 a w ⟨k1,s2,v5,hd1,hR,F,H⟩
  cases g1 with
  | zero=>
   replace hR:=vT hR;have l2:=kZ hd1;refine xP (xA 1 F rfl fun a F=>xJ (xC (qV F rfl l2 (oO (oQ (oQ (vJ ?_)))))));refine xF ?_;exact⟨s2,v5,(Option.some.inj hR).symm,F.su,(H.s [0] rfl rfl)⟩
  | succ g1=>
   obtain⟨ck1,hR,hn1⟩:=vU hR;rw[hf1] at hR;have l2:=kE hd1;refine xP (xA 1 F rfl fun a F=>xJ (xC (qY F rfl l2 (xL (xF (xC ?_))))));have j1:=k64I hd1 i2;have m1:=inc64I hd1 i2;refine xS (xP (xA 1 F rfl fun a F=>oA zeroValue2 F rfl rfl H fun a w b3 H F=>oW sizeOf2 F rfl rfl rfl H rfl rfl rfl fun w H=>qU (oB isAgg2 F rfl rfl (H.b 0 rfl) rfl (fun a F=>?_))));refine xA 1 F rfl fun a F=>xJ ?_;obtain⟨o2,hR,hk2⟩:=xK hR;refine xW (fun a w=>∃ (s3:List Rel) (v6:Value),o2= .nx s3∧Sk a 28 [(2,.pointer (some ⟨b1,0,none⟩)),(3,.pointer (some ⟨b2,0,none⟩)),(5,v6),(10,.int .i64 x1.vars),(11,.int .i64 (k1:Int))]∧Sep [] B w0 w [rl 2 oM 69 v6 s3,bx b2 [.int .i64 x1.vars,v16] 39,bx b1 [.int .i64 x0.size,v2] 35]) ?_ ?_
   ·
    refine xS ?_;obtain⟨fl2,hf2,hR⟩:=zI hR;refine oR (fun g a w=>∃ (k2:Nat) (s4:List Rel) (v7:Value),k2+g=(k1:Int).toNat∧vQ fl2 g k2 s4=some o2∧Sk a 28 [(15,.int .i64 (k2:Int)),(2,.pointer (some ⟨b1,0,none⟩)),(3,.pointer (some ⟨b2,0,none⟩)),(5,v7),(6,.pointer (some ⟨b3,0,none⟩)),(10,.int .i64 x1.vars),(11,.int .i64 (k1:Int)),(14,.int .i64 (k1:Int))]∧Sep [] B w0 w [bx b3 [.int .i64 (k1:Int)] 2,rl 2 oM 69 v7 s4,bx b2 [.int .i64 x1.vars,v16] 39,bx b1 [.int .i64 x0.size,v2] 35]) (k1:Int).toNat ?_ ?_
    ·
     exact⟨0,s2,v5,(Nat.zero_add _),hR,F.su,H⟩
    intro g2 a w ⟨k2,s4,v7,hd2,hR,F,H⟩
    cases g2 with
    | zero=>
     replace hR:=vT hR;have l3:=kZ hd2;refine xP (xA 1 F rfl fun a F=>xJ (xC (qV F rfl l3 (oO (oQ (oQ (vJ ?_)))))));refine xF ?_;exact⟨s4,v7,(Option.some.inj hR).symm,F.su,(H.s [1,2,3] rfl rfl)⟩
    | succ g2=>
     obtain⟨ck2,hR,hn2⟩:=vU hR;rw[hf2] at hR;have l3:=kE hd2;refine xP (xA 1 F rfl fun a F=>xJ (xC (qY F rfl l3 (xL (xF (xC ?_))))));have j2:=k64I hd2 j1;have m2:=inc64I hd2 j1;refine xS (xP (xA 1 F rfl fun a F=>oA zeroValue2 F rfl rfl H fun a w b4 H F=>oW sizeOf2 F rfl rfl rfl H rfl rfl rfl fun w H=>xJ (xR (xA 1 F rfl fun a F=>oY fa35_0 F rfl rfl rfl (fun a F=>?_)))));refine oB isAgg2 F rfl rfl (H.b 4 rfl) rfl fun a F=>o_func F rfl rfl rfl (fun a F=>?_);obtain⟨z1,c1,hR⟩:=xB hR;refine oG F rfl call149 rfl (impl_relOf_c z1 c1 _ aA i1 (show xY (2) by decide) call150 (fun a0 r h W l1 u0 f0=>impl_firstPairs_1_c r h W aA f0 ((xI.b (H.g 3 rfl).bk i2 (H.a h2)).w l1) ((xG.b (H.g 4 rfl).bk i1 (H.a h1)).w l1) ((c1I (H.g 0 rfl).bk j2).w l1) ((c1I (H.g 1 rfl).bk j1).w l1))) (fun a vv w ⟨v8,hv1,S,i3⟩ F=>?_);subst vv;have H:=H.r1 S n0;have H:=(oM.w i3 H);refine oR1L (R:=oM) (y:=(Rel.mk z1.arity z1.tuples)) underlying33 sizeOf69 zeroValue69 rfl rfl F rfl rfl H El.agg (fun a w v9 H F=>?_);obtain⟨z2,c2,hR⟩:=xB hR;refine oPL (sz:=2) (R:=oM) (z:=(.agg #[.int .i64 0,(.slice none 0 0)])) (bytes:=32) underlying33 (by kernel_rfl) rfl rfl F rfl rfl rfl (H.s [3,0,1,2,4,5] rfl rfl) c2 fun a w v10 H F=>xA 1 F rfl fun a F=>qD (qW (xF (xR (qR F rfl rfl rfl m2 fun a F=>xA 1 F rfl fun a F=>xJ ?_))));replace hR:=qZ hR hn2;exact⟨_,Nat.lt_succ_self _,k2+1,z2,v10,(by omega),hR,F.su,(H.s [2,0,3,4] rfl rfl)⟩
   intro a w ⟨s3,v6,ho1,F,H⟩;subst ho1;have hR:=xN hk2;refine qW (xF (xR (qR F rfl rfl rfl m1 fun a F=>xA 1 F rfl fun a F=>xJ ?_)));replace hR:=qZ hR hn1;exact⟨_,Nat.lt_succ_self _,k1+1,s3,v6,(by omega),hR,F.su,H⟩
 intro a w ⟨s1,v4,ho2,F,H⟩;subst ho2;have hR:=xN hk1;refine xF (xP (xA 2 F rfl fun a F=>xJ (xT (xO F rfl (oD F rfl) ?_))));obtain rfl:=Option.some.inj hR;exact⟨_,rfl,v4,rfl,H⟩
def impl_pairIndex (x0:Int) (x1:Int):Option Int:=
 xX (ck ((if x0<x1 then x1 else x0) - 1)) fun z1=>
 xX (ck ((if x0<x1 then x1 else x0)*z1)) fun z2=>
 xX (dv z2 2) fun z3=>
 xX (ck (z3+(if x1<x0 then x1 else x0))) fun z4=>
 some z4
theorem impl_pairIndex_c {B:Nat→Prop} {x0:Int} {x1:Int} (r:Int) (hR:impl_pairIndex x0 x1=some r)  (w0:World) (hN:∀ c,B c→c<w0.heap.size) (hx0:xY x0) (hx1:xY x1):Calls Tryz.prog 115 #[.int .i64 x0,.int .i64 x1] w0 (SaysI r w0):=by
 unfold impl_pairIndex at hR
 refine xV (L:=[(0,.int .i64 x0),(1,.int .i64 x1)]) func115 rfl rfl rfl (sc rfl (sc rfl sn)) (fun a F=>?_);have H:=Sep.start hN;refine xP (xA 1 F rfl fun a F=>qU (xA 2 F rfl fun a F=>o_min F rfl rfl rfl fun a F=>xA 1 F rfl fun a F=>?_));refine xA 1 F rfl fun a F=>o_max F rfl rfl rfl fun a F=>xA 2 F rfl fun a F=>qU (xA 2 F rfl fun a F=>?_);obtain⟨z1,c1,hR⟩:=xB hR;refine o_sub F rfl rfl rfl c1 (fun a F=>?_);obtain⟨z2,c2,hR⟩:=xB hR;refine o_mul F rfl rfl rfl c2 (fun a F=>?_);obtain⟨z3,c16,hR⟩:=xB hR;refine o_quo F rfl rfl rfl c16 fun a F=>xA 1 F rfl fun a F=>?_;obtain⟨z4,c3,hR⟩:=xB hR;refine kX F rfl rfl rfl c3 fun a F=>xA 1 F rfl fun a F=>xJ (xT (xO F rfl (oD F rfl) ?_));obtain rfl:=Option.some.inj hR;exact⟨⟨rfl,H.bl⟩,(ck64 c3)⟩
def impl_isLeft (N:Nat) (x0:List Rel) (x1:Int) (x2:Int) (x3:Int) (x4:Int):Option Bool:=
 vO (σ:=Int×Int×Int×Int) (
  if (decide (x2<x1)) then
   some (.nx (x2,x1,x4,x3))
  else
   some (.nx (x1,x2,x3,x4))) fun(s1,s2,s3,s4)=>
 xX (impl_pairIndex s1 s2) fun z1=>
 xX (ix x0 z1) fun z2=>
 xX (impl_Rel_has N z2 ([s3,s4])) fun z3=>
 some z3
theorem impl_isLeft_c {B:Nat→Prop} {N:Nat} {x0:List Rel} {x1:Int} {x2:Int} {x3:Int} {x4:Int} (r:Bool) (hR:impl_isLeft N x0 x1 x2 x3 x4=some r) {v0:Value} (w0:World) (hN:∀ c,B c→c<w0.heap.size) (A0:Bo B w0 (Sl 2 oM) v0 x0) (hx1:xY x1) (hx2:xY x2) (hx3:xY x3) (hx4:xY x4):Calls Tryz.prog 73 #[v0,.int .i64 x1,.int .i64 x2,.int .i64 x3,.int .i64 x4] w0 (vV (.bool r) w0):=by
 unfold impl_isLeft at hR
 refine xV (L:=[(0,v0),(1,.int .i64 x1),(2,.int .i64 x2),(3,.int .i64 x3),(4,.int .i64 x4)]) func73 rfl rfl rfl (sc rfl (sc rfl (sc rfl (sc rfl (sc rfl sn))))) (fun a F=>?_);have H:=Sep.start hN;refine xP (xA 1 F rfl fun a F=>xJ (xC (xP (xA 3 F rfl fun a F=>?_))));refine xJ ?_;obtain⟨o1,hR,hk1⟩:=xK hR;refine xW (fun a w=>∃ (s1:Int) (s2:Int) (s3:Int) (s4:Int),o1= .nx (s1,s2,s3,s4)∧Sk a 28 [(0,v0),(1,.int .i64 s1),(2,.int .i64 s2),(3,.int .i64 s3),(4,.int .i64 s4)]∧Sep [] B w0 w []∧xY s1∧xY s2∧xY s3∧xY s4) ?_ ?_
 ·
  refine qT F rfl (fun hb1=>?_) (fun hb1=>?_)
  ·
   replace hR:=vS hb1 hR;refine xR (xA 8 F rfl fun a F=>xJ ?_);exact⟨x2,x1,x4,x3,(Option.some.inj hR).symm,F.su,H,hx2,hx1,hx4,hx3⟩
  replace hR:=vR hb1 hR;refine xL (xF ?_);exact⟨x1,x2,x3,x4,(Option.some.inj hR).symm,F.su,H,hx1,hx2,hx3,hx4⟩
 intro a w ⟨s1,s2,s3,s4,ho1,F,H,i16,i1,i2,i3⟩;subst ho1;have hR:=xN hk1;refine xF (xP (xA 3 F rfl fun a F=>?_));obtain⟨z1,c1,hR⟩:=xB hR;refine oKI F rfl call115 rfl H (impl_pairIndex_c z1 c1 _ aA i16 i1) (fun a w H iz1 F=>?_);obtain⟨z2,c2,hR⟩:=xB hR;refine oI underlying33 sizeOf69 F rfl rfl rfl A0 c2 fun a p1 h1 F=>olA isAgg69 sizeOf69 F rfl rfl H.sm h1 fun a v1 h2 F=>xA 2 F rfl fun a F=>oRI (xs:=[.tmp 24,.tmp 25]) (l:=[s3,s4]) underlying30 sizeOf2 zeroValue2 rfl F rfl rfl rfl rfl rfl rfl (by simp only[List.forall_mem_cons,List.not_mem_nil,false_implies,implies_true,and_true];exact⟨i2,i3⟩) H (fun a w v32 H F=>?_);obtain⟨z3,c3,hR⟩:=xB hR;refine oK F rfl call116 rfl H (impl_Rel_has_c z3 c3 _ aA (H.a h2) (H.l 0 rfl)) fun a w H F=>xA 1 F rfl fun a F=>xJ (xT (xO F rfl (oD F rfl) ?_));obtain rfl:=Option.some.inj hR;exact⟨rfl,H.bl⟩
def impl_narrow_1 (N:Nat) (x0:List Int) (y0:(List Rel)) (y1:Int) (y2:Int) (y3:PairStep):Option Bool:=
 xX (ix y0 y1) fun z1=>
 xX (impl_Rel_has N z1 x0) fun z2=>
 if (!z2) then
  some false
 else
  vO (σ:=Unit) (
   vQ (σ:=Unit) (ρ:=Bool) (fun(k1:Nat) (s:Unit)=>
     match s with
     | _=>
     vO (σ:=Bool) (
      xX (ix x0 0) fun z3=>
      xX (impl_isLeft N y0 y3.i y3.through z3 (k1:Int)) fun z4=>
      if z4 then  xX (ix x0 1) fun z5=>
       xX (impl_isLeft N y0 y3.through y3.j (k1:Int) z5) fun z6=>
       some (.nx z6) else  some (.nx false)) fun s1=>
     if s1 then
      some (.ret true)
     else
      some (.go ())) y2.toNat 0 ()) fun _=>
  some false
theorem impl_narrow_1_c {B:Nat→Prop} {N:Nat} {x0:List Int} {y0:(List Rel)} {y1:Int} {y2:Int} {y3:PairStep} (r:Bool) (hR:impl_narrow_1 N x0 y0 y1 y2 y3=some r) {v0:Value} {v1:Value} {v2:Value} {v3:Value} {v4:Value} (w0:World) (hN:∀ c,B c→c<w0.heap.size) (A0:Bo B w0 (Sl 1 xH) v0 x0) (A1:Bo B w0 (Pt 1 (vY 2 oM)) v1 y0) (A2:Bo B w0 (Pt 1 xH) v2 y1) (A3:Bo B w0 (Pt 1 xH) v3 y2) (A4:Bo B w0 (Pt 3 xZ) v4 y3):Calls Tryz.prog 153 #[v0,v1,v2,v3,v4] w0 (vV (.bool r) w0):=by
 unfold impl_narrow_1 at hR
 refine xV (L:=[(0,v0),(1,v1),(2,v2),(3,v3),(4,v4)]) func153 rfl rfl rfl (sc rfl (sc rfl (sc rfl (sc rfl (sc rfl sn))))) (fun a F=>?_);have H:=Sep.start hN;refine xP (xA 1 F rfl fun a F=>xJ (xC (xP (olS isAgg33 F rfl rfl H.sm A1 fun a v5 h1 F=>olI isAgg2 F rfl rfl H.sm A2 (fun a i1 F=>?_)))));obtain⟨z1,c1,hR⟩:=xB hR;refine oI underlying33 sizeOf69 F rfl rfl rfl h1 c1 fun a p16 h2 F=>olA isAgg69 sizeOf69 F rfl rfl H.sm h2 fun a v6 h3 F=>xA 1 F rfl fun a F=>?_;obtain⟨z2,c2,hR⟩:=xB hR;refine oK F rfl call116 rfl H (impl_Rel_has_c z2 c2 _ aA (H.a h3) (H.a A0)) fun a w H F=>xA 1 F rfl fun a F=>xJ (qT F rfl (fun hb1=>?_) (fun hb1=>?_))
 ·
  replace hR:=vS hb1 hR;refine xP (xA 1 F rfl fun a F=>xJ (xT (oE (xO F rfl (oD F rfl) ?_))));obtain rfl:=Option.some.inj hR;exact⟨rfl,H.bl⟩
 replace hR:=vR hb1 hR;refine xL (xF (xC (xP (olI isAgg2 F rfl rfl H.sm A3 fun a i2 F=>xA 1 F rfl fun a F=>xJ ?_))));obtain⟨o1,hR,hk1⟩:=xK hR;refine xW (fun a w=>o1= .nx ()∧Sk a 42 []∧Sep [] B w0 w []) ?_ ?_
 ·
  refine xS ?_;obtain⟨fl1,hf1,hR⟩:=zI hR;refine oR (fun g a w=>∃ (k1:Nat),k1+g=y2.toNat∧vQ fl1 g k1 ()=some o1∧Sk a 42 [(16,.int .i64 (k1:Int)),(0,v0),(1,v1),(4,v4),(15,.int .i64 y2)]∧Sep [] B w0 w []) y2.toNat ?_ ?_
  ·
   exact⟨0,(Nat.zero_add _),hR,F.su,H⟩
  intro g1 a w ⟨k1,hd1,hR,F,H⟩
  cases g1 with
  | zero=>
   replace hR:=vT hR;have l1:=kZ hd1;refine xP (xA 1 F rfl fun a F=>xJ (xC (qV F rfl l1 (oO (oQ (oQ (vJ ?_)))))));refine xF ?_;exact⟨(Option.some.inj hR).symm,F.sub sn,H⟩
  | succ g1=>
   obtain⟨ck1,hR,hn1⟩:=vU hR;rw[hf1] at hR;have l1:=kE hd1;refine xP (xA 1 F rfl fun a F=>xJ (xC (qY F rfl l1 (xL (xF (xC ?_))))));have j1:=k64I hd1 i2;have m1:=inc64I hd1 i2;refine xS (xP (xA 2 F rfl fun a F=>xJ (xC ?_)));obtain⟨o2,hR,hk2⟩:=xK hR;refine xW (fun a w=>∃ (s1:Bool),o2= .nx s1∧Sk a 42 [(0,v0),(1,v1),(4,v4),(15,.int .i64 y2),(16,.int .i64 (k1:Int)),(40,.bool s1)]∧Sep [] B w0 w []) ?_ ?_
   ·
    refine xQ H (by kernel_rfl) (by kernel_rfl) (qlS isAgg33 F rfl rfl H.q A1 fun a v7 h4 F=>qF (s':=1) fa163_0 F rfl rfl A4 xZ.f0 fun a p1 h5 F=>qlI isAgg2 F rfl rfl H.q h5 fun a i3 F=>qF (s':=1) fa163_2 F rfl rfl A4 xZ.f2 fun a p2 h6 F=>qlI isAgg2 F rfl rfl H.q h6 fun a i4 F=>xU F rfl (fun w l=>xM F rfl) (fun a F=>?_));obtain⟨z3,c3,hR⟩:=xB hR;refine qI underlying30 sizeOf2 F rfl rfl rfl A0 c3 fun a p3 h7 F=>qlI isAgg2 F rfl rfl H.q h7 fun a i5 F=>xU F rfl (fun w l=>xM F rfl) (fun a F=>?_);obtain⟨z4,c4,hR⟩:=xB hR;refine q_says F rfl call73 rfl (fun w w' h l=>l.through h) (fun w l=>impl_isLeft_c z4 c4 w aA ((H.go l).a h4) i3 i4 i5 j1) fun a F=>xU F rfl (fun w l=>xM F rfl) (fun a F=>?_)
    rcases vG z4 with hb2 | hb2
    ·
     replace hR:=vS hb2 hR;have F:=F.eq (t:=29) rfl (congrArg Value.bool hb2);refine qlS isAgg33 F rfl rfl H.q A1 fun a v8 h8 F=>qF (s':=1) fa163_2 F rfl rfl A4 xZ.f2 fun a p4 h9 F=>qlI isAgg2 F rfl rfl H.q h9 fun a i6 F=>qF (s':=1) fa163_1 F rfl rfl A4 xZ.f1 fun a p5 h10 F=>qlI isAgg2 F rfl rfl H.q h10 fun a i7 F=>xU F rfl (fun w l=>xM F rfl) fun a F=>xU F rfl (fun w l=>xM F rfl) (fun a F=>?_);obtain⟨z5,c5,hR⟩:=xB hR;refine qI underlying30 sizeOf2 F rfl rfl rfl A0 c5 fun a p6 h11 F=>qlI isAgg2 F rfl rfl H.q h11 (fun a i8 F=>?_);obtain⟨z6,c6,hR⟩:=xB hR;refine q_says F rfl call73 rfl (fun w w' h l=>l.through h) (fun w l=>impl_isLeft_c z6 c6 w aA ((H.go l).a h8) i6 i7 j1 i8) fun a F=>xU F rfl (fun w l=>r_pickt F rfl rfl) fun a F=>kP fun w H=>xF ?_;exact⟨z6,(Option.some.inj hR).symm,F.su,H⟩
    replace hR:=vR hb2 hR;have F:=F.eq (t:=29) rfl (congrArg Value.bool hb2);refine qS F rfl rfl fun a F=>qS F rfl rfl fun a F=>qS F rfl rfl fun a F=>qS F rfl rfl fun a F=>qS F rfl rfl fun a F=>qS F rfl rfl fun a F=>qS F rfl rfl fun a F=>qS F rfl rfl fun a F=>qS F rfl rfl fun a F=>qS F rfl rfl fun a F=>xU F rfl (fun w l=>r_pickf F rfl rfl) (fun a F=>?_);refine kP fun w H=>xF ?_;exact⟨false,(Option.some.inj hR).symm,F.su,H⟩
   intro a w ⟨s1,ho1,F,H⟩;subst ho1;have hR:=xN hk2;refine xF (qT F rfl (fun hb3=>?_) (fun hb3=>?_))
   ·
    replace hR:=vS hb3 hR;refine xP (xA 1 F rfl fun a F=>xJ (xT (vH (oE (oE ?_)))));replace hR:=zS hR hn1;refine vH (oE ?_);replace hR:=zR hR hk1;refine oE (xO F rfl (oD F rfl) ?_);obtain rfl:=Option.some.inj hR;exact⟨rfl,H.bl⟩
   replace hR:=vR hb3 hR;refine xL (qW (xF (xR (qR F rfl rfl rfl m1 fun a F=>xA 1 F rfl fun a F=>xJ ?_))));replace hR:=qZ hR hn1;exact⟨_,Nat.lt_succ_self _,k1+1,(by omega),hR,F.su,H⟩
 intro a w ⟨ho2,F,H⟩;subst ho2;have hR:=xN hk1;refine xF (xP (xA 1 F rfl fun a F=>xJ (xT (xO F rfl (oD F rfl) ?_))));obtain rfl:=Option.some.inj hR;exact⟨rfl,H.bl⟩
def impl_narrow (N:Nat) (x0:Int) (x1:List Rel) (x2:PairStep):Option (Bool×(List Rel)):=
 xX (impl_pairIndex x2.i x2.j) fun z1=>
 xX (impl_relOf N x0 2 (fun a0=>impl_narrow_1 N a0 x1 z1 x0 (PairStep.mk x2.i x2.j x2.through))) fun z2=>
 xX (ix x1 z1) fun z3=>
 if ((z2.tuples.length:Int)==(z3.tuples.length:Int)) then
  some (false,x1)
 else
  some (true,(x1.set (z1).toNat (Rel.mk z2.arity z2.tuples)))
theorem impl_narrow_c {B:Nat→Prop} {N:Nat} {x0:Int} {x1:List Rel} {x2:PairStep} (r:Bool×(List Rel)) (hR:impl_narrow N x0 x1 x2=some r) {v1:Value} {v2:Value} {X0:List Nat} (w0:World) (hN:∀ c,B c→c<w0.heap.size) (S0:Sep X0 B w0 w0 [rw N0 2 oM 69 v1 x1]) (hx0:xY x0) (A2:Bo B w0 (zC 3 xZ) v2 x2):Calls Tryz.prog 114 #[.int .i64 x0,v1,v2] w0 (Gv (fun v w'=>v= .bool r.1∧Sep X0 B w0 w' [rw N0 2 oM 69 v1 r.2])):=by
 unfold impl_narrow at hR
 refine xV (L:=[(0,.int .i64 x0),(1,v1),(2,v2)]) func114 rfl rfl rfl (sc rfl (sc rfl (sc rfl sn))) (fun a F=>?_);have H:=S0;refine xP (oX F rfl rfl rfl H fun a w b1 H F=>oX F rfl rfl (one_cells (H.r 1 rfl).one) H (fun a w b2 H F=>?_));obtain⟨rfl,i1,i2,i3⟩:=xZ.o A2;refine oX F rfl rfl rfl H fun a w b16 H F=>xA 1 F rfl fun a F=>qU (oY fa163_0 F rfl rfl rfl fun a F=>oB isAgg2 F rfl rfl (H.b 0 rfl) rfl fun a F=>oY fa163_1 F rfl rfl rfl fun a F=>oB isAgg2 F rfl rfl (H.b 0 rfl) rfl (fun a F=>?_));obtain⟨z1,c1,hR⟩:=xB hR;refine oKI F rfl call115 rfl H (impl_pairIndex_c z1 c1 _ aA i1 i2) fun a w H iz1 F=>oA zeroValue2 F rfl rfl H fun a w b3 H F=>oW sizeOf2 F rfl rfl rfl H rfl rfl rfl fun w H=>qU (oB isAgg2 F rfl rfl (H.b 3 rfl) rfl fun a F=>o_func F rfl rfl rfl (fun a F=>?_));obtain⟨z2,c2,hR⟩:=xB hR;refine oG F rfl call149 rfl (impl_relOf_c z2 c2 _ aA hx0 (show xY (2) by decide) call153 (fun a0 r h W l1 u0 f0=>impl_narrow_1_c r h W aA f0 ((c1S (H.g 2 rfl).bk (H.r 4 rfl)).w l1) ((c1I (H.g 0 rfl).bk iz1).w l1) ((c1I (H.g 3 rfl).bk hx0).w l1) ((xZ.b (H.g 1 rfl).bk i1 i2 i3).w l1))) (fun a vv w ⟨v3,hv1,S,i4⟩ F=>?_);subst vv;have H:=H.r1 S n0;refine oA zeroValue69 F rfl rfl H fun a w b4 H F=>oWA (vs:=[.int .i64 z2.arity,v3]) sizeOf69 F rfl rfl rfl H (oc rfl (oc (H.l 1 rfl).one on)) rfl rfl fun w H=>xJ (xC (xC (xQ H (by kernel_rfl) (by kernel_rfl) (xU F rfl (fun w l=>zQ vX F rfl rfl) fun a F=>qB isAgg67 F rfl rfl (H.qb 0 rfl) rfl fun a F=>qL underlying67 F rfl rfl (H.l 1 rfl) fun a i5 F=>qB isAgg33 F rfl rfl (H.qb 4 rfl) rfl (fun a F=>?_)))));refine qB isAgg2 F rfl rfl (H.qb 2 rfl) rfl (fun a F=>?_);obtain⟨z3,c3,hR⟩:=xB hR;refine qI underlying33 sizeOf69 F rfl rfl rfl (H.r 6 rfl) c3 fun a p1 h1 F=>qF (s':=1) vX F rfl rfl h1 oM.f1 fun a p32 h2 F=>qlS isAgg67 F rfl rfl qA h2 fun a v4 h3 F=>qL underlying67 F rfl rfl h3 fun a i6 F=>xU F rfl (fun w l=>r_eql F rfl rfl) fun a F=>kP fun w H=>xF (qT F rfl (fun hb1=>?_) (fun hb1=>?_))
 ·
  replace hR:=vS hb1 hR;refine xP (xA 1 F rfl fun a F=>xJ (xT (oE (xO F rfl (oD F rfl) ?_))));obtain rfl:=Option.some.inj hR;exact⟨_,rfl,rfl,(H.s [6] rfl rfl)⟩
 replace hR:=vR hb1 hR;refine xL (xF (xP (oB isAgg33 F rfl rfl (H.b 4 rfl) rfl fun a F=>oB isAgg2 F rfl rfl (H.b 2 rfl) rfl fun a F=>oBA isAgg69 sizeOf69 F rfl rfl (H.b 0 rfl) rfl rfl fun a F=>oRi underlying33 sizeOf69 F rfl rfl rfl H 6 rfl c3 fun a p2 h4 rp1 F=>oSX (vs:=[.int .i64 z2.arity,v3]) F rfl rfl rfl (.inl ⟨sizeOf69,rfl,(oc rfl (oc ((H.s [6,1,0,2,3,4,5] rfl rfl).l 1 rfl).one on))⟩) (H.s [6,1,0,2,3,4,5] rfl rfl) (RPt.o rp1) (ix_get c3) n0 (fun e q=>(Eo.agg (oM.m i4 q.ld)).tn) rfl fun w H=>xJ ?_)));refine xP (xA 1 F rfl fun a F=>xJ (xT (xO F rfl (oD F rfl) ?_)));obtain rfl:=Option.some.inj hR;exact⟨_,rfl,rfl,(H.s [0] rfl rfl)⟩
def impl_makePairs (N:Nat) (x0:Template) (x1:Instance):Option ((List Rel)×(List PairStep)):=
 xX (impl_firstPairs N (Template.mk x0.size x0.rels) (Instance.mk x1.vars x1.cons)) fun z1=>
 vO (σ:=(List PairStep)×Bool×(List Rel)) (
  whl (σ:=(List PairStep)×Bool×(List Rel)) (ρ:=(List Rel)×(List PairStep)) (fun(s:(List PairStep)×Bool×(List Rel))=>
    match s with
    | (s1,s2,s3)=>
    if s2 then
     vO (σ:=(List PairStep)×Bool×(List Rel)) (
      vQ (σ:=(List PairStep)×Bool×(List Rel)) (ρ:=(Ctl ((List PairStep)×Bool×(List Rel)) ((List Rel)×(List PairStep)))) (fun(k1:Nat) (s:(List PairStep)×Bool×(List Rel))=>
        match s with
        | (s4,s5,s6)=>
        vO (σ:=(List PairStep)×Bool×(List Rel)) (
         vQ (σ:=(List PairStep)×Bool×(List Rel)) (ρ:=(Ctl ((List PairStep)×Bool×(List Rel)) (Ctl ((List PairStep)×Bool×(List Rel)) ((List Rel)×(List PairStep))))) (fun(k2:Nat) (s:(List PairStep)×Bool×(List Rel))=>
           match s with
           | (s7,s8,s9)=>
           vO (σ:=(List PairStep)×Bool×(List Rel)) (
            vQ (σ:=(List PairStep)×Bool×(List Rel)) (ρ:=(Ctl ((List PairStep)×Bool×(List Rel)) (Ctl ((List PairStep)×Bool×(List Rel)) (Ctl ((List PairStep)×Bool×(List Rel)) ((List Rel)×(List PairStep)))))) (fun(k3:Nat) (s:(List PairStep)×Bool×(List Rel))=>
              match s with
              | (s10,s11,s12)=>
              vO (σ:=(List Rel)×Bool) (
               if ((k3:Int) != (k2:Int)) then  if ((k3:Int) != (k1:Int)) then  xX (impl_narrow N x0.size s12 (PairStep.mk (k2:Int) (k1:Int) (k3:Int))) fun z2=>
                 some (.nx (z2.2,z2.1)) else  some (.nx (s12,false)) else  some (.nx (s12,false))) fun(s13,s14)=>
              if s14 then
               xX (ap s10 ([(PairStep.mk (k2:Int) (k1:Int) (k3:Int))])) fun z3=>
               some (.go (z3,true,s13))
              else
               some (.go (s10,s11,s13))) x1.vars.toNat 0 (s7,s8,s9)) fun(s15,s16,s17)=>
           some (.go (s15,s16,s17))) (k1:Int).toNat 0 (s4,s5,s6)) fun(s18,s19,s20)=>
        some (.go (s18,s19,s20))) x1.vars.toNat 0 (s1,false,s3)) fun(s21,s22,s23)=>
     some (.go (s21,s22,s23))
    else
     some (.brk (s1,s2,s3))) N ([],true,z1)) fun(s24,s25,s26)=>
 some (s26,s24)
theorem impl_makePairs_c {B:Nat→Prop} {N:Nat} {x0:Template} {x1:Instance} (r:(List Rel)×(List PairStep)) (hR:impl_makePairs N x0 x1=some r) {v0:Value} {v1:Value} (w0:World) (hN:∀ c,B c→c<w0.heap.size) (A0:Bo B w0 (zC 2 xG) v0 x0) (A1:Bo B w0 (zC 2 xI) v1 x1):Calls Tryz.prog 69 #[v0,v1] w0 (Gv (fun v w'=>∃ (v1':Value) (v2':Value),v= .tuple #[v1',v2']∧Sep [] B w0 w' [rw N0 2 oM 69 v1' r.1,rl 3 xZ 163 v2' r.2])):=by
 unfold impl_makePairs at hR
 refine xV (L:=[(0,v0),(1,v1)]) func69 rfl rfl rfl (sc rfl (sc rfl sn)) (fun a F=>?_);have H:=Sep.start hN;refine xP ?_;obtain⟨v2,rfl,i1,h1⟩:=xG.o A0;refine oX F rfl rfl rfl H (fun a w b1 H F=>?_);obtain⟨v16,rfl,i2,h2⟩:=xI.o A1;refine oX F rfl rfl rfl H fun a w b2 H F=>xA 2 F rfl fun a F=>qU (oBA isAgg35 sizeOf35 F rfl rfl (H.b 1 rfl) rfl rfl fun a F=>oBA isAgg39 sizeOf39 F rfl rfl (H.b 0 rfl) rfl rfl (fun a F=>?_));obtain⟨z1,c1,hR⟩:=xB hR;refine oG F rfl call113 rfl (impl_firstPairs_c z1 c1 _ aA (xG.m i1 (H.a h1)) (xI.m i2 (H.a h2))) (fun a vv w ⟨v3,hv1,S⟩ F=>?_);subst vv;have H:=H.r1 S n0;refine xA 1 F rfl fun a F=>qU (oR0 (R:=xZ) underlying112 sizeOf163 F rfl H fun a w v4 H F=>xA 1 F rfl fun a F=>xJ (xC (xC ?_)));refine xR (xA 1 F rfl fun a F=>xJ ?_);obtain⟨o1,hR,hk1⟩:=xK hR;refine xW (fun a w=>∃ (s1:List PairStep) (v5:Value) (s2:Bool) (s3:List Rel) (v6:Value),o1= .nx (s1,s2,s3)∧Sk a 60 [(6,v6),(7,v5)]∧Sep [] B w0 w [rl 3 xZ 163 v5 s1,rw N0 2 oM 69 v6 s3]) ?_ ?_
 ·
  refine xS ?_;obtain⟨fl1,hf1,hR⟩:=whl_gen hR;refine oR (fun g a w=>∃ (s4:List PairStep) (v7:Value) (s5:Bool) (s6:List Rel) (v8:Value),whl fl1 g (s4,s5,s6)=some o1∧Sk a 60 [(2,.pointer (some ⟨b1,0,none⟩)),(3,.pointer (some ⟨b2,0,none⟩)),(6,v8),(7,v7),(8,.bool s5)]∧Sep [] B w0 w [rl 3 xZ 163 v7 s4,rw N0 2 oM 69 v8 s6,bx b2 [.int .i64 x1.vars,v16] 39,bx b1 [.int .i64 x0.size,v2] 35]) N ?_ ?_
  ·
   exact⟨[],v4,true,z1,v3,hR,F.su,((H.s [1,0,2,3] rfl rfl).lw.s [1,0,2,3] rfl rfl)⟩
  intro g1 a w ⟨s4,v7,s5,s6,v8,hR,F,H⟩;obtain⟨ck1,t1,hg1,hR,hn1⟩:=zU hR;rw[hf1] at hR;refine xC (xP (xA 1 F rfl fun a F=>xJ (qT F rfl (fun hb1=>?_) (fun hb1=>?_))))
  ·
   replace hR:=vS hb1 hR;refine xL (xF (xS (xP (xA 1 F rfl fun a F=>qU (oY zY F rfl rfl rfl (fun a F=>?_))))));refine oB isAgg2 F rfl rfl (H.b 2 rfl) rfl fun a F=>xA 1 F rfl fun a F=>xJ ?_;obtain⟨o2,hR,hk2⟩:=xK hR;refine xW (fun a w=>∃ (s7:List PairStep) (v9:Value) (s8:Bool) (s9:List Rel) (v10:Value),o2= .nx (s7,s8,s9)∧Sk a 60 [(2,.pointer (some ⟨b1,0,none⟩)),(3,.pointer (some ⟨b2,0,none⟩)),(6,v10),(7,v9),(8,.bool s8)]∧Sep [] B w0 w [rl 3 xZ 163 v9 s7,rw N0 2 oM 69 v10 s9,bx b2 [.int .i64 x1.vars,v16] 39,bx b1 [.int .i64 x0.size,v2] 35]) ?_ ?_
   ·
    refine xS ?_;obtain⟨fl2,hf2,hR⟩:=zI hR;refine oR (fun g a w=>∃ (k1:Nat) (s10:List PairStep) (v11:Value) (s11:Bool) (s12:List Rel) (v13:Value),k1+g=x1.vars.toNat∧vQ fl2 g k1 (s10,s11,s12)=some o2∧Sk a 60 [(20,.int .i64 (k1:Int)),(2,.pointer (some ⟨b1,0,none⟩)),(3,.pointer (some ⟨b2,0,none⟩)),(6,v13),(7,v11),(8,.bool s11),(19,.int .i64 x1.vars)]∧Sep [] B w0 w [rl 3 xZ 163 v11 s10,rw N0 2 oM 69 v13 s12,bx b2 [.int .i64 x1.vars,v16] 39,bx b1 [.int .i64 x0.size,v2] 35]) x1.vars.toNat ?_ ?_
    ·
     exact⟨0,s4,v7,false,s6,v8,(Nat.zero_add _),hR,F.su,H⟩
    intro g2 a w ⟨k1,s10,v11,s11,s12,v13,hd1,hR,F,H⟩
    cases g2 with
    | zero=>
     replace hR:=vT hR;have l1:=kZ hd1;refine xP (xA 1 F rfl fun a F=>xJ (xC (qV F rfl l1 (oO (oQ (oQ (vJ ?_)))))));refine xF ?_;exact⟨s10,v11,s11,s12,v13,(Option.some.inj hR).symm,F.su,H⟩
    | succ g2=>
     obtain⟨ck2,hR,hn2⟩:=vU hR;rw[hf2] at hR;have l1:=kE hd1;refine xP (xA 1 F rfl fun a F=>xJ (xC (qY F rfl l1 (xL (xF (xC ?_))))));have j1:=k64I hd1 i2;have m1:=inc64I hd1 i2;refine xS (xP (xA 2 F rfl fun a F=>qU (xA 2 F rfl fun a F=>?_)));refine xJ ?_;obtain⟨o3,hR,hk3⟩:=xK hR;refine xW (fun a w=>∃ (s13:List PairStep) (v14:Value) (s14:Bool) (s15:List Rel) (v15:Value),o3= .nx (s13,s14,s15)∧Sk a 60 [(2,.pointer (some ⟨b1,0,none⟩)),(3,.pointer (some ⟨b2,0,none⟩)),(6,v15),(7,v14),(8,.bool s14),(19,.int .i64 x1.vars),(20,.int .i64 (k1:Int))]∧Sep [] B w0 w [rl 3 xZ 163 v14 s13,rw N0 2 oM 69 v15 s15,bx b2 [.int .i64 x1.vars,v16] 39,bx b1 [.int .i64 x0.size,v2] 35]) ?_ ?_
     ·
      refine xS ?_;obtain⟨fl3,hf3,hR⟩:=zI hR;refine oR (fun g a w=>∃ (k2:Nat) (s16:List PairStep) (v17:Value) (s17:Bool) (s18:List Rel) (v18:Value),k2+g=(k1:Int).toNat∧vQ fl3 g k2 (s16,s17,s18)=some o3∧Sk a 60 [(24,.int .i64 (k2:Int)),(2,.pointer (some ⟨b1,0,none⟩)),(3,.pointer (some ⟨b2,0,none⟩)),(6,v18),(7,v17),(8,.bool s17),(9,.int .i64 (k1:Int)),(19,.int .i64 x1.vars),(20,.int .i64 (k1:Int)),(23,.int .i64 (k1:Int))]∧Sep [] B w0 w [rl 3 xZ 163 v17 s16,rw N0 2 oM 69 v18 s18,bx b2 [.int .i64 x1.vars,v16] 39,bx b1 [.int .i64 x0.size,v2] 35]) (k1:Int).toNat ?_ ?_
      ·
       exact⟨0,s10,v11,s11,s12,v13,(Nat.zero_add _),hR,F.su,H⟩
      intro g3 a w ⟨k2,s16,v17,s17,s18,v18,hd2,hR,F,H⟩
      cases g3 with
      | zero=>
       replace hR:=vT hR;have l2:=kZ hd2;refine xP (xA 1 F rfl fun a F=>xJ (xC (qV F rfl l2 (oO (oQ (oQ (vJ ?_)))))));refine xF ?_;exact⟨s16,v17,s17,s18,v18,(Option.some.inj hR).symm,F.su,H⟩
      | succ g3=>
       obtain⟨ck3,hR,hn3⟩:=vU hR;rw[hf3] at hR;have l2:=kE hd2;refine xP (xA 1 F rfl fun a F=>xJ (xC (qY F rfl l2 (xL (xF (xC ?_))))));have j2:=k64I hd2 j1;have m2:=inc64I hd2 j1;refine xS (xP (xA 2 F rfl fun a F=>qU (oY zY F rfl rfl rfl fun a F=>oB isAgg2 F rfl rfl (H.b 2 rfl) rfl (fun a F=>?_))));refine xA 1 F rfl fun a F=>xJ ?_;obtain⟨o4,hR,hk4⟩:=xK hR;refine xW (fun a w=>∃ (s19:List PairStep) (v19:Value) (s20:Bool) (s21:List Rel) (v20:Value),o4= .nx (s19,s20,s21)∧Sk a 60 [(2,.pointer (some ⟨b1,0,none⟩)),(3,.pointer (some ⟨b2,0,none⟩)),(6,v20),(7,v19),(8,.bool s20),(9,.int .i64 (k1:Int)),(19,.int .i64 x1.vars),(20,.int .i64 (k1:Int)),(23,.int .i64 (k1:Int)),(24,.int .i64 (k2:Int))]∧Sep [] B w0 w [rl 3 xZ 163 v19 s19,rw N0 2 oM 69 v20 s21,bx b2 [.int .i64 x1.vars,v16] 39,bx b1 [.int .i64 x0.size,v2] 35]) ?_ ?_
       ·
        refine xS ?_;obtain⟨fl4,hf4,hR⟩:=zI hR;refine oR (fun g a w=>∃ (k3:Nat) (s22:List PairStep) (v22:Value) (s23:Bool) (s24:List Rel) (v23:Value),k3+g=x1.vars.toNat∧vQ fl4 g k3 (s22,s23,s24)=some o4∧Sk a 60 [(29,.int .i64 (k3:Int)),(2,.pointer (some ⟨b1,0,none⟩)),(3,.pointer (some ⟨b2,0,none⟩)),(6,v23),(7,v22),(8,.bool s23),(9,.int .i64 (k1:Int)),(10,.int .i64 (k2:Int)),(19,.int .i64 x1.vars),(20,.int .i64 (k1:Int)),(23,.int .i64 (k1:Int)),(24,.int .i64 (k2:Int)),(28,.int .i64 x1.vars)]∧Sep [] B w0 w [rl 3 xZ 163 v22 s22,rw N0 2 oM 69 v23 s24,bx b2 [.int .i64 x1.vars,v16] 39,bx b1 [.int .i64 x0.size,v2] 35]) x1.vars.toNat ?_ ?_
        ·
         exact⟨0,s16,v17,s17,s18,v18,(Nat.zero_add _),hR,F.su,H⟩
        intro g4 a w ⟨k3,s22,v22,s23,s24,v23,hd3,hR,F,H⟩
        cases g4 with
        | zero=>
         replace hR:=vT hR;have l3:=kZ hd3;refine xP (xA 1 F rfl fun a F=>xJ (xC (qV F rfl l3 (oO (oQ (oQ (vJ ?_)))))));refine xF ?_;exact⟨s22,v22,s23,s24,v23,(Option.some.inj hR).symm,F.su,H⟩
        | succ g4=>
         obtain⟨ck4,hR,hn4⟩:=vU hR;rw[hf4] at hR;have l3:=kE hd3;refine xP (xA 1 F rfl fun a F=>xJ (xC (qY F rfl l3 (xL (xF (xC ?_))))));have j3:=k64I hd3 i2;have m3:=inc64I hd3 i2;refine xS (xP (xA 2 F rfl fun a F=>qU (xA 2 F rfl fun a F=>?_)));refine xA 1 F rfl fun a F=>o_build underlying163 zeroValue163 (fun w=>by simp [sizeOf2];rfl) F rfl rfl rfl rfl rfl (oc rfl (oc rfl (oc rfl on))) rfl rfl fun a F=>oA zeroValue163 F rfl rfl H fun a w b3 H F=>oWA (vs:=[.int .i64 (k2:Int),.int .i64 (k1:Int),.int .i64 (k3:Int)]) sizeOf163 F rfl rfl rfl H (oc rfl (oc rfl (oc rfl on))) rfl rfl fun w H=>xJ (xC ?_);obtain⟨o5,hR,hk5⟩:=xK hR;refine xW (fun a w=>∃ (s25:List Rel) (v25:Value) (s26:Bool),o5= .nx (s25,s26)∧Sk a 60 [(2,.pointer (some ⟨b1,0,none⟩)),(3,.pointer (some ⟨b2,0,none⟩)),(6,v25),(7,v22),(8,.bool s23),(9,.int .i64 (k1:Int)),(10,.int .i64 (k2:Int)),(12,.pointer (some ⟨b3,0,none⟩)),(19,.int .i64 x1.vars),(20,.int .i64 (k1:Int)),(23,.int .i64 (k1:Int)),(24,.int .i64 (k2:Int)),(28,.int .i64 x1.vars),(29,.int .i64 (k3:Int)),(50,.bool s26)]∧Sep [] B w0 w [bx b3 [.int .i64 (k2:Int),.int .i64 (k1:Int),.int .i64 (k3:Int)] 163,rl 3 xZ 163 v22 s22,rw N0 2 oM 69 v25 s25,bx b2 [.int .i64 x1.vars,v16] 39,bx b1 [.int .i64 x0.size,v2] 35]) ?_ ?_
         ·
          refine xR (xA 4 F rfl fun a F=>?_)
          rcases vG ((k3:Int) != (k2:Int)) with hb2 | hb2
          ·
           replace hR:=vS hb2 hR;have F:=F.eq (t:=39) rfl (congrArg Value.bool hb2);refine xA 5 F rfl fun a F=>?_
           rcases vG ((k3:Int) != (k1:Int)) with hb3 | hb3
           ·
            replace hR:=vS hb3 hR;have F:=F.eq (t:=44) rfl (congrArg Value.bool hb3);refine oY fa35_0 F rfl rfl rfl fun a F=>oB isAgg2 F rfl rfl (H.b 4 rfl) rfl fun a F=>xA 1 F rfl fun a F=>oBA isAgg163 sizeOf163 F rfl rfl (H.b 0 rfl) rfl rfl (fun a F=>?_);obtain⟨z2,c2,hR⟩:=xB hR;obtain⟨X1,K1,bk1⟩:=Sep.lend (K:=[rw N0 2 oM 69 v23 s24]) (L:=[bx b3 [.int .i64 (k2:Int),.int .i64 (k1:Int),.int .i64 (k3:Int)] 163,rl 3 xZ 163 v22 s22,bx b2 [.int .i64 x1.vars,v16] 39,bx b1 [.int .i64 x0.size,v2] 35]) (H.s [2,0,1,3,4] rfl rfl);refine oG F rfl call114 rfl (impl_narrow_c z2 c2 _ H.hN K1 i1 (xZ.m j2 j1 j3)) (fun a vv w ⟨hv2,S⟩ F=>?_);subst vv;have H:Sep [] B w0 w [rw N0 2 oM 69 v23 z2.2,bx b3 [.int .i64 (k2:Int),.int .i64 (k1:Int),.int .i64 (k3:Int)] 163,rl 3 xZ 163 v22 s22,bx b2 [.int .i64 x1.vars,v16] 39,bx b1 [.int .i64 x0.size,v2] 35]:=bk1 S;refine xA 1 F rfl fun a F=>xJ ?_;exact⟨z2.2,v23,z2.1,(Option.some.inj hR).symm,F.su,(H.s [1,2,0,3,4] rfl rfl)⟩
           replace hR:=vR hb3 hR;have F:=F.eq (t:=44) rfl (congrArg Value.bool hb3);refine xA 6 F rfl fun a F=>xJ ?_;exact⟨s24,v23,false,(Option.some.inj hR).symm,F.su,H⟩
          replace hR:=vR hb2 hR;have F:=F.eq (t:=39) rfl (congrArg Value.bool hb2);refine xA 11 F rfl fun a F=>?_;refine xJ ?_;exact⟨s24,v23,false,(Option.some.inj hR).symm,F.su,H⟩
         intro a w ⟨s25,v25,s26,ho1,F,H⟩;subst ho1;have hR:=xN hk5;refine xF (qT F rfl (fun hb4=>?_) (fun hb4=>?_))
         ·
          replace hR:=vS hb4 hR;refine xP (xA 1 F rfl fun a F=>oBA isAgg163 sizeOf163 F rfl rfl (H.b 0 rfl) rfl rfl fun a F=>oR1z (R:=xZ) (y:=(PairStep.mk (k2:Int) (k1:Int) (k3:Int))) underlying112 sizeOf163 zeroValue163 rfl rfl F rfl rfl H (Eo.agg (xZ.m j2 j1 j3)) (fun a w v26 H F=>?_));obtain⟨z3,c3,hR⟩:=xB hR;refine oPL (sz:=3) (R:=xZ) (z:=(.agg #[.int .i64 0,.int .i64 0,.int .i64 0])) (bytes:=24) underlying112 (by kernel_rfl) rfl rfl F rfl rfl rfl (H.s [2,0,1,3,4,5] rfl rfl) c3 fun a w v27 H F=>xA 1 F rfl fun a F=>xJ (xR (xA 1 F rfl fun a F=>qD (qW (xF (xR (qR F rfl rfl rfl m3 (fun a F=>?_)))))));refine xA 1 F rfl fun a F=>xJ ?_;replace hR:=qZ hR hn4;exact⟨_,Nat.lt_succ_self _,k3+1,z3,v27,true,s25,v25,(by omega),hR,F.su,(H.s [0,2,3,4] rfl rfl)⟩
         replace hR:=vR hb4 hR;refine xL (qW (xF (xR (qR F rfl rfl rfl m3 fun a F=>xA 1 F rfl fun a F=>xJ ?_))));replace hR:=qZ hR hn4;exact⟨_,Nat.lt_succ_self _,k3+1,s22,v22,s23,s25,v25,(by omega),hR,F.su,(H.s [1,2,3,4] rfl rfl)⟩
       intro a w ⟨s19,v19,s20,s21,v20,ho2,F,H⟩;subst ho2;have hR:=xN hk4;refine qW (xF (xR (qR F rfl rfl rfl m2 fun a F=>xA 1 F rfl fun a F=>xJ ?_)));replace hR:=qZ hR hn3;exact⟨_,Nat.lt_succ_self _,k2+1,s19,v19,s20,s21,v20,(by omega),hR,F.su,H⟩
     intro a w ⟨s13,v14,s14,s15,v15,ho3,F,H⟩;subst ho3;have hR:=xN hk3;refine qW (xF (xR (qR F rfl rfl rfl m1 fun a F=>xA 1 F rfl fun a F=>xJ ?_)));replace hR:=qZ hR hn2;exact⟨_,Nat.lt_succ_self _,k1+1,s13,v14,s14,s15,v15,(by omega),hR,F.su,H⟩
   intro a w ⟨s7,v9,s8,s9,v10,ho4,F,H⟩;subst ho4;have hR:=xN hk2;refine qW (xF ?_);replace hR:=qZ hR hn1;exact⟨t1,(by omega),s7,v9,s8,s9,v10,hR,F.su,H⟩
  replace hR:=vR hb1 hR;refine oO (oQ (oQ ?_));replace hR:=l_brk hR hn1;refine vJ (xF ?_);exact⟨s4,v7,s5,s6,v8,(Option.some.inj hR).symm,F.su,(H.s [0,1] rfl rfl)⟩
 intro a w ⟨s1,v5,s2,s3,v6,ho5,F,H⟩;subst ho5;have hR:=xN hk1;refine xF (xP (xA 4 F rfl fun a F=>xJ (xT (zV F rfl (oD F rfl) (oD F rfl) ?_))));obtain rfl:=Option.some.inj hR;exact⟨_,rfl,v6,v5,rfl,(H.s [1,0] rfl rfl)⟩
def impl_byPairs_1 (N:Nat) (x0:Int) (y0:(List Int)) (y1:(List Rel)) (y2:Int):Option Bool:=
 vO (σ:=Unit) (
  qK (σ:=Unit) (ρ:=Bool) (fun(k1:Nat) (x1:Int) (s:Unit)=>
    match s with
    | _=>
    xX (impl_isLeft N y1 (k1:Int) y2 x1 x0) fun z1=>
    if (!z1) then
     some (.ret false)
    else
     some (.go ())) y0 0 ()) fun _=>
 some true
theorem impl_byPairs_1_c {B:Nat→Prop} {N:Nat} {x0:Int} {y0:(List Int)} {y1:(List Rel)} {y2:Int} (r:Bool) (hR:impl_byPairs_1 N x0 y0 y1 y2=some r) {v1:Value} {v2:Value} {v3:Value} (w0:World) (hN:∀ c,B c→c<w0.heap.size) (hx0:xY x0) (A1:Bo B w0 (Pt 1 (vY 1 xH)) v1 y0) (A2:Bo B w0 (Pt 1 (vY 2 oM)) v2 y1) (A3:Bo B w0 (Pt 1 xH) v3 y2):Calls Tryz.prog 72 #[.int .i64 x0,v1,v2,v3] w0 (vV (.bool r) w0):=by
 unfold impl_byPairs_1 at hR
 refine xV (L:=[(0,.int .i64 x0),(1,v1),(2,v2),(3,v3)]) func72 rfl rfl rfl (sc rfl (sc rfl (sc rfl (sc rfl sn)))) (fun a F=>?_);have H:=Sep.start hN;refine xP (xA 1 F rfl fun a F=>xJ (xC (xP (olS isAgg30 F rfl rfl H.sm A1 fun a v4 h1 F=>oL underlying30 F rfl rfl h1 fun a i1 F=>xA 1 F rfl fun a F=>?_))));refine xJ ?_;obtain⟨o1,hR,hk1⟩:=xK hR;refine xW (fun a w=>o1= .nx ()∧Sk a 23 []∧Sep [] B w0 w []) ?_ ?_
 ·
  refine xS ?_;obtain⟨fl1,hf1,hR⟩:=qE hR;refine oR (fun g a w=>∃ (k1:Nat) (t1:List Int),(k1≤y0.length∧y0.drop k1=t1)∧t1.length=g∧qK fl1 t1 k1 ()=some o1∧Sk a 23 [(10,.int .i64 (k1:Int)),(0,.int .i64 x0),(2,v2),(3,v3),(8,v4),(9,.int .i64 (y0.length:Int))]∧Sep [] B w0 w []) y0.length ?_ ?_
  ·
   exact⟨0,y0,⟨Nat.zero_le _,rfl⟩,rfl,hR,F.su,H⟩
  intro g32 a w ⟨k1,t1,hd1,hg1,hR,F,H⟩
  cases t1 with
  | nil=>
   replace hR:=qG hR;have q1:=qH hd1.1 hd1.2;have l1:=vA q1;refine xP (xA 1 F rfl fun a F=>xJ (xC (qV F rfl l1 (oO (oQ (oQ (vJ ?_)))))));refine xF ?_;exact⟨(Option.some.inj hR).symm,F.sub sn,H⟩
  | cons x1 t1=>
   subst hg1;replace hd1:=oH hd1.2;have y3:=oV hd1.2.1;obtain⟨ck1,hR,hn1⟩:=oU hR;rw[hf1] at hR;have l1:=qP hd1.1;refine xP (xA 1 F rfl fun a F=>xJ (xC (qY F rfl l1 (xL (xF (xC ?_))))));have j1:=k64 (Nat.le_of_lt hd1.1) i1;have m1:=zA hd1.1 i1;refine xS (xP (xA 1 F rfl fun a F=>oI underlying30 sizeOf2 F rfl rfl rfl h1 y3 fun a p1 h2 F=>olI isAgg2 F rfl rfl H.sm h2 fun a i2 F=>xA 2 F rfl fun a F=>xJ (xC ?_)));refine xR (olS isAgg33 F rfl rfl H.sm A2 fun a v5 h3 F=>xA 1 F rfl fun a F=>olI isAgg2 F rfl rfl H.sm A3 fun a i3 F=>xA 2 F rfl fun a F=>?_);obtain⟨z1,c1,hR⟩:=xB hR;refine oK F rfl call73 rfl H (impl_isLeft_c z1 c1 _ aA (H.a h3) j1 i3 i2 hx0) fun a w H F=>xA 1 F rfl fun a F=>xJ (qT F rfl (fun hb1=>?_) (fun hb1=>?_))
   ·
    replace hR:=vS hb1 hR;refine xP (xA 1 F rfl fun a F=>xJ (xT (vH (oE (oE ?_)))));replace hR:=zS hR hn1;refine vH (oE ?_);replace hR:=zR hR hk1;refine oE (xO F rfl (oD F rfl) ?_);obtain rfl:=Option.some.inj hR;exact⟨rfl,H.bl⟩
   replace hR:=vR hb1 hR;refine xL (qW (xF (xR (qR F rfl rfl rfl m1 fun a F=>xA 1 F rfl fun a F=>xJ ?_))));replace hR:=qZ hR hn1;exact⟨_,Nat.lt_succ_self _,k1+1,t1,⟨hd1.1,hd1.2.2⟩,rfl,hR,F.su,H⟩
 intro a w ⟨ho1,F,H⟩;subst ho1;have hR:=xN hk1;refine xF (xP (xA 1 F rfl fun a F=>xJ (xT (xO F rfl (oD F rfl) ?_))));obtain rfl:=Option.some.inj hR;exact⟨rfl,H.bl⟩
def impl_byPairs (N:Nat) (x0:Template) (x1:Instance):Option ((List Int)×Bool):=
 if (x1.vars==1) then
  xX (impl_solverFor (Template.mk x0.size x0.rels) (Instance.mk x1.vars x1.cons)) fun z1=>
  xX (impl_solver_first N z1 ([])) fun z2=>
  some (z2.1,z2.2)
 else
  xX (impl_makePairs N (Template.mk x0.size x0.rels) (Instance.mk x1.vars x1.cons)) fun z3=>
  xX (vW z3.1 (fun a0=>impl_hasNone a0)) fun z4=>
  if z4 then
   some ([],false)
  else
   xX (ix z3.1 0) fun z5=>
   xX (ix z5.tuples 0) fun z6=>
   xX (ix z6 0) fun z7=>
   vO (σ:=(List Int)×Int) (
    whl (σ:=(List Int)×Int) (ρ:=(List Int)×Bool) (fun(s:(List Int)×Int)=>
      match s with
      | (s1,s2)=>
      if (decide (s2<x1.vars)) then
       xX (impl_upTo 0 x0.size) fun z8=>
       xX (qQ z8 (fun a0=>impl_byPairs_1 N a0 s1 z3.1 s2)) fun z9=>
       if (decide (z9<0)) then
        some (.ret ([],false))
       else
        xX (ap s1 ([z9])) fun z10=>
        xX (ck (s2+1)) fun z11=>
        some (.go (z10,z11))
      else
       some (.brk (s1,s2))) N ([z7],1)) fun(s3,s4)=>
   some (s3,true)
theorem impl_byPairs_c {B:Nat→Prop} {N:Nat} {x0:Template} {x1:Instance} (r:(List Int)×Bool) (hR:impl_byPairs N x0 x1=some r) {v0:Value} {v1:Value} (w0:World) (hN:∀ c,B c→c<w0.heap.size) (A0:Bo B w0 (zC 2 xG) v0 x0) (A1:Bo B w0 (zC 2 xI) v1 x1):Calls Tryz.prog 34 #[v0,v1] w0 (Gv (fun v w'=>∃ (v1':Value),v= .tuple #[v1',.bool r.2]∧Sep [] B w0 w' [rl 1 xH 2 v1' r.1])):=by
 unfold impl_byPairs at hR
 refine xV (L:=[(0,v0),(1,v1)]) func34 rfl rfl rfl (sc rfl (sc rfl sn)) (fun a F=>?_);have H:=Sep.start hN;refine xP ?_;obtain⟨v2,rfl,i1,h1⟩:=xG.o A0;refine oX F rfl rfl rfl H (fun a w b1 H F=>?_);obtain⟨v16,rfl,i2,h2⟩:=xI.o A1;refine oX F rfl rfl rfl H fun a w b2 H F=>xA 2 F rfl fun a F=>xJ (xC (xP (oY zY F rfl rfl rfl fun a F=>oB isAgg2 F rfl rfl (H.b 0 rfl) rfl fun a F=>xA 1 F rfl fun a F=>?_)));refine xJ (qT F rfl (fun hb1=>?_) (fun hb1=>?_))
 ·
  replace hR:=vS hb1 hR;refine xP (oBA isAgg35 sizeOf35 F rfl rfl (H.b 1 rfl) rfl rfl fun a F=>oBA isAgg39 sizeOf39 F rfl rfl (H.b 0 rfl) rfl rfl (fun a F=>?_));obtain⟨z1,c1,hR⟩:=xB hR;refine oG F rfl call67 rfl (impl_solverFor_c z1 c1 _ H.hN (xG.m i1 (H.u h1)) (xI.m i2 (H.u h2))) (fun a vv w ⟨v3,hv1,S⟩ F=>?_);subst vv;have H:=H.r1 S n1;obtain⟨w32,rfl⟩:∃ x,x=w:=⟨_,rfl⟩;have sm1:=H.sm;obtain⟨X1,N1,g1,e1,H,th1,ab1⟩:=H.fza;have h3:=g1.rod;obtain⟨z2,c2,hR⟩:=xB hR;refine oG F rfl call68 rfl (impl_solver_first_c z2 c2 _ aA (H.a h3) Bo.snil) (fun a vv w ⟨v4,hv2,S⟩ F=>?_);subst vv;have H:=H.r1 S n0;refine xA 4 F rfl fun a F=>xJ (xT (oE ?_));have H:=(th1.1 H (Ns.all ⟨n0,⟨n0,⟨n0,trivial⟩⟩⟩));refine zV F rfl (oD F rfl) (oD F rfl) ?_;obtain rfl:=Option.some.inj hR;exact⟨_,rfl,v4,rfl,(H.s [1] rfl rfl)⟩
 replace hR:=vR hb1 hR;refine xL (xF (xP (oBA isAgg35 sizeOf35 F rfl rfl (H.b 1 rfl) rfl rfl fun a F=>oBA isAgg39 sizeOf39 F rfl rfl (H.b 0 rfl) rfl rfl (fun a F=>?_))));obtain⟨z3,c3,hR⟩:=xB hR;refine oG F rfl call69 rfl (impl_makePairs_c z3 c3 _ aA (xG.m i1 (H.a h1)) (xI.m i2 (H.a h2))) (fun a vv w ⟨v5,v6,hv3,S⟩ F=>?_);subst vv;have H:=H.rk S ⟨n0,⟨n0,trivial⟩⟩ rfl;refine xA 3 F rfl fun a F=>oA zeroValue33 F rfl rfl H fun a w b3 H F=>oW sizeOf33 F rfl rfl rfl H (H.r 1 rfl).one rfl rfl fun w H=>xA 1 F rfl fun a F=>xJ (xC (xP ?_));refine oB isAgg33 F rfl rfl (H.b 0 rfl) rfl (fun a F=>?_);obtain⟨z4,c4,hR⟩:=xB hR;refine oK F rfl call30 rfl H (slices_ContainsFunc_s_Rel_Rel_c z4 c4 _ aA (H.r 1 rfl) call31 (fun a0 r h W l1 u0 f0=>impl_hasNone_c r h W aA f0)) fun a w H F=>xJ (qT F rfl (fun hb2=>?_) (fun hb2=>?_))
 ·
  replace hR:=vS hb2 hR;refine xP (xA 2 F rfl fun a F=>xJ (xT (oE (zV F rfl (oD F rfl) (oD F rfl) ?_))));obtain rfl:=Option.some.inj hR;exact⟨_,rfl,(.slice none 0 0),rfl,((H.nl 1 xH 2).s [0] rfl rfl)⟩
 replace hR:=vR hb2 hR;refine xL (xF (xP (oB isAgg33 F rfl rfl (H.b 0 rfl) rfl (fun a F=>?_))));obtain⟨z5,c5,hR⟩:=xB hR;refine oI underlying33 sizeOf69 F rfl rfl rfl (H.r 1 rfl) c5 fun a p1 h4 F=>oF (s':=1) vX F rfl rfl h4 oM.f1 fun a p2 h5 F=>olS isAgg67 F rfl rfl (Sm.refl _ _) h5 (fun a v7 h6 F=>?_);obtain⟨z6,c6,hR⟩:=xB hR;refine oI underlying67 sizeOf30 F rfl rfl rfl h6 c6 fun a p3 h7 F=>olS isAgg30 F rfl rfl (Sm.refl _ _) h7 (fun a v8 h64 F=>?_);obtain⟨z7,c7,hR⟩:=xB hR;refine oI underlying30 sizeOf2 F rfl rfl rfl h64 c7 fun a p4 h8 F=>olI isAgg2 F rfl rfl (Sm.refl _ _) h8 fun a i3 F=>oR1z (R:=xH) (y:=z7) underlying30 sizeOf2 zeroValue2 rfl rfl F rfl rfl H (Eo.int i3) fun a w v9 H F=>oA zeroValue30 F rfl rfl H fun a w b4 H F=>oW sizeOf30 F rfl rfl rfl H (H.l 1 rfl).one rfl rfl fun w H=>xJ (xC (xP (oA zeroValue2 F rfl rfl H (fun a w b5 H F=>?_))));refine oW sizeOf2 F rfl rfl rfl H rfl rfl rfl fun w H=>xJ ?_;obtain⟨o1,hR,hk1⟩:=xK hR;refine xW (fun a w=>∃ (s1:List Int) (v10:Value) (b6:Nat) (s2:Int),o1= .nx (s1,s2)∧Sk a 56 [(8,.pointer (some ⟨b4,0,none⟩))]∧Sep [] B w0 w [bx b4 [v10] 30,rl 1 xH 2 v10 s1]∧xY s2) ?_ ?_
 ·
  refine xS ?_;obtain⟨fl1,hf1,hR⟩:=whl_gen hR;refine oR (fun g a w=>∃ (s3:List Int) (v11:Value) (b7:Nat) (s4:Int),whl fl1 g (s3,s4)=some o1∧Sk a 56 [(2,.pointer (some ⟨b1,0,none⟩)),(3,.pointer (some ⟨b2,0,none⟩)),(6,.pointer (some ⟨b3,0,none⟩)),(8,.pointer (some ⟨b4,0,none⟩)),(9,.pointer (some ⟨b7,0,none⟩))]∧Sep [] B w0 w [bx b7 [.int .i64 s4] 2,bx b4 [v11] 30,rl 1 xH 2 v11 s3,bx b3 [v5] 33,rw N0 2 oM 69 v5 z3.1,bx b2 [.int .i64 x1.vars,v16] 39,bx b1 [.int .i64 x0.size,v2] 35]∧xY s4) N ?_ ?_
  ·
   exact⟨[z7],v9,b5,1,hR,F.su,(H.s [0,1,2,3,4,6,7] rfl rfl),(show xY (1) by decide)⟩
  intro g2 a w ⟨s3,v11,b7,s4,hR,F,H,i4⟩;obtain⟨ck1,t1,hg1,hR,hn1⟩:=zU hR;rw[hf1] at hR;refine xC (xP (oB isAgg2 F rfl rfl (H.b 0 rfl) rfl fun a F=>oY zY F rfl rfl rfl fun a F=>oB isAgg2 F rfl rfl (H.b 5 rfl) rfl fun a F=>xA 1 F rfl fun a F=>xJ (qT F rfl (fun hb3=>?_) (fun hb3=>?_))))
  ·
   replace hR:=vS hb3 hR;refine xL (xF (xC (xS (xP (oY fa35_0 F rfl rfl rfl fun a F=>oB isAgg2 F rfl rfl (H.b 6 rfl) rfl (fun a F=>?_))))));obtain⟨z8,c8,hR⟩:=xB hR;refine oG F rfl call71 rfl (impl_upTo_c z8 c8 _ aA (show xY (0) by decide) i1) (fun a vv w ⟨v13,hv4,S⟩ F=>?_);subst vv;have H:=H.r1 S n0;refine o_func F rfl rfl rfl (fun a F=>?_);obtain⟨z9,c9,hR⟩:=xB hR;refine oKI F rfl call70 rfl H (slices_IndexFunc_s_int64_int64_c z9 c9 _ aA (H.l 0 rfl) call72 (fun a0 r h W l1 f0=>impl_byPairs_1_c r h W aA f0 ((c1S (H.g 2 rfl).bk (H.l 3 rfl)).w l1) ((c1S (H.g 4 rfl).bk (H.r 5 rfl)).w l1) ((c1I (H.g 1 rfl).bk i4).w l1))) fun a w H iz1 F=>xA 1 F rfl fun a F=>xJ (xC (xP (xA 2 F rfl fun a F=>xJ ?_)));refine qT F rfl (fun hb4=>?_) (fun hb4=>?_)
   ·
    replace hR:=vS hb4 hR;refine xP (xA 2 F rfl fun a F=>xJ (xT (oE (vH (oE (oE ?_))))));replace hR:=zS hR hn1;refine vH (oE ?_);replace hR:=zR hR hk1;refine oE (zV F rfl (oD F rfl) (oD F rfl) ?_);obtain rfl:=Option.some.inj hR;exact⟨_,rfl,(.slice none 0 0),rfl,((H.nl 1 xH 2).s [0] rfl rfl)⟩
   replace hR:=vR hb4 hR;refine xL (xF (xR (oB isAgg30 F rfl rfl (H.b 2 rfl) rfl fun a F=>xA 1 F rfl fun a F=>oR1z (R:=xH) (y:=z9) underlying30 sizeOf2 zeroValue2 rfl rfl F rfl rfl H (Eo.int iz1) (fun a w v14 H F=>?_))));obtain⟨z10,c10,hR⟩:=xB hR;refine oPL (sz:=1) (R:=xH) (z:=(.int .i64 0)) (bytes:=8) underlying30 (by kernel_rfl) rfl rfl F rfl rfl rfl (H.s [4,0,1,2,3,5,6,7,8] rfl rfl) c10 fun a w v15 H F=>oW sizeOf30 F rfl rfl rfl (H.s [3,0,1,2,4,5,6,7] rfl rfl) ((H.s [3,0,1,2,4,5,6,7] rfl rfl).l 1 rfl).one rfl rfl fun w H=>qD (qW (xF (xC (xP (oB isAgg2 F rfl rfl (H.b 3 rfl) rfl fun a F=>xJ ?_)))));refine xR (oA zeroValue2 F rfl rfl H fun a w b8 H F=>oW sizeOf2 F rfl rfl rfl H rfl rfl rfl fun w H=>xJ (xR (oB isAgg2 F rfl rfl (H.b 0 rfl) rfl (fun a F=>?_))));obtain⟨z11,c11,hR⟩:=xB hR;refine kX F rfl rfl rfl c11 fun a F=>oW sizeOf2 F rfl rfl rfl H rfl rfl rfl fun w H=>xJ ?_;replace hR:=qZ hR hn1;exact⟨t1,(by omega),z10,v15,b8,z11,hR,F.su,(H.s [0,1,2,5,6,7,8] rfl rfl),(ck64 c11)⟩
  replace hR:=vR hb3 hR;refine oO (oQ (oQ ?_));replace hR:=l_brk hR hn1;refine vJ (xF ?_);exact⟨s3,v11,b7,s4,(Option.some.inj hR).symm,F.su,(H.s [1,2] rfl rfl),i4⟩
 intro a w ⟨s1,v10,b6,s2,ho1,F,H,i5⟩;subst ho1;have hR:=xN hk1;refine xF (xP (oB isAgg30 F rfl rfl (H.b 0 rfl) rfl fun a F=>xA 2 F rfl fun a F=>xJ (xT (zV F rfl (oD F rfl) (oD F rfl) ?_))));obtain rfl:=Option.some.inj hR;exact⟨_,rfl,v10,rfl,(H.s [1] rfl rfl)⟩
def impl_isTrue (x0:Int) (x1:Equation) (x2:List Int):Option Bool:=
 vO (σ:=Int) (
  qK (σ:=Int) (ρ:=Bool) (fun(k1:Nat) (x3:Int) (s1:Int)=>
   xX (ix x2 (k1:Int)) fun z1=>
   xX (ck (x3*z1)) fun z2=>
   xX (ck (s1+z2)) fun z3=>
   some (.go z3)) x1.left 0 0) fun s2=>
 xX (rm s2 x0) fun z4=>
 some ((z4==x1.right))
theorem impl_isTrue_c {B:Nat→Prop} {x0:Int} {x1:Equation} {x2:List Int} (r:Bool) (hR:impl_isTrue x0 x1 x2=some r) {v1:Value} {v2:Value} (w0:World) (hN:∀ c,B c→c<w0.heap.size) (hx0:xY x0) (A1:Bo B w0 (zC 2 vZ) v1 x1) (A2:Bo B w0 (Sl 1 xH) v2 x2):Calls Tryz.prog 121 #[.int .i64 x0,v1,v2] w0 (vV (.bool r) w0):=by
 unfold impl_isTrue at hR
 refine xV (L:=[(0,.int .i64 x0),(1,v1),(2,v2)]) func121 rfl rfl rfl (sc rfl (sc rfl (sc rfl sn))) (fun a F=>?_);have H:=Sep.start hN;refine xP ?_;obtain⟨v3,rfl,h1,i1⟩:=vZ.o A1;refine oX F rfl rfl rfl H fun a w b1 H F=>xA 1 F rfl fun a F=>qU (xA 1 F rfl fun a F=>xJ (xC (xC ?_)));refine xR (oY fa168_0 F rfl rfl rfl fun a F=>oB isAgg30 F rfl rfl (H.b 0 rfl) rfl fun a F=>oL underlying30 F rfl rfl h1 fun a i2 F=>xA 1 F rfl fun a F=>xJ ?_);obtain⟨o1,hR,hk1⟩:=xK hR;refine xW (fun a w=>∃ (s1:Int),o1= .nx s1∧Sk a 33 [(0,.int .i64 x0),(4,.pointer (some ⟨b1,0,none⟩)),(7,.int .i64 s1)]∧Sep [] B w0 w [bx b1 [v3,.int .i64 x1.right] 168]∧xY s1) ?_ ?_
 ·
  refine xS ?_;obtain⟨fl1,hf1,hR⟩:=qE hR;refine oR (fun g a w=>∃ (k1:Nat) (t1:List Int) (s2:Int),(k1≤x1.left.length∧x1.left.drop k1=t1)∧t1.length=g∧qK fl1 t1 k1 s2=some o1∧Sk a 33 [(13,.int .i64 (k1:Int)),(0,.int .i64 x0),(2,v2),(4,.pointer (some ⟨b1,0,none⟩)),(7,.int .i64 s2),(11,v3),(12,.int .i64 (x1.left.length:Int))]∧Sep [] B w0 w [bx b1 [v3,.int .i64 x1.right] 168]∧xY s2) x1.left.length ?_ ?_
  ·
   exact⟨0,x1.left,0,⟨Nat.zero_le _,rfl⟩,rfl,hR,F.su,H,(show xY (0) by decide)⟩
  intro g1 a w ⟨k1,t1,s2,hd1,hg1,hR,F,H,i3⟩
  cases t1 with
  | nil=>
   replace hR:=qG hR;have q1:=qH hd1.1 hd1.2;have l1:=vA q1;refine xP (xA 1 F rfl fun a F=>xJ (xC (qV F rfl l1 (oO (oQ (oQ (vJ ?_)))))));refine xF ?_;exact⟨s2,(Option.some.inj hR).symm,F.su,H,i3⟩
  | cons x3 t1=>
   subst hg1;replace hd1:=oH hd1.2;have y1:=oV hd1.2.1;obtain⟨ck1,hR,hn1⟩:=oU hR;rw[hf1] at hR;have l1:=qP hd1.1;refine xP (xA 1 F rfl fun a F=>xJ (xC (qY F rfl l1 (xL (xF (xC ?_))))));have j1:=k64 (Nat.le_of_lt hd1.1) i2;have m1:=zA hd1.1 i2;refine xS (xP (xA 1 F rfl fun a F=>oI underlying30 sizeOf2 F rfl rfl rfl h1 y1 fun a p1 h2 F=>olI isAgg2 F rfl rfl H.sm h2 fun a i4 F=>xA 2 F rfl fun a F=>xJ (xR ?_)));refine xA 4 F rfl fun a F=>?_;obtain⟨z1,c1,hR⟩:=xB hR;refine oI underlying30 sizeOf2 F rfl rfl rfl A2 c1 fun a p2 h3 F=>olI isAgg2 F rfl rfl H.sm h3 (fun a i5 F=>?_);obtain⟨z2,c2,hR⟩:=xB hR;refine o_mul F rfl rfl rfl c2 (fun a F=>?_);obtain⟨z3,c3,hR⟩:=xB hR;refine kX F rfl rfl rfl c3 fun a F=>xA 1 F rfl fun a F=>qD (qW (xF (xR (qR F rfl rfl rfl m1 fun a F=>xA 1 F rfl fun a F=>xJ ?_))));replace hR:=qZ hR hn1;exact⟨_,Nat.lt_succ_self _,k1+1,t1,z3,⟨hd1.1,hd1.2.2⟩,rfl,hR,F.su,H,(ck64 c3)⟩
 intro a w ⟨s1,ho32,F,H,i6⟩;subst ho32;have hR:=xN hk1;refine xF (xC (xQ H (by kernel_rfl) (by kernel_rfl) (xU F rfl (fun w l=>xM F rfl) fun a F=>xU F rfl (fun w l=>xM F rfl) (fun a F=>?_))));obtain⟨z4,c4,hR⟩:=xB hR;refine xU F rfl (fun w l=>r_rem F rfl rfl c4) fun a F=>xU F rfl (fun w l=>zQ fa168_1 F rfl rfl) fun a F=>qB isAgg2 F rfl rfl (H.qb 0 rfl) rfl fun a F=>xU F rfl (fun w l=>r_eql F rfl rfl) fun a F=>xU F rfl (fun w l=>kL F rfl) fun a F=>kP fun w H=>xF (xT (xO F rfl (oD F rfl) ?_));obtain rfl:=Option.some.inj hR;exact⟨rfl,H.bl⟩
def kY (x0:List Int) (y0:Equation):Option Bool:=
 xX (impl_isTrue 2 y0 x0) fun z1=>
 some ((!z1))
theorem impl_equationsOver_1_c {B:Nat→Prop} {x0:List Int} {y0:Equation} (r:Bool) (hR:kY x0 y0=some r) {v0:Value} {v1:Value} (w0:World) (hN:∀ c,B c→c<w0.heap.size) (A0:Bo B w0 (Sl 1 xH) v0 x0) (A1:Bo B w0 (Pt 2 vZ) v1 y0):Calls Tryz.prog 120 #[v0,v1] w0 (vV (.bool r) w0):=by
 unfold kY at hR
 refine xV (L:=[(0,v0),(1,v1)]) func120 rfl rfl rfl (sc rfl (sc rfl sn)) (fun a F=>?_);have H:=Sep.start hN;refine xP (xA 1 F rfl fun a F=>qU (olA isAgg168 sizeOf168 F rfl rfl H.sm A1 fun a v2 h1 F=>xA 1 F rfl fun a F=>?_));obtain⟨z1,c1,hR⟩:=xB hR;refine oK F rfl call121 rfl H (impl_isTrue_c z1 c1 _ aA (show xY (2) by decide) (H.a h1) (H.a A0)) fun a w H F=>xA 2 F rfl fun a F=>xJ (xT (xO F rfl (oD F rfl) ?_));obtain rfl:=Option.some.inj hR;exact⟨rfl,H.bl⟩
def impl_equationsOver (N:Nat) (x0:Rel):Option (List (List Int)):=
 xX (ck (x0.arity+1)) fun z1=>
 xX (kU 2 z1) fun z2=>
 vO (σ:=(List (List Int))) (
  vQ (σ:=(List (List Int))) (ρ:=(List (List Int))) (fun(k1:Nat) (s1:(List (List Int)))=>
   xX (zF N 2 z1 (1+(k1:Int))) fun z3=>
   xX (sl z3 0 x0.arity) fun z4=>
   xX (ix z3 x0.arity) fun z5=>
   xX (qO x0.tuples (fun a0=>kY a0 (Equation.mk z4 z5))) fun z6=>
   if (!z6) then
    xX (ap s1 ([z3])) fun z7=>
    some (.go z7)
   else
    some (.go s1)) (z2 - 1).toNat 0 []) fun s2=>
 some s2
theorem impl_equationsOver_c {B:Nat→Prop} {N:Nat} {x0:Rel} (r:(List (List Int))) (hR:impl_equationsOver N x0=some r) {v0:Value} (w0:World) (hN:∀ c,B c→c<w0.heap.size) (A0:Bo B w0 (zC 2 oM) v0 x0):Calls Tryz.prog 74 #[v0] w0 (Gv (fun v w'=>∃ (v1':Value),v=v1'∧Sep [] B w0 w' [rl 1 (vY 1 xH) 30 v1' r])):=by
 unfold impl_equationsOver at hR
 refine xV (L:=[(0,v0)]) func74 rfl rfl rfl (sc rfl sn) (fun a F=>?_);have H:=Sep.start hN;refine xP ?_;obtain⟨v1,rfl,i1,h1⟩:=oM.o A0;refine oX F rfl rfl rfl H fun a w b1 H F=>xA 1 F rfl fun a F=>qU (oR0 (R:=(vY 1 xH)) underlying67 sizeOf30 F rfl H fun a w v2 H F=>xA 1 F rfl fun a F=>xJ (xC ?_));refine xP (xA 1 F rfl fun a F=>xJ ?_);obtain⟨z1,c1,hR⟩:=xB hR;obtain⟨z2,c2,hR⟩:=xB hR;obtain⟨o1,hR,hk1⟩:=xK hR;refine xW (fun a w=>∃ (s1:List (List Int)) (v3:Value),o1= .nx s1∧Sk a 41 [(3,v3)]∧Sep [] B w0 w [rl 1 (vY 1 xH) 30 v3 s1]) ?_ ?_
 ·
  refine xS ?_;obtain⟨fl1,hf1,hR⟩:=zI hR;refine oR (fun g a w=>∃ (k1:Nat) (s2:List (List Int)) (v4:Value),k1+g=(z2 - 1).toNat∧vQ fl1 g k1 s2=some o1∧Sk a 41 [(4,.int .i64 (1+(k1:Int))),(1,.pointer (some ⟨b1,0,none⟩)),(3,v4)]∧Sep [] B w0 w [rl 1 (vY 1 xH) 30 v4 s2,bx b1 [.int .i64 x0.arity,v1] 69]) (z2 - 1).toNat ?_ ?_
  ·
   exact⟨0,[],v2,(Nat.zero_add _),hR,F.su,H⟩
  intro g1 a w ⟨k1,s2,v4,hd1,hR,F,H⟩
  cases g1 with
  | zero=>
   replace hR:=vT hR;have l2:=dec_noIO hd1;refine xC (xP (xA 1 F rfl fun a F=>oY fa69_0 F rfl rfl rfl fun a F=>oB isAgg2 F rfl rfl (H.b 1 rfl) rfl fun a F=>kX F rfl rfl rfl c1 fun a F=>oKI F rfl call117 rfl H (impl_power_c z2 c2 _ aA (show xY (2) by decide) (ck64 c1)) fun a w H iz1 F=>xA 1 F rfl fun a F=>xJ ?_));refine qV F rfl l2 (oO (oQ (oQ (vJ (xF ?_)))));exact⟨s2,v4,(Option.some.inj hR).symm,F.su,(H.s [0] rfl rfl)⟩
  | succ g1=>
   obtain⟨ck1,hR,hn1⟩:=vU hR;rw[hf1] at hR;have l2:=dec_yesIO hd1;refine xC (xP (xA 1 F rfl fun a F=>oY fa69_0 F rfl rfl rfl fun a F=>oB isAgg2 F rfl rfl (H.b 1 rfl) rfl fun a F=>kX F rfl rfl rfl c1 fun a F=>oKI F rfl call117 rfl H (impl_power_c z2 c2 _ aA (show xY (2) by decide) (ck64 c1)) fun a w H iz1 F=>xA 1 F rfl fun a F=>xJ ?_));refine qY F rfl l2 (xL (xF (xC ?_)));have j1:=k64O hd1 (show xY (1) by decide) iz1;have m1:=inc64O hd1 (show xY (1) by decide) iz1;refine xS (xP (oY fa69_0 F rfl rfl rfl fun a F=>oB isAgg2 F rfl rfl (H.b 1 rfl) rfl fun a F=>kX F rfl rfl rfl c1 fun a F=>xA 1 F rfl fun a F=>?_));obtain⟨z3,c3,hR⟩:=xB hR;refine oG F rfl call118 rfl (impl_listOf_c z3 c3 _ aA (show xY (2) by decide) (ck64 c1) j1) (fun a vv w ⟨v5,hv1,S⟩ F=>?_);subst vv;have H:=H.r1 S n0;refine xA 1 F rfl fun a F=>xJ (xC ?_);obtain⟨z4,c4,hR⟩:=xB hR;obtain⟨z5,c5,hR⟩:=xB hR;obtain⟨w1,rfl⟩:∃ x,x=w:=⟨_,rfl⟩;have sm1:=H.sm;obtain⟨X1,N1,g2,e1,H,th1,ab1⟩:=(H.s [0,2,1] rfl rfl).mg.fza;have h2:=g2.l.ld;have K1:=g2.r.bk;refine xD H (by kernel_rfl) fun w H=>vD 0 rfl (by kernel_rfl) (by kernel_rfl) (by kernel_rfl) (oJ F rfl (fun w l=>xM F rfl) fun a F=>kO 1 (by kernel_rfl) rfl (by kernel_rfl) (by kernel_rfl) (by kernel_rfl) (by kernel_rfl) (oJ F rfl (fun w l=>zQ fa69_0 F rfl rfl) fun a F=>kO 2 (by kernel_rfl) rfl (by kernel_rfl) (by kernel_rfl) (by kernel_rfl) (by kernel_rfl) (vB isAgg2 F rfl rfl (K1.v H.sm) rfl fun a F=>kO 3 (by kernel_rfl) rfl (by kernel_rfl) (by kernel_rfl) (by kernel_rfl) (by kernel_rfl) (vC underlying30 sizeOf2 F rfl rfl rfl rfl h2 c4 fun a v6 h3 F=>vD 4 rfl (by kernel_rfl) (by kernel_rfl) (by kernel_rfl) (oJ F rfl (fun w l=>xM F rfl) (fun a F=>?_))))));refine kO 5 (by kernel_rfl) rfl (by kernel_rfl) (by kernel_rfl) (by kernel_rfl) (by kernel_rfl) (oJ F rfl (fun w l=>zQ fa69_0 F rfl rfl) fun a F=>kO 6 (by kernel_rfl) rfl (by kernel_rfl) (by kernel_rfl) (by kernel_rfl) (by kernel_rfl) (vB isAgg2 F rfl rfl (K1.v H.sm) rfl fun a F=>kO 7 (by kernel_rfl) rfl (by kernel_rfl) (by kernel_rfl) (by kernel_rfl) (by kernel_rfl) (vI underlying30 sizeOf2 F rfl rfl rfl h2 c5 fun a p1 h4 F=>kO 8 (by kernel_rfl) rfl (by kernel_rfl) (by kernel_rfl) (by kernel_rfl) (by kernel_rfl) (vlI isAgg2 F rfl rfl H.v h4 fun a i2 F=>kO 9 (by kernel_rfl) rfl (by kernel_rfl) (by kernel_rfl) (by kernel_rfl) (by kernel_rfl) (oJ F rfl (fun w l=>r_build underlying168 zeroValue168 (fun w=>by simp [sizeOf2,sizeOf30];rfl) F rfl rfl rfl rfl (oc (H.a h3).one (oc rfl on)) rfl rfl) fun a F=>xE H 10 rfl (by kernel_rfl) ?_)))));refine oA zeroValue168 F rfl rfl H fun a w b2 H F=>xJ ⟨⟨_,H⟩,?_⟩;refine xE H 11 rfl (by kernel_rfl) (oWA (vs:=[v6,.int .i64 z5]) sizeOf168 F rfl rfl rfl H (oc (H.a h3).one (oc rfl on)) rfl rfl fun w H=>xJ ⟨⟨_,H⟩,?_⟩);refine b_end (by kernel_rfl) (xF (xP (oY vX F rfl rfl rfl fun a F=>oB isAgg67 F rfl rfl (K1.o H.sm) rfl fun a F=>o_func F rfl rfl rfl (fun a F=>?_))));obtain⟨z6,c6,hR⟩:=xB hR;refine oK F rfl call119 rfl H (kG z6 c6 _ aA (H.a (e1 h1)) call120 (fun a0 r h W l1 u0 f0=>impl_equationsOver_1_c r h W aA f0 ((vZ.b (H.g 0 rfl).bk (H.a h3) i2).w l1))) fun a w H F=>xA 1 F rfl fun a F=>xJ (qT F rfl (fun hb1=>?_) (fun hb1=>?_))
   ·
    replace hR:=vS hb1 hR;refine xR (xA 2 F rfl fun a F=>?_);have H:=(th1.1 H (Ns.all ⟨n0,⟨n0,trivial⟩⟩)).um;have H:=H.os;refine oR1L (R:=(vY 1 xH)) (y:=z3) underlying67 sizeOf30 zeroValue30 rfl rfl F rfl rfl H El.sl (fun a w v7 H F=>?_);obtain⟨z7,c7,hR⟩:=xB hR;refine oPL (sz:=1) (R:=(vY 1 xH)) (z:=((.slice none 0 0))) (bytes:=24) underlying67 (by kernel_rfl) rfl rfl F rfl rfl rfl (H.s [3,0,1,2] rfl rfl) c7 fun a w v8 H F=>xA 1 F rfl fun a F=>qD (qW (xF (xR (xA 1 F rfl fun a F=>o_incO F rfl rfl rfl m1 fun a F=>xA 1 F rfl fun a F=>xJ ?_))));replace hR:=qZ hR hn1;exact⟨_,Nat.lt_succ_self _,k1+1,z7,v8,(by omega),hR,F.su,(H.s [0,1] rfl rfl)⟩
   replace hR:=vR hb1 hR;refine xL (qW (xF (xR (xA 1 F rfl fun a F=>o_incO F rfl rfl rfl m1 fun a F=>xA 1 F rfl fun a F=>xJ ?_))));replace hR:=qZ hR hn1;exact⟨_,Nat.lt_succ_self _,k1+1,s2,v4,(by omega),hR,F.su,((th1.1 (H.s [1] rfl rfl) (Ns.all ⟨n0,trivial⟩)).um.s [2,1] rfl rfl)⟩
 intro a w ⟨s1,v3,ho1,F,H⟩;subst ho1;have hR:=xN hk1;refine xF (xP (xA 2 F rfl fun a F=>xJ (xT (xO F rfl (oD F rfl) ?_))));obtain rfl:=Option.some.inj hR;exact⟨_,rfl,v3,rfl,H⟩
def impl_plus (x0:List Int) (x1:List Int):Option (List Int):=
 xX (vM x0) fun z1=>
 vO (σ:=(List Int)) (
  qK (σ:=(List Int)) (ρ:=(List Int)) (fun(k1:Nat) (x2:Int) (s1:(List Int))=>
   xX (ix s1 (k1:Int)) fun z2=>
   xX (ck (z2+x2)) fun z3=>
   xX (rm z3 2) fun z4=>
   some (.go (s1.set ((k1:Int)).toNat z4))) x1 0 z1) fun s2=>
 some s2
theorem impl_plus_c {B:Nat→Prop} {x0:List Int} {x1:List Int} (r:(List Int)) (hR:impl_plus x0 x1=some r) {v0:Value} {v1:Value} (w0:World) (hN:∀ c,B c→c<w0.heap.size) (A0:Bo B w0 (Sl 1 xH) v0 x0) (A1:Bo B w0 (Sl 1 xH) v1 x1):Calls Tryz.prog 75 #[v0,v1] w0 (Gv (fun v w'=>∃ (v1':Value),v=v1'∧Sep [] B w0 w' [rl 1 xH 2 v1' r])):=by
 unfold impl_plus at hR
 refine xV (L:=[(0,v0),(1,v1)]) func75 rfl rfl rfl (sc rfl (sc rfl sn)) (fun a F=>?_);have H:=Sep.start hN;refine xP (xA 1 F rfl fun a F=>qU (xA 1 F rfl fun a F=>?_));obtain⟨z1,c1,hR⟩:=xB hR;refine oG F rfl call106 rfl (kT z1 c1 _ aA (H.a A0)) (fun a vv w ⟨v2,hv1,S⟩ F=>?_);subst vv;have H:=H.r1 S n0;refine xA 1 F rfl fun a F=>xJ (xC (xP (xA 1 F rfl fun a F=>oL underlying30 F rfl rfl A1 fun a i16 F=>xA 1 F rfl fun a F=>xJ ?_)));obtain⟨o1,hR,hk1⟩:=xK hR;refine xW (fun a w=>∃ (s1:List Int) (v3:Value),o1= .nx s1∧Sk a 29 [(5,v3)]∧Sep [] B w0 w [rl 1 xH 2 v3 s1]) ?_ ?_
 ·
  refine xS ?_;obtain⟨fl1,hf1,hR⟩:=qE hR;refine oR (fun g a w=>∃ (k1:Nat) (t1:List Int) (s2:List Int) (v4:Value),(k1≤x1.length∧x1.drop k1=t1)∧t1.length=g∧qK fl1 t1 k1 s2=some o1∧Sk a 29 [(12,.int .i64 (k1:Int)),(5,v4),(10,v1),(11,.int .i64 (x1.length:Int))]∧Sep [] B w0 w [rl 1 xH 2 v4 s2]) x1.length ?_ ?_
  ·
   exact⟨0,x1,z1,v2,⟨Nat.zero_le _,rfl⟩,rfl,hR,F.su,H⟩
  intro g1 a w ⟨k1,t1,s2,v4,hd1,hg1,hR,F,H⟩
  cases t1 with
  | nil=>
   replace hR:=qG hR;have q1:=qH hd1.1 hd1.2;have l1:=vA q1;refine xP (xA 1 F rfl fun a F=>xJ (xC (qV F rfl l1 (oO (oQ (oQ (vJ ?_)))))));refine xF ?_;exact⟨s2,v4,(Option.some.inj hR).symm,F.su,H⟩
  | cons x2 t1=>
   subst hg1;replace hd1:=oH hd1.2;have y1:=oV hd1.2.1;obtain⟨ck1,hR,hn1⟩:=oU hR;rw[hf1] at hR;have l1:=qP hd1.1;refine xP (xA 1 F rfl fun a F=>xJ (xC (qY F rfl l1 (xL (xF (xC ?_))))));have j1:=k64 (Nat.le_of_lt hd1.1) i16;have m1:=zA hd1.1 i16;refine xS (xP (xA 1 F rfl fun a F=>oI underlying30 sizeOf2 F rfl rfl rfl A1 y1 fun a p1 h1 F=>olI isAgg2 F rfl rfl H.sm h1 fun a i1 F=>xA 2 F rfl fun a F=>xJ (xR ?_)));refine xA 4 F rfl fun a F=>?_;obtain⟨z2,c2,hR⟩:=xB hR;refine oI underlying30 sizeOf2 F rfl rfl rfl (H.l 0 rfl) c2 fun a p2 h2 F=>olI isAgg2 F rfl rfl (Sm.refl _ _) h2 fun a i2 F=>xA 1 F rfl fun a F=>?_;obtain⟨z3,c3,hR⟩:=xB hR;refine kX F rfl rfl rfl c3 (fun a F=>?_);obtain⟨z4,c4,hR⟩:=xB hR;refine o_rem F rfl rfl rfl c4 fun a F=>oRl underlying30 sizeOf2 F rfl rfl rfl H 0 rfl c2 (fun a p3 h3 rp1 F=>?_);have H:=H.lw;refine oS sizeOf2 F rfl rfl rfl H rp1 (ix_lt c2) (Eo.int (rm64 c4 (ck64 c3) (show xY (2) by decide))) rfl rfl (fun w H=>?_);have H:=H.tl;refine qD (qW (xF (xR (qR F rfl rfl rfl m1 fun a F=>xA 1 F rfl fun a F=>xJ ?_))));replace hR:=qZ hR hn1;exact⟨_,Nat.lt_succ_self _,k1+1,t1,(s2.set ((k1:Int)).toNat z4),v4,⟨hd1.1,hd1.2.2⟩,rfl,hR,F.su,H⟩
 intro a w ⟨s1,v3,ho1,F,H⟩;subst ho1;have hR:=xN hk1;refine xF (xP (xA 2 F rfl fun a F=>xJ (xT (xO F rfl (oD F rfl) ?_))));obtain rfl:=Option.some.inj hR;exact⟨_,rfl,v3,rfl,H⟩
def impl_byEquations (N:Nat) (x0:Template) (x1:Instance):Option ((List Int)×Bool):=
 vO (σ:=(List told)) (
  qK (σ:=(List told)) (ρ:=(List Int)×Bool) (fun(k1:Nat) (x2:Con) (s1:(List told))=>
   xX (ix x0.rels x2.rel) fun z1=>
   xX (impl_equationsOver N z1) fun z2=>
   vO (σ:=(List told)) (
    qK (σ:=(List told)) (ρ:=(Ctl ((List told)) ((List Int)×Bool))) (fun(k2:Nat) (x3:(List Int)) (s2:(List told))=>
     xX (ck (x1.vars+1)) fun z3=>
     xX (mkz (0:Int) z3) fun z4=>
     vO (σ:=(List Int)) (
      qK (σ:=(List Int)) (ρ:=(Ctl ((List told)) (Ctl ((List told)) ((List Int)×Bool)))) (fun(k3:Nat) (x4:Int) (s3:(List Int))=>
       xX (ix s3 x4) fun z5=>
       xX (ix x3 (k3:Int)) fun z6=>
       xX (ck (z5+z6)) fun z7=>
       xX (rm z7 2) fun z8=>
       some (.go (s3.set (x4).toNat z8))) x2.scope 0 z4) fun s4=>
     xX (ck ((x3.length:Int) - 1)) fun z9=>
     xX (ix x3 z9) fun z10=>
     xX (ix s4 x1.vars) fun z11=>
     vO (σ:=(List Int)) (
      qK (σ:=(List Int)) (ρ:=(Ctl ((List told)) (Ctl ((List told)) ((List Int)×Bool)))) (fun(k4:Nat) (x5:told) (s5:(List Int))=>
       xX (ix s5 x5.var) fun z12=>
       if (z12==1) then
        xX (impl_plus s5 x5.left) fun z13=>
        some (.go z13)
       else
        some (.go s5)) s2 0 (s4.set (x1.vars).toNat z10)) fun s6=>
     xX (zG s6 1) fun z14=>
     if (decide (z14<0)) then
      some (.go s2)
     else
      if (z14==x1.vars) then
       some (.ret (.ret ([],false)))
      else
       vO (σ:=(List told)) (
        qK (σ:=(List told)) (ρ:=(Ctl ((List told)) (Ctl ((List told)) ((List Int)×Bool)))) (fun(k5:Nat) (x6:told) (s7:(List told))=>
         xX (ix s7 (k5:Int)) fun z15=>
         xX (ix z15.left z14) fun z16=>
         if (z16==1) then
          xX (impl_plus z15.left s6) fun z17=>
          some (.go (s7.set ((k5:Int)).toNat ({ z15 with left:=z17 })))
         else
          some (.go s7)) s2 0 s2) fun s8=>
       xX (ap s8 ([(told.mk s6 z14)])) fun z18=>
       some (.go z18)) z2 0 s1) fun s9=>
   some (.go s9)) x1.cons 0 []) fun s10=>
 xX (mkz (0:Int) x1.vars) fun z19=>
 vO (σ:=(List Int)) (
  qK (σ:=(List Int)) (ρ:=(List Int)×Bool) (fun(k6:Nat) (x7:told) (s11:(List Int))=>
   xX (ix x7.left x1.vars) fun z20=>
   xX (ix s11 x7.var) fun z21=>
   some (.go (s11.set (x7.var).toNat z20))) s10 0 z19) fun s12=>
 some (s12,true)
theorem impl_byEquations_c {B:Nat→Prop} {N:Nat} {x0:Template} {x1:Instance} (r:(List Int)×Bool) (hR:impl_byEquations N x0 x1=some r) {v0:Value} {v1:Value} (w0:World) (hN:∀ c,B c→c<w0.heap.size) (A0:Bo B w0 (zC 2 xG) v0 x0) (A1:Bo B w0 (zC 2 xI) v1 x1):Calls Tryz.prog 35 #[v0,v1] w0 (Gv (fun v w'=>∃ (v1':Value),v= .tuple #[v1',.bool r.2]∧Sep [] B w0 w' [rl 1 xH 2 v1' r.1])):=by
 unfold impl_byEquations at hR
 refine xV (L:=[(0,v0),(1,v1)]) func35 rfl rfl rfl (sc rfl (sc rfl sn)) (fun a F=>?_);have H:=Sep.start hN;refine xP ?_;obtain⟨v2,rfl,i1,h1⟩:=xG.o A0;refine oX F rfl rfl rfl H (fun a w b1 H F=>?_);obtain⟨v16,rfl,i2,h2⟩:=xI.o A1;refine oX F rfl rfl rfl H fun a w b2 H F=>xA 2 F rfl fun a F=>qU (oR0 (R:=kK) underlying118 sizeOf121 F rfl H fun a w v3 H F=>xA 1 F rfl fun a F=>xJ ?_);refine xC (xP (oY fa39_1 F rfl rfl rfl fun a F=>oB isAgg37 F rfl rfl (H.b 1 rfl) rfl fun a F=>oL underlying37 F rfl rfl h2 fun a i3 F=>xA 1 F rfl fun a F=>xJ ?_));obtain⟨o1,hR,hk1⟩:=xK hR;refine xW (fun a w=>∃ (s1:List told) (v4:Value),o1= .nx s1∧Sk a 156 [(3,.pointer (some ⟨b2,0,none⟩)),(6,v4)]∧Sep [] B w0 w [rw N0 2 kK 121 v4 s1,bx b2 [.int .i64 x1.vars,v16] 39]) ?_ ?_
 ·
  refine xS ?_;obtain⟨fl1,hf1,hR⟩:=qE hR;refine oR (fun g a w=>∃ (k1:Nat) (t1:List Con) (s2:List told) (v5:Value),(k1≤x1.cons.length∧x1.cons.drop k1=t1)∧t1.length=g∧qK fl1 t1 k1 s2=some o1∧Sk a 156 [(26,.int .i64 (k1:Int)),(2,.pointer (some ⟨b1,0,none⟩)),(3,.pointer (some ⟨b2,0,none⟩)),(6,v5),(24,v16),(25,.int .i64 (x1.cons.length:Int))]∧Sep [] B w0 w [rw N0 2 kK 121 v5 s2,bx b2 [.int .i64 x1.vars,v16] 39,bx b1 [.int .i64 x0.size,v2] 35]) x1.cons.length ?_ ?_
  ·
   exact⟨0,x1.cons,[],v3,⟨Nat.zero_le _,rfl⟩,rfl,hR,F.su,H.lw⟩
  intro g1 a w ⟨k1,t1,s2,v5,hd1,hg1,hR,F,H⟩
  cases t1 with
  | nil=>
   replace hR:=qG hR;have q1:=qH hd1.1 hd1.2;have l1:=vA q1;refine xP (xA 1 F rfl fun a F=>xJ (xC (qV F rfl l1 (oO (oQ (oQ (vJ ?_)))))));refine xF ?_;exact⟨s2,v5,(Option.some.inj hR).symm,F.su,(H.s [0,1] rfl rfl)⟩
  | cons x2 t1=>
   subst hg1;replace hd1:=oH hd1.2;have y1:=oV hd1.2.1;obtain⟨ck1,hR,hn1⟩:=oU hR;rw[hf1] at hR;have l1:=qP hd1.1;refine xP (xA 1 F rfl fun a F=>xJ (xC (qY F rfl l1 (xL (xF (xC ?_))))));have j1:=k64 (Nat.le_of_lt hd1.1) i3;have m1:=zA hd1.1 i3;refine xS (xP (oI underlying37 sizeOf85 F rfl rfl rfl h2 y1 fun a p1 h3 F=>olA isAgg85 sizeOf85 F rfl rfl H.sm h3 fun a v6 h4 F=>oA zeroValue85 F rfl rfl H (fun a w b3 H F=>?_)));obtain⟨v7,rfl,i4,h5⟩:=qX.o h4;refine oWA (vs:=[.int .i64 x2.rel,v7]) sizeOf85 F rfl rfl rfl H (oc rfl (oc (H.a h5).one on)) rfl rfl fun w H=>qU (oY fa35_1 F rfl rfl rfl fun a F=>oB isAgg33 F rfl rfl (H.b 3 rfl) rfl fun a F=>oY fa85_0 F rfl rfl rfl fun a F=>oB isAgg2 F rfl rfl (H.b 0 rfl) rfl (fun a F=>?_));obtain⟨z1,c1,hR⟩:=xB hR;refine oI underlying33 sizeOf69 F rfl rfl rfl h1 c1 fun a p2 h6 F=>olA isAgg69 sizeOf69 F rfl rfl H.sm h6 (fun a v8 h7 F=>?_);obtain⟨z2,c2,hR⟩:=xB hR;refine oG F rfl call74 rfl (impl_equationsOver_c z2 c2 _ aA (H.a h7)) (fun a vv w ⟨v9,hv1,S⟩ F=>?_);subst vv;have H:=H.r1 S n0;refine oL underlying67 F rfl rfl (H.l 0 rfl) fun a i5 F=>xA 1 F rfl fun a F=>xJ ?_;obtain⟨o2,hR,hk2⟩:=xK hR;refine xW (fun a w=>∃ (s3:List told) (v10:Value),o2= .nx s3∧Sk a 156 [(2,.pointer (some ⟨b1,0,none⟩)),(3,.pointer (some ⟨b2,0,none⟩)),(6,v10),(24,v16),(25,.int .i64 (x1.cons.length:Int)),(26,.int .i64 (k1:Int))]∧Sep [] B w0 w [rw N0 2 kK 121 v10 s3,bx b2 [.int .i64 x1.vars,v16] 39,bx b1 [.int .i64 x0.size,v2] 35]) ?_ ?_
   ·
    refine xS ?_;obtain⟨fl2,hf2,hR⟩:=qE hR;refine oR (fun g a w=>∃ (k2:Nat) (t2:List (List Int)) (s4:List told) (v11:Value),(k2≤z2.length∧z2.drop k2=t2)∧t2.length=g∧qK fl2 t2 k2 s4=some o2∧Sk a 156 [(38,.int .i64 (k2:Int)),(2,.pointer (some ⟨b1,0,none⟩)),(3,.pointer (some ⟨b2,0,none⟩)),(6,v11),(8,.pointer (some ⟨b3,0,none⟩)),(24,v16),(25,.int .i64 (x1.cons.length:Int)),(26,.int .i64 (k1:Int)),(36,v9),(37,.int .i64 (z2.length:Int))]∧Sep [] B w0 w [rl 1 (vY 1 xH) 30 v9 z2,bx b3 [.int .i64 x2.rel,v7] 85,rw N0 2 kK 121 v11 s4,bx b2 [.int .i64 x1.vars,v16] 39,bx b1 [.int .i64 x0.size,v2] 35]) z2.length ?_ ?_
    ·
     exact⟨0,z2,s2,v5,⟨Nat.zero_le _,rfl⟩,rfl,hR,F.su,H⟩
    intro g2 a w ⟨k2,t2,s4,v11,hd2,hg2,hR,F,H⟩
    cases t2 with
    | nil=>
     replace hR:=qG hR;have q2:=qH hd2.1 hd2.2;have l2:=vA q2;refine xP (xA 1 F rfl fun a F=>xJ (xC (qV F rfl l2 (oO (oQ (oQ (vJ ?_)))))));refine xF ?_;exact⟨s4,v11,(Option.some.inj hR).symm,F.su,(H.s [2,3,4] rfl rfl)⟩
    | cons x3 t2=>
     subst hg2;replace hd2:=oH hd2.2;have y2:=oV hd2.2.1;obtain⟨ck2,hR,hn2⟩:=oU hR;rw[hf2] at hR;have l2:=qP hd2.1;refine xP (xA 1 F rfl fun a F=>xJ (xC (qY F rfl l2 (xL (xF (xC ?_))))));have j2:=k64 (Nat.le_of_lt hd2.1) i5;have m2:=zA hd2.1 i5;refine xS (xP ?_);obtain⟨w1,rfl⟩:∃ x,x=w:=⟨_,rfl⟩;have sm1:=H.sm;obtain⟨X1,N1,g3,e1,H,th1,ab1⟩:=H.fza;have h8:=g3.ld;refine oI underlying67 sizeOf30 F rfl rfl rfl h8 y2 fun a p3 h9 F=>olS isAgg30 F rfl rfl H.sm h9 fun a v13 h10 F=>xA 1 F rfl fun a F=>qU (oY zY F rfl rfl rfl fun a F=>oB isAgg2 F rfl rfl (H.b 2 rfl) rfl (fun a F=>?_));obtain⟨z3,c3,hR⟩:=xB hR;refine kX F rfl rfl rfl c3 (fun a F=>?_);obtain⟨z4,c4,hR⟩:=xB hR;refine oRM (sz:=1) (R:=xH) (z:=(.int .i64 0)) (bytes:=8) underlying30 (by kernel_rfl) rfl (by decide) (by decide) (fun w=>⟨rfl,by decide,rfl⟩) F rfl rfl rfl c4 H fun a w v14 H F=>xA 1 F rfl fun a F=>xJ (xC (xP (oY kV F rfl rfl rfl fun a F=>oB isAgg30 F rfl rfl (H.b 1 rfl) rfl fun a F=>oL underlying30 F rfl rfl h5 fun a i6 F=>xA 1 F rfl fun a F=>?_)));refine xJ ?_;obtain⟨o3,hR,hk3⟩:=xK hR;refine xW (fun a w=>∃ (s5:List Int) (v15:Value),o3= .nx s5∧Sk a 156 [(2,.pointer (some ⟨b1,0,none⟩)),(3,.pointer (some ⟨b2,0,none⟩)),(6,v11),(8,.pointer (some ⟨b3,0,none⟩)),(10,v13),(11,v15),(24,v16),(25,.int .i64 (x1.cons.length:Int)),(26,.int .i64 (k1:Int)),(36,v9),(37,.int .i64 (z2.length:Int)),(38,.int .i64 (k2:Int))]∧Sep X1 N1 w1 w [rl 1 xH 2 v15 s5,bx b3 [.int .i64 x2.rel,v7] 85,rw N0 2 kK 121 v11 s4,bx b2 [.int .i64 x1.vars,v16] 39,bx b1 [.int .i64 x0.size,v2] 35]) ?_ ?_
     ·
      refine xS ?_;obtain⟨fl3,hf3,hR⟩:=qE hR;refine oR (fun g a w=>∃ (k3:Nat) (t3:List Int) (s6:List Int) (v17:Value),(k3≤x2.scope.length∧x2.scope.drop k3=t3)∧t3.length=g∧qK fl3 t3 k3 s6=some o3∧Sk a 156 [(49,.int .i64 (k3:Int)),(2,.pointer (some ⟨b1,0,none⟩)),(3,.pointer (some ⟨b2,0,none⟩)),(6,v11),(8,.pointer (some ⟨b3,0,none⟩)),(10,v13),(11,v17),(24,v16),(25,.int .i64 (x1.cons.length:Int)),(26,.int .i64 (k1:Int)),(36,v9),(37,.int .i64 (z2.length:Int)),(38,.int .i64 (k2:Int)),(47,v7),(48,.int .i64 (x2.scope.length:Int))]∧Sep X1 N1 w1 w [rl 1 xH 2 v17 s6,bx b3 [.int .i64 x2.rel,v7] 85,rw N0 2 kK 121 v11 s4,bx b2 [.int .i64 x1.vars,v16] 39,bx b1 [.int .i64 x0.size,v2] 35]) x2.scope.length ?_ ?_
      ·
       exact⟨0,x2.scope,z4,v14,⟨Nat.zero_le _,rfl⟩,rfl,hR,F.su,H⟩
      intro g4 a w ⟨k3,t3,s6,v17,hd3,hg3,hR,F,H⟩
      cases t3 with
      | nil=>
       replace hR:=qG hR;have q3:=qH hd3.1 hd3.2;have l3:=vA q3;refine xP (xA 1 F rfl fun a F=>xJ (xC (qV F rfl l3 (oO (oQ (oQ (vJ ?_)))))));refine xF ?_;exact⟨s6,v17,(Option.some.inj hR).symm,F.su,H⟩
      | cons x4 t3=>
       subst hg3;replace hd3:=oH hd3.2;have y3:=oV hd3.2.1;obtain⟨ck3,hR,hn3⟩:=oU hR;rw[hf3] at hR;have l3:=qP hd3.1;refine xP (xA 1 F rfl fun a F=>xJ (xC (qY F rfl l3 (xL (xF (xC ?_))))));have j3:=k64 (Nat.le_of_lt hd3.1) i6;have m3:=zA hd3.1 i6;refine xS (xP (xA 1 F rfl fun a F=>oI underlying30 sizeOf2 F rfl rfl rfl h5 y3 fun a p4 h11 F=>olI isAgg2 F rfl rfl (sm1.trans (Sm.mono H.sm th1.2.2)) h11 fun a i7 F=>xA 2 F rfl fun a F=>xJ ?_));obtain⟨z5,c5,hR⟩:=xB hR;obtain⟨z6,c6,hR⟩:=xB hR;obtain⟨z7,c7,hR⟩:=xB hR;obtain⟨z8,c8,hR⟩:=xB hR;refine xD H (by kernel_rfl) fun w H=>vD 0 rfl (by kernel_rfl) (by kernel_rfl) (by kernel_rfl) (oJ F rfl (fun w l=>xM F rfl) fun a F=>vD 1 rfl (by kernel_rfl) (by kernel_rfl) (by kernel_rfl) (oJ F rfl (fun w l=>xM F rfl) fun a F=>vD 2 rfl (by kernel_rfl) (by kernel_rfl) (by kernel_rfl) (oJ F rfl (fun w l=>xM F rfl) fun a F=>vD 3 rfl (by kernel_rfl) (by kernel_rfl) (by kernel_rfl) (oJ F rfl (fun w l=>xM F rfl) fun a F=>vD 6 rfl (by kernel_rfl) (by kernel_rfl) (by kernel_rfl) (oJ F rfl (fun w l=>xM F rfl) (fun a F=>?_))))));refine vD 7 rfl (by kernel_rfl) (by kernel_rfl) (by kernel_rfl) (oJ F rfl (fun w l=>xM F rfl) fun a F=>kO 8 (by kernel_rfl) rfl (by kernel_rfl) (by kernel_rfl) (by kernel_rfl) (by kernel_rfl) (vI underlying30 sizeOf2 F rfl rfl rfl h10 c6 fun a p5 h12 F=>kO 9 (by kernel_rfl) rfl (by kernel_rfl) (by kernel_rfl) (by kernel_rfl) (by kernel_rfl) (vlI isAgg2 F rfl rfl H.v h12 fun a i8 F=>xE H 4 rfl (by kernel_rfl) (oI underlying30 sizeOf2 F rfl rfl rfl (H.l 0 rfl) c5 fun a p6 h14 F=>xJ ⟨⟨_,H⟩,?_⟩))));refine xE H 5 rfl (by kernel_rfl) (olI isAgg2 F rfl rfl (Sm.refl _ _) h14 fun a i9 F=>xJ ⟨⟨_,H⟩,?_⟩);refine vD 10 rfl (by kernel_rfl) (by kernel_rfl) (by kernel_rfl) (oJ F rfl (fun w l=>r_add F rfl rfl c7) fun a F=>vD 11 rfl (by kernel_rfl) (by kernel_rfl) (by kernel_rfl) (oJ F rfl (fun w l=>r_rem F rfl rfl c8) fun a F=>xE H 12 rfl (by kernel_rfl) (oRl underlying30 sizeOf2 F rfl rfl rfl H 0 rfl c5 fun a p7 h15 rp1 F=>xJ ⟨⟨_,H⟩,?_⟩)));refine xE H 13 rfl (by kernel_rfl) ?_;have H:=H.lw;refine oS sizeOf2 F rfl rfl rfl H rp1 (ix_lt c5) (Eo.int (rm64 c8 (ck64 c7) (show xY (2) by decide))) rfl rfl (fun w H=>?_);have H:=H.tl;refine xJ ⟨⟨_,H⟩,?_⟩;refine b_end (by kernel_rfl) (qW (xF (xR (qR F rfl rfl rfl m3 fun a F=>xA 1 F rfl fun a F=>xJ ?_))));replace hR:=qZ hR hn3;exact⟨_,Nat.lt_succ_self _,k3+1,t3,(s6.set (x4).toNat z8),v17,⟨hd3.1,hd3.2.2⟩,rfl,hR,F.su,H⟩
     intro a w ⟨s5,v15,ho1,F,H⟩;subst ho1;have hR:=xN hk3;refine xF (xC ?_);obtain⟨z9,c9,hR⟩:=xB hR;obtain⟨z10,c10,hR⟩:=xB hR;obtain⟨z11,c11,hR⟩:=xB hR;obtain⟨w2,rfl⟩:∃ x,x=w:=⟨_,rfl⟩;have sm2:=H.sm;obtain⟨X2,N2,g5,e2,H,th2,ab2⟩:=(H.s [3,0,1,2,4] rfl rfl).fza;have K1:=g5.bk;refine xD H (by kernel_rfl) fun w H=>vD 0 rfl (by kernel_rfl) (by kernel_rfl) (by kernel_rfl) (oJ F rfl (fun w l=>xM F rfl) fun a F=>kO 1 (by kernel_rfl) rfl (by kernel_rfl) (by kernel_rfl) (by kernel_rfl) (by kernel_rfl) (oJ F rfl (fun w l=>zQ zY F rfl rfl) fun a F=>kO 2 (by kernel_rfl) rfl (by kernel_rfl) (by kernel_rfl) (by kernel_rfl) (by kernel_rfl) (vB isAgg2 F rfl rfl (K1.v H.sm) rfl fun a F=>vD 3 rfl (by kernel_rfl) (by kernel_rfl) (by kernel_rfl) (oJ F rfl (fun w l=>xM F rfl) fun a F=>vD 4 rfl (by kernel_rfl) (by kernel_rfl) (by kernel_rfl) (oJ F rfl (fun w l=>xM F rfl) (fun a F=>?_))))));refine kO 5 (by kernel_rfl) rfl (by kernel_rfl) (by kernel_rfl) (by kernel_rfl) (by kernel_rfl) (vL underlying30 F rfl rfl h10 fun a i10 F=>vD 6 rfl (by kernel_rfl) (by kernel_rfl) (by kernel_rfl) (oJ F rfl (fun w l=>r_sub F rfl rfl c9) fun a F=>kO 7 (by kernel_rfl) rfl (by kernel_rfl) (by kernel_rfl) (by kernel_rfl) (by kernel_rfl) (vI underlying30 sizeOf2 F rfl rfl rfl h10 c10 fun a p8 h16 F=>kO 8 (by kernel_rfl) rfl (by kernel_rfl) (by kernel_rfl) (by kernel_rfl) (by kernel_rfl) (vlI isAgg2 F rfl rfl (fun w l=>(sm2.trans (Sm.mono (H.v w l) th2.2.2))) h16 fun a i12 F=>xE H 9 rfl (by kernel_rfl) (oRl underlying30 sizeOf2 F rfl rfl rfl H 0 rfl c11 fun a p9 h18 rp2 F=>qD ?_)))));refine xF ⟨⟨_,H⟩,?_⟩;refine xE H 10 rfl (by kernel_rfl) ?_;have H:=H.lw;refine oS sizeOf2 F rfl rfl rfl H rp2 (ix_lt c11) (Eo.int i12) rfl rfl (fun w H=>?_);have H:=H.tl;refine xJ ⟨⟨_,H⟩,?_⟩;refine b_end (by kernel_rfl) (xF (xC (xP (xA 1 F rfl fun a F=>oL underlying118 F rfl rfl (H.r 2 rfl) fun a i13 F=>xA 1 F rfl fun a F=>xJ ?_))));obtain⟨o4,hR,hk4⟩:=xK hR;refine xW (fun a w=>∃ (s7:List Int) (v18:Value),o4= .nx s7∧Sk a 156 [(2,.pointer (some ⟨b1,0,none⟩)),(3,.pointer (some ⟨b2,0,none⟩)),(6,v11),(8,.pointer (some ⟨b3,0,none⟩)),(11,v18),(24,v16),(25,.int .i64 (x1.cons.length:Int)),(26,.int .i64 (k1:Int)),(36,v9),(37,.int .i64 (z2.length:Int)),(38,.int .i64 (k2:Int))]∧Sep X2 N2 w2 w [rl 1 xH 2 v18 s7,bx b3 [.int .i64 x2.rel,v7] 85,rw N0 2 kK 121 v11 s4,bx b1 [.int .i64 x0.size,v2] 35]) ?_ ?_
     ·
      refine xS ?_;obtain⟨fl4,hf4,hR⟩:=qE hR;refine oR (fun g a w=>∃ (k4:Nat) (t4:List told) (s8:List Int) (v20:Value),(k4≤s4.length∧s4.drop k4=t4)∧t4.length=g∧qK fl4 t4 k4 s8=some o4∧Sk a 156 [(80,.int .i64 (k4:Int)),(2,.pointer (some ⟨b1,0,none⟩)),(3,.pointer (some ⟨b2,0,none⟩)),(6,v11),(8,.pointer (some ⟨b3,0,none⟩)),(11,v20),(24,v16),(25,.int .i64 (x1.cons.length:Int)),(26,.int .i64 (k1:Int)),(36,v9),(37,.int .i64 (z2.length:Int)),(38,.int .i64 (k2:Int)),(78,v11),(79,.int .i64 (s4.length:Int))]∧Sep X2 N2 w2 w [rl 1 xH 2 v20 s8,bx b3 [.int .i64 x2.rel,v7] 85,rw N0 2 kK 121 v11 s4,bx b1 [.int .i64 x0.size,v2] 35]) s4.length ?_ ?_
      ·
       exact⟨0,s4,(s5.set (x1.vars).toNat z10),v15,⟨Nat.zero_le _,rfl⟩,rfl,hR,F.su,H⟩
      intro g6 a w ⟨k4,t4,s8,v20,hd4,hg4,hR,F,H⟩
      cases t4 with
      | nil=>
       replace hR:=qG hR;have q4:=qH hd4.1 hd4.2;have l4:=vA q4;refine xP (xA 1 F rfl fun a F=>xJ (xC (qV F rfl l4 (oO (oQ (oQ (vJ ?_)))))));refine xF ?_;exact⟨s8,v20,(Option.some.inj hR).symm,F.su,H⟩
      | cons x5 t4=>
       subst hg4;replace hd4:=oH hd4.2;have y4:=oV hd4.2.1;obtain⟨ck4,hR,hn4⟩:=oU hR;rw[hf4] at hR;have l4:=qP hd4.1;refine xP (xA 1 F rfl fun a F=>xJ (xC (qY F rfl l4 (xL (xF (xC ?_))))));have j4:=k64 (Nat.le_of_lt hd4.1) i13;have m4:=zA hd4.1 i13;refine xS (xP ?_);obtain⟨w3,rfl⟩:∃ x,x=w:=⟨_,rfl⟩;have sm3:=H.sm;obtain⟨X3,N3,g7,e3,H,th3,ab3⟩:=(H.s [2,0,1,3] rfl rfl).fza;have h19:=g7.rd;refine oI underlying118 sizeOf121 F rfl rfl rfl h19 y4 fun a p10 h20 F=>olA isAgg121 sizeOf121 F rfl rfl H.sm h20 fun a v21 h21 F=>oA zeroValue121 F rfl rfl H (fun a w b4 H F=>?_);obtain⟨v22,rfl,h22,i14⟩:=kK.o h21;refine oWA (vs:=[v22,.int .i64 x5.var]) sizeOf121 F rfl rfl rfl H (oc (H.a h22).one (oc rfl on)) rfl rfl fun w H=>qU (xA 1 F rfl fun a F=>oY fa121_1 F rfl rfl rfl fun a F=>oB isAgg3 F rfl rfl (H.b 0 rfl) rfl (fun a F=>?_));obtain⟨z12,c12,hR⟩:=xB hR;refine oI underlying30 sizeOf2 F rfl rfl rfl (H.l 1 rfl) c12 fun a p11 h23 F=>olI isAgg2 F rfl rfl (Sm.refl _ _) h23 fun a i16 F=>xA 1 F rfl fun a F=>xJ (qT F rfl (fun hb1=>?_) (fun hb1=>?_))
       ·
        replace hR:=vS hb1 hR;refine xR (xA 1 F rfl fun a F=>oY fa121_0 F rfl rfl rfl fun a F=>oB isAgg30 F rfl rfl (H.b 0 rfl) rfl (fun a F=>?_));obtain⟨z13,c13,hR⟩:=xB hR;refine oG F rfl call75 rfl (impl_plus_c z13 c13 _ aA (H.l 1 rfl) (H.a h22)) (fun a vv w ⟨v23,hv2,S⟩ F=>?_);subst vv;have H:=H.r1 S n0;refine xA 1 F rfl fun a F=>qD (qW (xF (xR (qR F rfl rfl rfl m4 fun a F=>xA 1 F rfl fun a F=>xJ ?_))));replace hR:=qZ hR hn4;exact⟨_,Nat.lt_succ_self _,k4+1,t4,z13,v23,⟨hd4.1,hd4.2.2⟩,rfl,hR,F.su,((th3.1 (H.s [0,3,4] rfl rfl) (Ns.all ⟨n0,⟨n0,⟨n0,trivial⟩⟩⟩)).s [1,2,0,3] rfl rfl)⟩
       replace hR:=vR hb1 hR;refine xL (qW (xF (xR (qR F rfl rfl rfl m4 fun a F=>xA 1 F rfl fun a F=>xJ ?_))));replace hR:=qZ hR hn4;exact⟨_,Nat.lt_succ_self _,k4+1,t4,s8,v20,⟨hd4.1,hd4.2.2⟩,rfl,hR,F.su,((th3.1 (H.s [1,2,3] rfl rfl) (Ns.all ⟨n0,⟨n0,⟨n0,trivial⟩⟩⟩)).s [1,2,0,3] rfl rfl)⟩
     intro a w ⟨s7,v18,ho2,F,H⟩;subst ho2;have hR:=xN hk4;refine xF (xP (xA 1 F rfl fun a F=>?_));obtain⟨z14,c14,hR⟩:=xB hR;refine oKI F rfl call76 rfl H (slices_Index_s_int64_int64_c z14 c14 _ aA (H.l 0 rfl) (show xY (1) by decide)) fun a w H iz1 F=>xA 1 F rfl fun a F=>xJ (xC (xS (xP (xA 3 F rfl fun a F=>?_))));refine xJ (qT F rfl (fun hb2=>?_) (fun hb2=>?_))
     ·
      replace hR:=vS hb2 hR;refine oO (x_bx rfl (oQ (vJ (xF (xR (qR F rfl rfl rfl m2 fun a F=>xA 1 F rfl fun a F=>xJ ?_))))));replace hR:=qZ hR hn2;exact⟨_,Nat.lt_succ_self _,k2+1,t2,s4,v11,⟨hd2.1,hd2.2.2⟩,rfl,hR,F.su,((th1.1 (th2.1 (H.s [1,2,3] rfl rfl) (Ns.all ⟨n0,⟨n0,⟨n0,trivial⟩⟩⟩)) (Ns.all ⟨n0,⟨n0,⟨n0,⟨n0,trivial⟩⟩⟩⟩)).s [0,2,3,1,4] rfl rfl)⟩
     replace hR:=vR hb2 hR;refine xP (xA 1 F rfl fun a F=>oY zY F rfl rfl rfl fun a F=>oB isAgg2 F rfl rfl (K1.o H.sm) rfl fun a F=>xA 2 F rfl fun a F=>xJ (qT F rfl (fun hb3=>?_) (fun hb3=>?_)))
     ·
      replace hR:=vS hb3 hR;refine xP (xA 2 F rfl fun a F=>xJ (xT (vH (oE (vH (oE ?_))))));refine oE ?_;replace hR:=zS hR hn2;refine vH (oE ?_);replace hR:=zR hR hk2;refine vH (oE (oE ?_));replace hR:=zS hR hn1;refine vH (oE ?_);replace hR:=zR hR hk1;refine oE ?_;have H:=(th1.1 (th2.1 H (Ns.all ⟨n0,⟨n0,⟨n0,⟨n0,trivial⟩⟩⟩⟩)) (Ns.all ⟨n0,⟨n0,⟨n0,⟨n0,⟨n0,trivial⟩⟩⟩⟩⟩));refine zV F rfl (oD F rfl) (oD F rfl) ?_;obtain rfl:=Option.some.inj hR;exact⟨_,rfl,(.slice none 0 0),rfl,((H.nl 1 xH 2).s [0] rfl rfl)⟩
     replace hR:=vR hb3 hR;refine xL (qW (xF (xC (xP (xA 1 F rfl fun a F=>oL underlying118 F rfl rfl (H.r 2 rfl) fun a i17 F=>xA 1 F rfl fun a F=>xJ ?_)))));obtain⟨o5,hR,hk5⟩:=xK hR;refine xW (fun a w=>∃ (s9:List told) (v24:Value),o5= .nx s9∧Sk a 156 [(2,.pointer (some ⟨b1,0,none⟩)),(3,.pointer (some ⟨b2,0,none⟩)),(6,v24),(8,.pointer (some ⟨b3,0,none⟩)),(11,v18),(16,.int .i64 z14),(24,v16),(25,.int .i64 (x1.cons.length:Int)),(26,.int .i64 (k1:Int)),(36,v9),(37,.int .i64 (z2.length:Int)),(38,.int .i64 (k2:Int))]∧Sep X2 N2 w2 w [rl 1 xH 2 v18 s7,bx b3 [.int .i64 x2.rel,v7] 85,rw N0 2 kK 121 v24 s9,bx b1 [.int .i64 x0.size,v2] 35]) ?_ ?_
     ·
      refine xS ?_;obtain⟨fl5,hf5,hR⟩:=qE hR;refine oR (fun g a w=>∃ (k5:Nat) (t5:List told) (s10:List told) (v25:Value),(k5≤s4.length∧s4.drop k5=t5)∧t5.length=g∧qK fl5 t5 k5 s10=some o5∧Sk a 156 [(107,.int .i64 (k5:Int)),(2,.pointer (some ⟨b1,0,none⟩)),(3,.pointer (some ⟨b2,0,none⟩)),(6,v25),(8,.pointer (some ⟨b3,0,none⟩)),(11,v18),(16,.int .i64 z14),(24,v16),(25,.int .i64 (x1.cons.length:Int)),(26,.int .i64 (k1:Int)),(36,v9),(37,.int .i64 (z2.length:Int)),(38,.int .i64 (k2:Int)),(105,v25),(106,.int .i64 (s4.length:Int))]∧Sep X2 N2 w2 w [rl 1 xH 2 v18 s7,bx b3 [.int .i64 x2.rel,v7] 85,rw N0 2 kK 121 v25 s10,bx b1 [.int .i64 x0.size,v2] 35]) s4.length ?_ ?_
      ·
       exact⟨0,s4,s4,v11,⟨Nat.zero_le _,rfl⟩,rfl,hR,F.su,H⟩
      intro g8 a w ⟨k5,t5,s10,v25,hd5,hg5,hR,F,H⟩
      cases t5 with
      | nil=>
       replace hR:=qG hR;have q5:=qH hd5.1 hd5.2;have l5:=vA q5;refine xP (xA 1 F rfl fun a F=>xJ (xC (qV F rfl l5 (oO (oQ (oQ (vJ ?_)))))));refine xF ?_;exact⟨s10,v25,(Option.some.inj hR).symm,F.su,H⟩
      | cons x6 t5=>
       subst hg5;replace hd5:=oH hd5.2;have y5:=oV hd5.2.1;obtain⟨ck5,hR,hn5⟩:=oU hR;rw[hf5] at hR;have l5:=qP hd5.1;refine xP (xA 1 F rfl fun a F=>xJ (xC (qY F rfl l5 (xL (xF (xC ?_))))));have j5:=k64 (Nat.le_of_lt hd5.1) i17;have m5:=zA hd5.1 i17;refine xS (xP (xA 1 F rfl fun a F=>?_));obtain⟨z15,c15,hR⟩:=xB hR;obtain⟨w4,rfl⟩:∃ x,x=w:=⟨_,rfl⟩;have sm4:=H.sm;obtain⟨X4,N4,g9,e4,H,th4,ab4⟩:=(H.s [2,0,1,3] rfl rfl).fza;have h24:=g9.rd;refine oI underlying118 sizeOf121 F rfl rfl rfl h24 c15 fun a p12 h25 F=>olA isAgg121 sizeOf121 F rfl rfl H.sm h25 fun a v26 h26 F=>oA zeroValue121 F rfl rfl H fun a w b5 H F=>xA 1 F rfl fun a F=>?_;obtain⟨v27,rfl,h27,i18⟩:=kK.o h26;refine oWA (vs:=[v27,.int .i64 z15.var]) sizeOf121 F rfl rfl rfl H (oc (H.a h27).one (oc rfl on)) rfl rfl fun w H=>qU (oY fa121_0 F rfl rfl rfl fun a F=>oB isAgg30 F rfl rfl (H.b 0 rfl) rfl fun a F=>xA 1 F rfl fun a F=>?_);obtain⟨z16,c16,hR⟩:=xB hR;refine oI underlying30 sizeOf2 F rfl rfl rfl h27 c16 fun a p13 h28 F=>olI isAgg2 F rfl rfl H.sm h28 fun a i19 F=>xA 1 F rfl fun a F=>xJ (qT F rfl (fun hb4=>?_) (fun hb4=>?_))
       ·
        replace hR:=vS hb4 hR;refine xR (xA 2 F rfl fun a F=>oY fa121_0 F rfl rfl rfl fun a F=>oB isAgg30 F rfl rfl (H.b 0 rfl) rfl fun a F=>xA 1 F rfl fun a F=>?_);obtain⟨z17,c17,hR⟩:=xB hR;refine oG F rfl call75 rfl (impl_plus_c z17 c17 _ aA (H.a h27) (H.l 1 rfl)) (fun a vv w ⟨v28,hv3,S⟩ F=>?_);subst vv;have H:=H.r1 S n0;have H:=(th4.1 H (Ns.all ⟨n0,⟨n0,⟨n0,⟨n0,⟨n0,trivial⟩⟩⟩⟩⟩));refine oRi underlying118 sizeOf121 F rfl rfl rfl H 0 rfl c15 fun a p14 h29 rp3 F=>oFr (s':=1) fa121_0 F rfl rfl h29 kK.f0 (RPt.o rp3) fun a p15 h30 rp4 F=>oSX (vs:=[v28]) F rfl rfl rfl (.inr ⟨sizeOf30,rfl,(H.l 1 rfl).one⟩) H rp4 (ix_get c15) n0 (fun e q=>(kK.tn0 q.ld)) rfl fun w H=>qD (qW (xF (xR (qR F rfl rfl rfl m5 fun a F=>xA 1 F rfl fun a F=>xJ ?_))));replace hR:=qZ hR hn5;exact⟨_,Nat.lt_succ_self _,k5+1,t5,(s10.set ((k5:Int)).toNat ({ z15 with left:=z17 })),v25,⟨hd5.1,hd5.2.2⟩,rfl,hR,F.su,(H.s [2,3,0,4] rfl rfl)⟩
       replace hR:=vR hb4 hR;refine xL (qW (xF (xR (qR F rfl rfl rfl m5 fun a F=>xA 1 F rfl fun a F=>xJ ?_))));replace hR:=qZ hR hn5;exact⟨_,Nat.lt_succ_self _,k5+1,t5,s10,v25,⟨hd5.1,hd5.2.2⟩,rfl,hR,F.su,((th4.1 (H.s [1,2,3] rfl rfl) (Ns.all ⟨n0,⟨n0,⟨n0,trivial⟩⟩⟩)).s [1,2,0,3] rfl rfl)⟩
     intro a w ⟨s9,v24,ho3,F,H⟩;subst ho3;have hR:=xN hk5;refine xF (xR (xA 3 F rfl fun a F=>o_build underlying121 zeroValue121 (fun w=>by simp [sizeOf3,sizeOf30];rfl) F rfl rfl rfl rfl rfl (oc (H.l 0 rfl).one (oc rfl on)) rfl rfl (fun a F=>?_)));have H:=(kK.w iz1 H);refine oR1L (R:=kK) (y:=(told.mk s7 z14)) underlying118 sizeOf121 zeroValue121 rfl rfl F rfl rfl H El.agg (fun a w v29 H F=>?_);obtain⟨z18,c18,hR⟩:=xB hR;have H:=H.lw;refine oP (sz:=2) (R:=kK) (z:=(.agg #[(.slice none 0 0),.int .i64 0])) (bytes:=32) underlying118 (by kernel_rfl) rfl rfl F rfl rfl rfl (H.s [2,0,1,3] rfl rfl) c18 fun a w v30 H F=>xA 1 F rfl fun a F=>qD (qW (xF (xR (qR F rfl rfl rfl m2 fun a F=>xA 1 F rfl fun a F=>xJ ?_))));replace hR:=qZ hR hn2;exact⟨_,Nat.lt_succ_self _,k2+1,t2,z18,v30,⟨hd2.1,hd2.2.2⟩,rfl,hR,F.su,((th1.1 (th2.1 H (Ns.all ⟨n0,⟨n0,⟨n0,trivial⟩⟩⟩)) (Ns.all ⟨n0,⟨n0,⟨n0,⟨n0,trivial⟩⟩⟩⟩)).s [0,3,2,1,4] rfl rfl)⟩
   intro a w ⟨s3,v10,ho4,F,H⟩;subst ho4;have hR:=xN hk2;refine qW (xF (xR (qR F rfl rfl rfl m1 fun a F=>xA 1 F rfl fun a F=>xJ ?_)));replace hR:=qZ hR hn1;exact⟨_,Nat.lt_succ_self _,k1+1,t1,s3,v10,⟨hd1.1,hd1.2.2⟩,rfl,hR,F.su,H⟩
 intro a w ⟨s1,v4,ho5,F,H⟩;subst ho5;have hR:=xN hk1;refine xF (xP (oY zY F rfl rfl rfl fun a F=>oB isAgg2 F rfl rfl (H.b 1 rfl) rfl (fun a F=>?_)));obtain⟨z19,c19,hR⟩:=xB hR;refine oRM (sz:=1) (R:=xH) (z:=(.int .i64 0)) (bytes:=8) underlying30 (by kernel_rfl) rfl (by decide) (by decide) (fun w=>⟨rfl,by decide,rfl⟩) F rfl rfl rfl c19 H fun a w v31 H F=>xA 1 F rfl fun a F=>xJ (xC (xP (xA 1 F rfl fun a F=>oL underlying118 F rfl rfl (H.r 1 rfl) fun a i20 F=>xA 1 F rfl fun a F=>qD ?_)));refine xF ?_;obtain⟨o6,hR,hk6⟩:=xK hR;refine xW (fun a w=>∃ (s11:List Int) (v32:Value),o6= .nx s11∧Sk a 156 [(19,v32)]∧Sep [] B w0 w [rl 1 xH 2 v32 s11]) ?_ ?_
 ·
  refine xS ?_;obtain⟨fl6,hf6,hR⟩:=qE hR;refine oR (fun g a w=>∃ (k6:Nat) (t6:List told) (s12:List Int) (v33:Value),(k6≤s1.length∧s1.drop k6=t6)∧t6.length=g∧qK fl6 t6 k6 s12=some o6∧Sk a 156 [(140,.int .i64 (k6:Int)),(3,.pointer (some ⟨b2,0,none⟩)),(19,v33),(138,v4),(139,.int .i64 (s1.length:Int))]∧Sep [] B w0 w [rl 1 xH 2 v33 s12,rw N0 2 kK 121 v4 s1,bx b2 [.int .i64 x1.vars,v16] 39]) s1.length ?_ ?_
  ·
   exact⟨0,s1,z19,v31,⟨Nat.zero_le _,rfl⟩,rfl,hR,F.su,H⟩
  intro g10 a w ⟨k6,t6,s12,v33,hd6,hg6,hR,F,H⟩
  cases t6 with
  | nil=>
   replace hR:=qG hR;have q6:=qH hd6.1 hd6.2;have l6:=vA q6;refine xP (xA 1 F rfl fun a F=>xJ (xC (qV F rfl l6 (oO (oQ (oQ (vJ ?_)))))));refine xF ?_;exact⟨s12,v33,(Option.some.inj hR).symm,F.su,(H.s [0] rfl rfl)⟩
  | cons x7 t6=>
   subst hg6;replace hd6:=oH hd6.2;have y6:=oV hd6.2.1;obtain⟨ck6,hR,hn6⟩:=oU hR;rw[hf6] at hR;have l6:=qP hd6.1;refine xP (xA 1 F rfl fun a F=>xJ (xC (qY F rfl l6 (xL (xF (xC ?_))))));have j6:=k64 (Nat.le_of_lt hd6.1) i20;have m6:=zA hd6.1 i20;refine xS (xP ?_);obtain⟨w5,rfl⟩:∃ x,x=w:=⟨_,rfl⟩;have sm5:=H.sm;obtain⟨X5,N5,g11,e5,H,th5,ab5⟩:=(H.s [1,0,2] rfl rfl).fza;have h31:=g11.rd;refine oI underlying118 sizeOf121 F rfl rfl rfl h31 y6 fun a p16 h32 F=>olA isAgg121 sizeOf121 F rfl rfl H.sm h32 fun a v34 h33 F=>oA zeroValue121 F rfl rfl H (fun a w b6 H F=>?_);obtain⟨v35,rfl,h34,i22⟩:=kK.o h33;refine oWA (vs:=[v35,.int .i64 x7.var]) sizeOf121 F rfl rfl rfl H (oc (H.a h34).one (oc rfl on)) rfl rfl fun w H=>xJ ?_;obtain⟨z20,c20,hR⟩:=xB hR;obtain⟨z21,c21,hR⟩:=xB hR;obtain⟨w6,rfl⟩:∃ x,x=w:=⟨_,rfl⟩;have sm6:=H.sm;obtain⟨X6,N6,g12,e6,H,th6,ab6⟩:=(H.s [0,2,1] rfl rfl).mg.fza;have K2:=g12.l.bk;have K3:=g12.r.bk;refine xD H (by kernel_rfl) fun w H=>vD 0 rfl (by kernel_rfl) (by kernel_rfl) (by kernel_rfl) (oJ F rfl (fun w l=>xM F rfl) fun a F=>kO 1 (by kernel_rfl) rfl (by kernel_rfl) (by kernel_rfl) (by kernel_rfl) (by kernel_rfl) (oJ F rfl (fun w l=>zQ fa121_1 F rfl rfl) fun a F=>kO 2 (by kernel_rfl) rfl (by kernel_rfl) (by kernel_rfl) (by kernel_rfl) (by kernel_rfl) (vB isAgg3 F rfl rfl (K2.v H.sm) rfl fun a F=>kO 3 (by kernel_rfl) rfl (by kernel_rfl) (by kernel_rfl) (by kernel_rfl) (by kernel_rfl) (oJ F rfl (fun w l=>zQ fa121_0 F rfl rfl) fun a F=>kO 4 (by kernel_rfl) rfl (by kernel_rfl) (by kernel_rfl) (by kernel_rfl) (by kernel_rfl) (vB isAgg30 F rfl rfl (K2.v H.sm) rfl (fun a F=>?_))))));refine kO 5 (by kernel_rfl) rfl (by kernel_rfl) (by kernel_rfl) (by kernel_rfl) (by kernel_rfl) (oJ F rfl (fun w l=>zQ zY F rfl rfl) fun a F=>kO 6 (by kernel_rfl) rfl (by kernel_rfl) (by kernel_rfl) (by kernel_rfl) (by kernel_rfl) (vB isAgg2 F rfl rfl (K3.v H.sm) rfl fun a F=>kO 7 (by kernel_rfl) rfl (by kernel_rfl) (by kernel_rfl) (by kernel_rfl) (by kernel_rfl) (vI underlying30 sizeOf2 F rfl rfl rfl h34 c20 fun a p17 h35 F=>kO 8 (by kernel_rfl) rfl (by kernel_rfl) (by kernel_rfl) (by kernel_rfl) (by kernel_rfl) (vlI isAgg2 F rfl rfl (fun w l=>(sm6.trans (Sm.mono (H.v w l) th6.2.2))) h35 fun a i23 F=>xE H 9 rfl (by kernel_rfl) (oRl underlying30 sizeOf2 F rfl rfl rfl H 0 rfl c21 fun a p18 h36 rp5 F=>qD ?_)))));refine xF ⟨⟨_,H⟩,?_⟩;refine xE H 10 rfl (by kernel_rfl) ?_;have H:=H.lw;refine oS sizeOf2 F rfl rfl rfl H rp5 (ix_lt c21) (Eo.int i23) rfl rfl (fun w H=>?_);have H:=H.tl;refine xJ ⟨⟨_,H⟩,?_⟩;refine b_end (by kernel_rfl) (qW (xF (xR (qR F rfl rfl rfl m6 fun a F=>xA 1 F rfl fun a F=>xJ ?_))));replace hR:=qZ hR hn6;exact⟨_,Nat.lt_succ_self _,k6+1,t6,(s12.set (x7.var).toNat z20),v33,⟨hd6.1,hd6.2.2⟩,rfl,hR,F.su,((th5.1 (th6.1 H (Ns.all ⟨n0,trivial⟩)).um (Ns.all ⟨n0,⟨n0,⟨n0,trivial⟩⟩⟩)).s [3,0,2] rfl rfl)⟩
 intro a w ⟨s11,v32,ho6,F,H⟩;subst ho6;have hR:=xN hk6;refine xF (xP (xA 3 F rfl fun a F=>xJ (xT (zV F rfl (oD F rfl) (oD F rfl) ?_))));obtain rfl:=Option.some.inj hR;exact⟨_,rfl,v32,rfl,H⟩
end Go.Proofs.YticojbhjloeckaaGreat
