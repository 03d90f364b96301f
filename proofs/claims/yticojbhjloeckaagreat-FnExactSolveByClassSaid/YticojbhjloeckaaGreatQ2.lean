import Derived.Test.YticojbhjloeckaaGreatQ1
import Derived.Test.YticojbhjloeckaaGreatDR
namespace Go.Proofs.YticojbhjloeckaaGreat
open Go.Proofs.Tryz
set_option maxHeartbeats 1000000
set_option linter.unusedVariables false
set_option linter.unusedSimpArgs false
set_option maxRecDepth 100000
open Go.RowKit
def zO (N:Nat) (x0:List Int) (x1:Int→Option Bool):Option (List Int):=
 xX (qQ x0 x1) fun z1=>
 if (z1==(-1)) then
  some x0
 else
  xX (ck (z1+1)) fun z2=>
  vO (σ:=Int×Int×(List Int)) (
   whl (σ:=Int×Int×(List Int)) (ρ:=(List Int)) (fun(s:Int×Int×(List Int))=>
     match s with
     | (s1,s2,s3)=>
     if (decide (s2<(s3.length:Int))) then
      xX (ix s3 s2) fun z3=>
      xX (x1 z3) fun z4=>
      if (!z4) then
       xX (ix s3 s1) fun z5=>
       xX (ck (s1+1)) fun z6=>
       xX (ck (s2+1)) fun z7=>
       some (.go (z6,z7,(s3.set (s1).toNat z3)))
      else
       xX (ck (s2+1)) fun z8=>
       some (.go (s1,z8,s3))
     else
      some (.brk (s1,s2,s3))) N (z1,z2,x0)) fun(s4,s5,s6)=>
  xX (sl s6 s4 (s6.length:Int)) fun z9=>
  xX (sl (s6.take (s4).toNat++List.replicate (s6.length - (s4).toNat) 0) 0 s4) fun z10=>
  some z10
theorem slices_DeleteFunc_s_int64_int64_c {B:Nat→Prop} {N:Nat} {x0:List Int} {x1:Int→Option Bool} (r:(List Int)) (hR:zO N x0 x1=some r) {v0:Value} {g1:FuncId} {lb1:List Value} {X0:List Nat} (w0:World) (hN:∀ c,B c→c<w0.heap.size) (S0:Sep X0 B w0 w0 [rl 1 xH 2 v0 x0]) (hg1:∀ args w,(callFunc g1 args).run Tryz.prog w= .ok (.enter g1 args) w) (hp1:∀ (a0:Int) (r:Bool),x1 a0=some r→∀ W,Sm B w0 W→xY a0→Calls Tryz.prog g1 ([.int .i64 a0]++lb1:List Value).toArray W (vV (.bool r) W)):Calls Tryz.prog 142 #[v0,.func (.func g1) #[] lb1.toArray] w0 (Gv (fun v w'=>∃ (v1':Value),v=v1'∧Sep X0 B w0 w' [rl 1 xH 2 v1' r])):=by
 unfold zO at hR
 refine xV (L:=[(0,v0),(1,.func (.func g1) #[] lb1.toArray)]) func142 rfl rfl rfl (sc rfl (sc rfl sn)) (fun a F=>?_);have H:=S0;refine xP (xA 1 F rfl fun a F=>qU (xA 2 F rfl fun a F=>?_));obtain⟨z1,c1,hR⟩:=xB hR;refine oKI F rfl call70 rfl H (slices_IndexFunc_s_int64_int64_c z1 c1 _ aA (H.l 0 rfl) hg1 (fun a0 r h W l1=>hp1 a0 r h W (H.go l1).sm)) fun a w H iz1 F=>xA 1 F rfl fun a F=>xJ (xC (xP (xA 2 F rfl fun a F=>xJ ?_)));refine qT F rfl (fun hb1=>?_) (fun hb1=>?_)
 ·
  replace hR:=vS hb1 hR;refine xP (xA 2 F rfl fun a F=>xJ (xT (oE (xO F rfl (oD F rfl) ?_))));obtain rfl:=Option.some.inj hR;exact⟨_,rfl,v0,rfl,H⟩
 replace hR:=vR hb1 hR;refine xL (xF (xC (xP (xA 1 F rfl fun a F=>?_))));obtain⟨z2,c2,hR⟩:=xB hR;refine kX F rfl rfl rfl c2 fun a F=>xA 1 F rfl fun a F=>xJ ?_;obtain⟨o1,hR,hk1⟩:=xK hR;refine xW (fun a w=>∃ (s1:Int) (s2:Int) (s3:List Int) (v1:Value),o1= .nx (s1,s2,s3)∧Sk a 42 [(0,v1),(5,.int .i64 s1)]∧Sep X0 B w0 w [rl 1 xH 2 v1 s3]∧xY s1∧xY s2) ?_ ?_
 ·
  refine xS ?_;obtain⟨fl1,hf1,hR⟩:=whl_gen hR;refine oR (fun g a w=>∃ (s4:Int) (s5:Int) (s6:List Int) (v2:Value),whl fl1 g (s4,s5,s6)=some o1∧Sk a 42 [(0,v2),(1,.func (.func g1) #[] lb1.toArray),(5,.int .i64 s4),(6,.int .i64 s5)]∧Sep X0 B w0 w [rl 1 xH 2 v2 s6]∧xY s4∧xY s5) N ?_ ?_
  ·
   exact⟨z1,z2,x0,v0,hR,F.su,H,iz1,(ck64 c2)⟩
  intro g2 a w ⟨s4,s5,s6,v2,hR,F,H,i1,i2⟩;obtain⟨ck1,t1,hg2,hR,hn1⟩:=zU hR;rw[hf1] at hR;refine xC (xP (xA 2 F rfl fun a F=>oL underlying30 F rfl rfl (H.l 0 rfl) fun a i3 F=>xA 1 F rfl fun a F=>xJ (qT F rfl (fun hb2=>?_) (fun hb2=>?_))))
  ·
   replace hR:=vS hb2 hR;refine xL (xF (xC (xS (xP (xA 2 F rfl fun a F=>?_)))));obtain⟨z3,c3,hR⟩:=xB hR;refine oI underlying30 sizeOf2 F rfl rfl rfl (H.l 0 rfl) c3 fun a p1 h1 F=>olI isAgg2 F rfl rfl (Sm.refl _ _) h1 fun a i4 F=>xA 1 F rfl fun a F=>qU (xA 2 F rfl fun a F=>?_);obtain⟨z4,c4,hR⟩:=xB hR;refine oKV F rfl rfl hg1 rfl H (hp1 _ z4 c4 _ H.sm i4) fun a w H F=>xA 1 F rfl fun a F=>xJ (qT F rfl (fun hb3=>?_) (fun hb3=>?_))
   ·
    replace hR:=vS hb3 hR;refine xP (xA 3 F rfl fun a F=>?_);obtain⟨z5,c5,hR⟩:=xB hR;refine oRl underlying30 sizeOf2 F rfl rfl rfl H 0 rfl c5 (fun a p2 h2 rp1 F=>?_);have H:=H.lw;refine oS sizeOf2 F rfl rfl rfl H rp1 (ix_lt c5) (Eo.int i4) rfl rfl (fun w H=>?_);have H:=H.tl;refine xJ (xR (xA 1 F rfl fun a F=>?_));obtain⟨z6,c6,hR⟩:=xB hR;refine kX F rfl rfl rfl c6 fun a F=>xA 1 F rfl fun a F=>qD (qW (xF (xR (xA 1 F rfl fun a F=>?_))));obtain⟨z7,c7,hR⟩:=xB hR;refine kX F rfl rfl rfl c7 fun a F=>xA 1 F rfl fun a F=>xJ ?_;replace hR:=qZ hR hn1;exact⟨t1,(by omega),z6,z7,(s6.set (s4).toNat z3),v2,hR,F.su,H,(ck64 c6),(ck64 c7)⟩
   replace hR:=vR hb3 hR;refine xL (qW (xF (xR (xA 1 F rfl fun a F=>?_))));obtain⟨z8,c8,hR⟩:=xB hR;refine kX F rfl rfl rfl c8 fun a F=>xA 1 F rfl fun a F=>xJ ?_;replace hR:=qZ hR hn1;exact⟨t1,(by omega),s4,z8,s6,v2,hR,F.su,H,i1,(ck64 c8)⟩
  replace hR:=vR hb2 hR;refine oO (oQ (oQ ?_));replace hR:=l_brk hR hn1;refine vJ (xF ?_);exact⟨s4,s5,s6,v2,(Option.some.inj hR).symm,F.su,H,i1,i2⟩
 intro a w ⟨s1,s2,s3,v1,ho1,F,H,i5,i6⟩;subst ho1;have hR:=xN hk1;refine xF (xP (xA 2 F rfl fun a F=>?_));obtain⟨z9,c9,hR⟩:=xB hR;refine oRtl underlying30 sizeOf2 F rfl rfl rfl H 0 rfl c9 fun a p3 T124 F=>oRcl underlying30 zeroValue2 F rfl rfl H T124 fun w H=>qU (xA 2 F rfl fun a F=>?_);obtain⟨z10,c10,hR⟩:=xB hR;refine oT underlying30 sizeOf2 F rfl rfl rfl H.lw c10 (fun a v3 H F=>?_);have H:=H.tl;refine xA 1 F rfl fun a F=>xJ (xT (xO F rfl (oD F rfl) ?_));obtain rfl:=Option.some.inj hR;exact⟨_,rfl,v3,rfl,H⟩
def impl_without (N:Nat) (x0:List Int) (x1:Int):Option (List Int):=
 xX (vM x0) fun z1=>
 xX (zO N z1 (fun a0=>impl_without_1 a0 x1)) fun z2=>
 some z2
theorem impl_without_c {B:Nat→Prop} {N:Nat} {x0:List Int} {x1:Int} (r:(List Int)) (hR:impl_without N x0 x1=some r) {v0:Value} (w0:World) (hN:∀ c,B c→c<w0.heap.size) (A0:Bo B w0 (Sl 1 xH) v0 x0) (hx1:xY x1):Calls Tryz.prog 108 #[v0,.int .i64 x1] w0 (Gv (fun v w'=>∃ (v1':Value),v=v1'∧Sep [] B w0 w' [rl 1 xH 2 v1' r])):=by
 unfold impl_without at hR
 refine xV (L:=[(0,v0),(1,.int .i64 x1)]) func108 rfl rfl rfl (sc rfl (sc rfl sn)) (fun a F=>?_);have H:=Sep.start hN;refine xP (oX F rfl rfl rfl H fun a w b1 H F=>xA 1 F rfl fun a F=>qU (xA 1 F rfl fun a F=>?_));obtain⟨z1,c1,hR⟩:=xB hR;refine oG F rfl call106 rfl (kT z1 c1 _ aA (H.a A0)) (fun a vv w ⟨v1,hv16,S⟩ F=>?_);subst vv;have H:=H.r1 S n0;refine o_func F rfl rfl rfl (fun a F=>?_);obtain⟨w1,rfl⟩:∃ x,x=w:=⟨_,rfl⟩;have sm1:=H.sm;obtain⟨X1,N1,g1,e1,H,th1,ab1⟩:=(H.s [1,0] rfl rfl).fza;have K1:=g1.bk;obtain⟨z2,c2,hR⟩:=xB hR;obtain⟨X2,K2,bk1⟩:=Sep.lend (K:=[rl 1 xH 2 v1 z1]) (L:=[]) H;refine oG F rfl call142 rfl (slices_DeleteFunc_s_int64_int64_c z2 c2 _ H.hN K2 call143 (fun a0 r h W l1 f0=>impl_without_1_c r h W aA f0 (Bo.all (Bo.to (c1I (K1.to H.sm) hx1) l1)))) (fun a vv w ⟨v2,hv1,S⟩ F=>?_);subst vv;have H:Sep X1 N1 w1 w [rl 1 xH 2 v2 z2]:=bk1 S;refine xA 1 F rfl fun a F=>xJ (xT ?_);have H:=(th1.1 H (Ns.all ⟨n0,trivial⟩));refine xO F rfl (oD F rfl) ?_;obtain rfl:=Option.some.inj hR;exact⟨_,rfl,v2,rfl,(H.s [1] rfl rfl)⟩
def impl_makeArcs (N:Nat) (x0:Template) (x1:Instance) (x2:List (List Int)) (x3:Option Bool):Option ((List ArcStep)×(List (List Int))):=
 vO (σ:=(List ArcStep)×Bool×(List (List Int))) (
  whl (σ:=(List ArcStep)×Bool×(List (List Int))) (ρ:=(List ArcStep)×(List (List Int))) (fun(s:(List ArcStep)×Bool×(List (List Int)))=>
    match s with
    | (s1,s2,s3)=>
    if s2 then
     vO (σ:=(List ArcStep)×Bool×(List (List Int))) (
      qK (σ:=(List ArcStep)×Bool×(List (List Int))) (ρ:=(Ctl ((List ArcStep)×Bool×(List (List Int))) ((List ArcStep)×(List (List Int))))) (fun(k1:Nat) (x4:Con) (s:(List ArcStep)×Bool×(List (List Int)))=>
        match s with
        | (s4,s5,s6)=>
        vO (σ:=(List ArcStep)×Bool×(List (List Int))) (
         qK (σ:=(List ArcStep)×Bool×(List (List Int))) (ρ:=(Ctl ((List ArcStep)×Bool×(List (List Int))) (Ctl ((List ArcStep)×Bool×(List (List Int))) ((List ArcStep)×(List (List Int)))))) (fun(k2:Nat) (x5:Int) (s:(List ArcStep)×Bool×(List (List Int)))=>
           match s with
           | (s7,s8,s9)=>
           xX (ix s9 x5) fun z1=>
           xX (vM z1) fun z2=>
           vO (σ:=(List ArcStep)×Bool×(List (List Int))) (
            qK (σ:=(List ArcStep)×Bool×(List (List Int))) (ρ:=(Ctl ((List ArcStep)×Bool×(List (List Int))) (Ctl ((List ArcStep)×Bool×(List (List Int))) (Ctl ((List ArcStep)×Bool×(List (List Int))) ((List ArcStep)×(List (List Int))))))) (fun(k3:Nat) (x6:Int) (s:(List ArcStep)×Bool×(List (List Int)))=>
              match s with
              | (s10,s11,s12)=>
              xX (impl_hasSupport (Template.mk x0.size x0.rels) (Con.mk x4.rel x4.scope) s12 (k2:Int) x6) fun z3=>
              if z3 then
               some (.go (s10,s11,s12))
              else
               xX (ix s12 x5) fun z4=>
               xX (impl_without N z4 x6) fun z5=>
               xX (ap s10 ([(ArcStep.mk x5 x6 (k1:Int))])) fun z6=>
               xX (x3) fun z7=>
               if z7 then
                some (.ret (.ret (.ret (.ret (z6,(s12.set (x5).toNat z5))))))
               else
                some (.go (z6,true,(s12.set (x5).toNat z5)))) z2 0 (s7,s8,s9)) fun(s13,s14,s15)=>
           some (.go (s13,s14,s15))) x4.scope 0 (s4,s5,s6)) fun(s16,s17,s18)=>
        some (.go (s16,s17,s18))) x1.cons 0 (s1,false,s3)) fun(s19,s20,s21)=>
     some (.go (s19,s20,s21))
    else
     some (.brk (s1,s2,s3))) N ([],true,x2)) fun(s22,s23,s24)=>
 some (s22,s24)
theorem impl_makeArcs_c {B:Nat→Prop} {N:Nat} {x0:Template} {x1:Instance} {x2:List (List Int)} {x3:Option Bool} (r:(List ArcStep)×(List (List Int))) (hR:impl_makeArcs N x0 x1 x2 x3=some r) {v0:Value} {v1:Value} {v2:Value} {g3:FuncId} {lb3:List Value} {X0:List Nat} (w0:World) (hN:∀ c,B c→c<w0.heap.size) (S0:Sep X0 B w0 w0 [rw N0 1 (vY 1 xH) 30 v2 x2]) (A0:Bo B w0 (zC 2 xG) v0 x0) (A1:Bo B w0 (zC 2 xI) v1 x1) (hg3:∀ args w,(callFunc g3 args).run Tryz.prog w= .ok (.enter g3 args) w) (hp3:∀ (r:Bool),x3=some r→∀ W,Sm B w0 W→Calls Tryz.prog g3 ([]++lb3:List Value).toArray W (vV (.bool r) W)):Calls Tryz.prog 65 #[v0,v1,v2,.func (.func g3) #[] lb3.toArray] w0 (Gv (fun v w'=>∃ (v1':Value),v=v1'∧Sep X0 B w0 w' [rl 3 qM 154 v1' r.1,rw N0 1 (vY 1 xH) 30 v2 r.2])):=by
 unfold impl_makeArcs at hR
 refine xV (L:=[(0,v0),(1,v1),(2,v2),(3,.func (.func g3) #[] lb3.toArray)]) func65 rfl rfl rfl (sc rfl (sc rfl (sc rfl (sc rfl sn)))) (fun a F=>?_);have H:=S0;refine xP ?_;obtain⟨v3,rfl,i1,h1⟩:=xG.o A0;refine oX F rfl rfl rfl H (fun a w b1 H F=>?_);obtain⟨v16,rfl,i2,h2⟩:=xI.o A1;refine oX F rfl rfl rfl H fun a w b2 H F=>xA 1 F rfl fun a F=>qU (oR0 (R:=qM) underlying106 sizeOf154 F rfl H fun a w v4 H F=>xA 1 F rfl fun a F=>xJ (xC ?_));refine xP (xA 1 F rfl fun a F=>xJ ?_);obtain⟨o1,hR,hk1⟩:=xK hR;refine xW (fun a w=>∃ (s1:List ArcStep) (v5:Value) (s2:Bool) (s3:List (List Int)),o1= .nx (s1,s2,s3)∧Sk a 74 [(2,v2),(9,v5)]∧Sep X0 B w0 w [rl 3 qM 154 v5 s1,rw N0 1 (vY 1 xH) 30 v2 s3]) ?_ ?_
 ·
  refine xS ?_;obtain⟨fl1,hf1,hR⟩:=whl_gen hR;refine oR (fun g a w=>∃ (s4:List ArcStep) (v6:Value) (s5:Bool) (s6:List (List Int)),whl fl1 g (s4,s5,s6)=some o1∧Sk a 74 [(2,v2),(3,.func (.func g3) #[] lb3.toArray),(4,.pointer (some ⟨b1,0,none⟩)),(5,.pointer (some ⟨b2,0,none⟩)),(9,v6),(10,.bool s5)]∧Sep X0 B w0 w [rl 3 qM 154 v6 s4,bx b2 [.int .i64 x1.vars,v16] 39,bx b1 [.int .i64 x0.size,v3] 35,rw N0 1 (vY 1 xH) 30 v2 s6]) N ?_ ?_
  ·
   exact⟨[],v4,true,x2,hR,F.su,H⟩
  intro g1 a w ⟨s4,v6,s5,s6,hR,F,H⟩;obtain⟨ck1,t1,hg1,hR,hn1⟩:=zU hR;rw[hf1] at hR;refine xC (xP (xA 1 F rfl fun a F=>xJ (qT F rfl (fun hb1=>?_) (fun hb1=>?_))))
  ·
   replace hR:=vS hb1 hR;refine xL (xF (xS (xP (xA 1 F rfl fun a F=>qU (oY fa39_1 F rfl rfl rfl (fun a F=>?_))))));refine oB isAgg37 F rfl rfl (H.b 1 rfl) rfl fun a F=>oL underlying37 F rfl rfl h2 fun a i3 F=>xA 1 F rfl fun a F=>xJ ?_;obtain⟨o2,hR,hk2⟩:=xK hR;refine xW (fun a w=>∃ (s7:List ArcStep) (v7:Value) (s8:Bool) (s9:List (List Int)),o2= .nx (s7,s8,s9)∧Sk a 74 [(2,v2),(3,.func (.func g3) #[] lb3.toArray),(4,.pointer (some ⟨b1,0,none⟩)),(5,.pointer (some ⟨b2,0,none⟩)),(9,v7),(10,.bool s8)]∧Sep X0 B w0 w [rl 3 qM 154 v7 s7,bx b2 [.int .i64 x1.vars,v16] 39,bx b1 [.int .i64 x0.size,v3] 35,rw N0 1 (vY 1 xH) 30 v2 s9]) ?_ ?_
   ·
    refine xS ?_;obtain⟨fl2,hf2,hR⟩:=qE hR;refine oR (fun g a w=>∃ (k1:Nat) (t2:List Con) (s10:List ArcStep) (v8:Value) (s11:Bool) (s12:List (List Int)),(k1≤x1.cons.length∧x1.cons.drop k1=t2)∧t2.length=g∧qK fl2 t2 k1 (s10,s11,s12)=some o2∧Sk a 74 [(22,.int .i64 (k1:Int)),(2,v2),(3,.func (.func g3) #[] lb3.toArray),(4,.pointer (some ⟨b1,0,none⟩)),(5,.pointer (some ⟨b2,0,none⟩)),(9,v8),(10,.bool s11),(20,v16),(21,.int .i64 (x1.cons.length:Int))]∧Sep X0 B w0 w [rl 3 qM 154 v8 s10,bx b2 [.int .i64 x1.vars,v16] 39,bx b1 [.int .i64 x0.size,v3] 35,rw N0 1 (vY 1 xH) 30 v2 s12]) x1.cons.length ?_ ?_
    ·
     exact⟨0,x1.cons,s4,v6,false,s6,⟨Nat.zero_le _,rfl⟩,rfl,hR,F.su,H⟩
    intro g2 a w ⟨k1,t2,s10,v8,s11,s12,hd1,hg2,hR,F,H⟩
    cases t2 with
    | nil=>
     replace hR:=qG hR;have q1:=qH hd1.1 hd1.2;have l1:=vA q1;refine xP (xA 1 F rfl fun a F=>xJ (xC (qV F rfl l1 (oO (oQ (oQ (vJ ?_)))))));refine xF ?_;exact⟨s10,v8,s11,s12,(Option.some.inj hR).symm,F.su,H⟩
    | cons x4 t2=>
     subst hg2;replace hd1:=oH hd1.2;have y1:=oV hd1.2.1;obtain⟨ck2,hR,hn2⟩:=oU hR;rw[hf2] at hR;have l1:=qP hd1.1;refine xP (xA 1 F rfl fun a F=>xJ (xC (qY F rfl l1 (xL (xF (xC ?_))))));have j1:=k64 (Nat.le_of_lt hd1.1) i3;have m1:=zA hd1.1 i3;refine xS (xP (xA 1 F rfl fun a F=>oI underlying37 sizeOf85 F rfl rfl rfl h2 y1 fun a p1 h3 F=>olA isAgg85 sizeOf85 F rfl rfl H.sm h3 fun a v9 h4 F=>oA zeroValue85 F rfl rfl H fun a w b3 H F=>xA 1 F rfl fun a F=>?_));obtain⟨v10,rfl,i4,h5⟩:=qX.o h4;refine oWA (vs:=[.int .i64 x4.rel,v10]) sizeOf85 F rfl rfl rfl H (oc rfl (oc (H.a h5).one on)) rfl rfl fun w H=>qU (oY kV F rfl rfl rfl fun a F=>oB isAgg30 F rfl rfl (H.b 0 rfl) rfl fun a F=>oL underlying30 F rfl rfl h5 fun a i5 F=>xA 1 F rfl fun a F=>xJ ?_);obtain⟨o3,hR,hk3⟩:=xK hR;refine xW (fun a w=>∃ (s13:List ArcStep) (v11:Value) (s14:Bool) (s15:List (List Int)),o3= .nx (s13,s14,s15)∧Sk a 74 [(2,v2),(3,.func (.func g3) #[] lb3.toArray),(4,.pointer (some ⟨b1,0,none⟩)),(5,.pointer (some ⟨b2,0,none⟩)),(9,v11),(10,.bool s14),(20,v16),(21,.int .i64 (x1.cons.length:Int)),(22,.int .i64 (k1:Int))]∧Sep X0 B w0 w [rl 3 qM 154 v11 s13,bx b2 [.int .i64 x1.vars,v16] 39,bx b1 [.int .i64 x0.size,v3] 35,rw N0 1 (vY 1 xH) 30 v2 s15]) ?_ ?_
     ·
      refine xS ?_;obtain⟨fl3,hf3,hR⟩:=qE hR;refine oR (fun g a w=>∃ (k2:Nat) (t3:List Int) (s16:List ArcStep) (v13:Value) (s17:Bool) (s18:List (List Int)),(k2≤x4.scope.length∧x4.scope.drop k2=t3)∧t3.length=g∧qK fl3 t3 k2 (s16,s17,s18)=some o3∧Sk a 74 [(30,.int .i64 (k2:Int)),(2,v2),(3,.func (.func g3) #[] lb3.toArray),(4,.pointer (some ⟨b1,0,none⟩)),(5,.pointer (some ⟨b2,0,none⟩)),(9,v13),(10,.bool s17),(11,.int .i64 (k1:Int)),(12,.pointer (some ⟨b3,0,none⟩)),(20,v16),(21,.int .i64 (x1.cons.length:Int)),(22,.int .i64 (k1:Int)),(28,v10),(29,.int .i64 (x4.scope.length:Int))]∧Sep X0 B w0 w [bx b3 [.int .i64 x4.rel,v10] 85,rl 3 qM 154 v13 s16,bx b2 [.int .i64 x1.vars,v16] 39,bx b1 [.int .i64 x0.size,v3] 35,rw N0 1 (vY 1 xH) 30 v2 s18]) x4.scope.length ?_ ?_
      ·
       exact⟨0,x4.scope,s10,v8,s11,s12,⟨Nat.zero_le _,rfl⟩,rfl,hR,F.su,H⟩
      intro g4 a w ⟨k2,t3,s16,v13,s17,s18,hd2,hg4,hR,F,H⟩
      cases t3 with
      | nil=>
       replace hR:=qG hR;have q2:=qH hd2.1 hd2.2;have l2:=vA q2;refine xP (xA 1 F rfl fun a F=>xJ (xC (qV F rfl l2 (oO (oQ (oQ (vJ ?_)))))));refine xF ?_;exact⟨s16,v13,s17,s18,(Option.some.inj hR).symm,F.su,(H.s [1,2,3,4] rfl rfl)⟩
      | cons x5 t3=>
       subst hg4;replace hd2:=oH hd2.2;have y2:=oV hd2.2.1;obtain⟨ck3,hR,hn3⟩:=oU hR;rw[hf3] at hR;have l2:=qP hd2.1;refine xP (xA 1 F rfl fun a F=>xJ (xC (qY F rfl l2 (xL (xF (xC ?_))))));have j2:=k64 (Nat.le_of_lt hd2.1) i5;have m2:=zA hd2.1 i5;refine xS (xP (xA 1 F rfl fun a F=>oI underlying30 sizeOf2 F rfl rfl rfl h5 y2 fun a p2 h6 F=>olI isAgg2 F rfl rfl H.sm h6 fun a i6 F=>xA 2 F rfl fun a F=>xJ (xC ?_)));refine xR (xA 2 F rfl fun a F=>?_);obtain⟨z1,c1,hR⟩:=xB hR;refine oI underlying67 sizeOf30 F rfl rfl rfl (H.r 4 rfl) c1 fun a p3 h7 F=>olS isAgg30 F rfl rfl (Sm.refl _ _) h7 (fun a v14 h8 F=>?_);obtain⟨z2,c2,hR⟩:=xB hR;refine oG F rfl call106 rfl (kT z2 c2 _ aA h8) (fun a vv w ⟨v15,hv1,S⟩ F=>?_);subst vv;have H:=H.r1 S n0;refine oL underlying30 F rfl rfl (H.l 0 rfl) fun a i7 F=>xA 1 F rfl fun a F=>xJ ?_;obtain⟨o4,hR,hk4⟩:=xK hR;refine xW (fun a w=>∃ (s19:List ArcStep) (v17:Value) (s20:Bool) (s21:List (List Int)),o4= .nx (s19,s20,s21)∧Sk a 74 [(2,v2),(3,.func (.func g3) #[] lb3.toArray),(4,.pointer (some ⟨b1,0,none⟩)),(5,.pointer (some ⟨b2,0,none⟩)),(9,v17),(10,.bool s20),(11,.int .i64 (k1:Int)),(12,.pointer (some ⟨b3,0,none⟩)),(20,v16),(21,.int .i64 (x1.cons.length:Int)),(22,.int .i64 (k1:Int)),(28,v10),(29,.int .i64 (x4.scope.length:Int)),(30,.int .i64 (k2:Int))]∧Sep X0 B w0 w [bx b3 [.int .i64 x4.rel,v10] 85,rl 3 qM 154 v17 s19,bx b2 [.int .i64 x1.vars,v16] 39,bx b1 [.int .i64 x0.size,v3] 35,rw N0 1 (vY 1 xH) 30 v2 s21]) ?_ ?_
       ·
        refine xS ?_;obtain⟨fl4,hf4,hR⟩:=qE hR;refine oR (fun g a w=>∃ (k3:Nat) (t4:List Int) (s22:List ArcStep) (v18:Value) (s23:Bool) (s24:List (List Int)),(k3≤z2.length∧z2.drop k3=t4)∧t4.length=g∧qK fl4 t4 k3 (s22,s23,s24)=some o4∧Sk a 74 [(41,.int .i64 (k3:Int)),(2,v2),(3,.func (.func g3) #[] lb3.toArray),(4,.pointer (some ⟨b1,0,none⟩)),(5,.pointer (some ⟨b2,0,none⟩)),(9,v18),(10,.bool s23),(11,.int .i64 (k1:Int)),(12,.pointer (some ⟨b3,0,none⟩)),(13,.int .i64 (k2:Int)),(14,.int .i64 x5),(20,v16),(21,.int .i64 (x1.cons.length:Int)),(22,.int .i64 (k1:Int)),(28,v10),(29,.int .i64 (x4.scope.length:Int)),(30,.int .i64 (k2:Int)),(39,v15),(40,.int .i64 (z2.length:Int))]∧Sep X0 B w0 w [rl 1 xH 2 v15 z2,bx b3 [.int .i64 x4.rel,v10] 85,rl 3 qM 154 v18 s22,bx b2 [.int .i64 x1.vars,v16] 39,bx b1 [.int .i64 x0.size,v3] 35,rw N0 1 (vY 1 xH) 30 v2 s24]) z2.length ?_ ?_
        ·
         exact⟨0,z2,s16,v13,s17,s18,⟨Nat.zero_le _,rfl⟩,rfl,hR,F.su,H⟩
        intro g5 a w ⟨k3,t4,s22,v18,s23,s24,hd3,hg5,hR,F,H⟩
        cases t4 with
        | nil=>
         replace hR:=qG hR;have q3:=qH hd3.1 hd3.2;have l3:=vA q3;refine xP (xA 1 F rfl fun a F=>xJ (xC (qV F rfl l3 (oO (oQ (oQ (vJ ?_)))))));refine xF ?_;exact⟨s22,v18,s23,s24,(Option.some.inj hR).symm,F.su,(H.s [1,2,3,4,5] rfl rfl)⟩
        | cons x6 t4=>
         subst hg5;replace hd3:=oH hd3.2;have y3:=oV hd3.2.1;obtain⟨ck4,hR,hn4⟩:=oU hR;rw[hf4] at hR;have l3:=qP hd3.1;refine xP (xA 1 F rfl fun a F=>xJ (xC (qY F rfl l3 (xL (xF (xC ?_))))));have j3:=k64 (Nat.le_of_lt hd3.1) i7;have m3:=zA hd3.1 i7;refine xS (xP (oI underlying30 sizeOf2 F rfl rfl rfl (H.l 0 rfl) y3 fun a p4 h9 F=>olI isAgg2 F rfl rfl (Sm.refl _ _) h9 fun a i8 F=>xA 1 F rfl fun a F=>xJ (xC (xP ?_))));refine oBA isAgg35 sizeOf35 F rfl rfl (H.b 4 rfl) rfl rfl fun a F=>oBA isAgg85 sizeOf85 F rfl rfl (H.b 1 rfl) rfl rfl fun a F=>xA 3 F rfl fun a F=>?_;obtain⟨z3,c3,hR⟩:=xB hR;refine oK F rfl call107 rfl H (impl_hasSupport_c z3 c3 _ aA (xG.m i1 (H.a h1)) (qX.m i4 (H.a h5)) (H.r 5 rfl) j2 i8) fun a w H F=>xJ (qT F rfl (fun hb2=>?_) (fun hb2=>?_))
         ·
          replace hR:=vS hb2 hR;refine oO (oQ (vJ (xF (xR (qR F rfl rfl rfl m3 fun a F=>xA 1 F rfl fun a F=>xJ ?_)))));replace hR:=qZ hR hn4;exact⟨_,Nat.lt_succ_self _,k3+1,t4,s22,v18,s23,s24,⟨hd3.1,hd3.2.2⟩,rfl,hR,F.su,H⟩
         replace hR:=vR hb2 hR;refine xL (xF (xP (xA 4 F rfl fun a F=>?_)));obtain⟨z4,c4,hR⟩:=xB hR;refine oI underlying67 sizeOf30 F rfl rfl rfl (H.r 5 rfl) c4 fun a p5 h10 F=>olS isAgg30 F rfl rfl (Sm.refl _ _) h10 fun a v20 h11 F=>xA 1 F rfl fun a F=>?_;obtain⟨z5,c5,hR⟩:=xB hR;refine oG F rfl call108 rfl (impl_without_c z5 c5 _ aA h11 i8) (fun a vv w ⟨v21,hv2,S⟩ F=>?_);subst vv;have H:=H.r1 S n0;refine oRi underlying67 sizeOf30 F rfl rfl rfl H 6 rfl c4 fun a p6 h12 rp1 F=>oSc sizeOf30 F rfl rfl rfl (H.s [6,0,1,2,3,4,5] rfl rfl) rp1 (ix_lt c4) n0 (fun e q=>(Eo.sl q.ld)) ((H.s [6,0,1,2,3,4,5] rfl rfl).l 1 rfl).one rfl fun w H=>qU (xA 4 F rfl fun a F=>o_build underlying154 zeroValue154 (fun w=>by simp [sizeOf2];rfl) F rfl rfl rfl rfl rfl (oc rfl (oc rfl (oc rfl on))) rfl rfl (fun a F=>?_));refine oR1z (R:=qM) (y:=(ArcStep.mk x5 x6 (k1:Int))) underlying106 sizeOf154 zeroValue154 rfl rfl F rfl rfl H (Eo.agg (qM.m i6 i8 j1)) (fun a w v22 H F=>?_);obtain⟨z6,c6,hR⟩:=xB hR;refine oPL (sz:=3) (R:=qM) (z:=(.agg #[.int .i64 0,.int .i64 0,.int .i64 0])) (bytes:=24) underlying106 (by kernel_rfl) rfl rfl F rfl rfl rfl (H.s [4,0,1,2,3,5,6] rfl rfl) c6 fun a w v23 H F=>xA 1 F rfl fun a F=>qU (xA 1 F rfl fun a F=>qU ?_);refine xA 1 F rfl fun a F=>?_;obtain⟨z7,c7,hR⟩:=xB hR;refine oKV F rfl rfl hg3 rfl H (hp3  z7 c7 _ H.sm ) fun a w H F=>xJ (qT F rfl (fun hb3=>?_) (fun hb3=>?_))
         ·
          replace hR:=vS hb3 hR;refine xP (xA 2 F rfl fun a F=>xJ (xT (vH (oE (oE ?_)))));replace hR:=zS hR hn4;refine vH (oE ?_);replace hR:=zR hR hk4;refine vH (oE (oE ?_));replace hR:=zS hR hn3;refine vH (oE ?_);replace hR:=zR hR hk3;refine vH (oE (oE ?_));replace hR:=zS hR hn2;refine vH (oE ?_);replace hR:=zR hR hk2;refine vH (oE ?_);replace hR:=zS hR hn1;refine vH (oE ?_);replace hR:=zR hR hk1;refine oE (xO F rfl (oD F rfl) ?_);obtain rfl:=Option.some.inj hR;exact⟨_,rfl,v23,rfl,(H.s [0,1] rfl rfl)⟩
         replace hR:=vR hb3 hR;refine xL (qW (xF (xR (qR F rfl rfl rfl m3 fun a F=>xA 1 F rfl fun a F=>xJ ?_))));replace hR:=qZ hR hn4;exact⟨_,Nat.lt_succ_self _,k3+1,t4,z6,v23,true,(s24.set (x5).toNat z5),⟨hd3.1,hd3.2.2⟩,rfl,hR,F.su,(H.s [2,3,0,4,5,1] rfl rfl)⟩
       intro a w ⟨s19,v17,s20,s21,ho1,F,H⟩;subst ho1;have hR:=xN hk4;refine qW (xF (xR (qR F rfl rfl rfl m2 fun a F=>xA 1 F rfl fun a F=>xJ ?_)));replace hR:=qZ hR hn3;exact⟨_,Nat.lt_succ_self _,k2+1,t3,s19,v17,s20,s21,⟨hd2.1,hd2.2.2⟩,rfl,hR,F.su,H⟩
     intro a w ⟨s13,v11,s14,s15,ho2,F,H⟩;subst ho2;have hR:=xN hk3;refine qW (xF (xR (qR F rfl rfl rfl m1 fun a F=>xA 1 F rfl fun a F=>xJ ?_)));replace hR:=qZ hR hn2;exact⟨_,Nat.lt_succ_self _,k1+1,t2,s13,v11,s14,s15,⟨hd1.1,hd1.2.2⟩,rfl,hR,F.su,H⟩
   intro a w ⟨s7,v7,s8,s9,ho3,F,H⟩;subst ho3;have hR:=xN hk2;refine qW (xF ?_);replace hR:=qZ hR hn1;exact⟨t1,(by omega),s7,v7,s8,s9,hR,F.su,H⟩
  replace hR:=vR hb1 hR;refine oO (oQ (oQ ?_));replace hR:=l_brk hR hn1;refine vJ (xF ?_);exact⟨s4,v6,s5,s6,(Option.some.inj hR).symm,F.su,(H.s [0,3] rfl rfl)⟩
 intro a w ⟨s1,v5,s2,s3,ho4,F,H⟩;subst ho4;have hR:=xN hk1;refine xF (xP (xA 2 F rfl fun a F=>xJ (xT (xO F rfl (oD F rfl) ?_))));obtain rfl:=Option.some.inj hR;exact⟨_,rfl,v5,rfl,H⟩
def impl_byArcs (N:Nat) (x0:Template) (x1:Instance) (x2:Bool):Option ((List Int)×Bool):=
 xX (impl_fullDomains (Template.mk x0.size x0.rels) (Instance.mk x1.vars x1.cons)) fun z1=>
 xX (impl_makeArcs N (Template.mk x0.size x0.rels) (Instance.mk x1.vars x1.cons) z1 impl_never) fun z2=>
 vO (σ:=(List Int)) (
  qK (σ:=(List Int)) (ρ:=(List Int)×Bool) (fun(k1:Nat) (x3:(List Int)) (s1:(List Int))=>
   if ((x3.length:Int)==0) then
    some (.ret ([],false))
   else
    if x2 then
     xX (ck ((x3.length:Int) - 1)) fun z3=>
     xX (ix x3 z3) fun z4=>
     xX (ap s1 ([z4])) fun z5=>
     some (.go z5)
    else
     xX (ix x3 0) fun z6=>
     xX (ap s1 ([z6])) fun z7=>
     some (.go z7)) z2.2 0 []) fun s2=>
 some (s2,true)
theorem impl_byArcs_c {B:Nat→Prop} {N:Nat} {x0:Template} {x1:Instance} {x2:Bool} (r:(List Int)×Bool) (hR:impl_byArcs N x0 x1 x2=some r) {v0:Value} {v1:Value} (w0:World) (hN:∀ c,B c→c<w0.heap.size) (A0:Bo B w0 (zC 2 xG) v0 x0) (A1:Bo B w0 (zC 2 xI) v1 x1):Calls Tryz.prog 33 #[v0,v1,.bool x2] w0 (Gv (fun v w'=>∃ (v1':Value),v= .tuple #[v1',.bool r.2]∧Sep [] B w0 w' [rl 1 xH 2 v1' r.1])):=by
 unfold impl_byArcs at hR
 refine xV (L:=[(0,v0),(1,v1),(2,.bool x2)]) func33 rfl rfl rfl (sc rfl (sc rfl (sc rfl sn))) (fun a F=>?_);have H:=Sep.start hN;refine xP ?_;obtain⟨v2,rfl,i1,h1⟩:=xG.o A0;refine oX F rfl rfl rfl H (fun a w b1 H F=>?_);obtain⟨v16,rfl,i2,h2⟩:=xI.o A1;refine oX F rfl rfl rfl H fun a w b2 H F=>xA 2 F rfl fun a F=>qU (oBA isAgg35 sizeOf35 F rfl rfl (H.b 1 rfl) rfl rfl fun a F=>oBA isAgg39 sizeOf39 F rfl rfl (H.b 0 rfl) rfl rfl (fun a F=>?_));obtain⟨z1,c1,hR⟩:=xB hR;refine oG F rfl call64 rfl (impl_fullDomains_c z1 c1 _ aA (xG.m i1 (H.a h1)) (xI.m i2 (H.a h2))) (fun a vv w ⟨v3,hv1,S⟩ F=>?_);subst vv;have H:=H.r1 S n0;refine xA 1 F rfl fun a F=>qU (oBA isAgg35 sizeOf35 F rfl rfl (H.b 2 rfl) rfl rfl fun a F=>oBA isAgg39 sizeOf39 F rfl rfl (H.b 1 rfl) rfl rfl fun a F=>xA 1 F rfl fun a F=>?_);obtain⟨z2,c2,hR⟩:=xB hR;have H:=H.lw;obtain⟨X1,K1,bk1⟩:=Sep.lend (K:=[rw N0 1 (vY 1 xH) 30 v3 z1]) (L:=[bx b2 [.int .i64 x1.vars,v16] 39,bx b1 [.int .i64 x0.size,v2] 35]) H;refine oG F rfl call65 rfl (impl_makeArcs_c z2 c2 _ H.hN K1 (xG.m i1 (H.u h1)) (xI.m i2 (H.u h2)) call66 (fun r h W l1=>impl_never_c r h W aA)) (fun a vv w ⟨v4,hv32,S⟩ F=>?_);subst vv;have H:Sep [] B w0 w [rl 3 qM 154 v4 z2.1,rw N0 1 (vY 1 xH) 30 v3 z2.2,bx b2 [.int .i64 x1.vars,v16] 39,bx b1 [.int .i64 x0.size,v2] 35]:=bk1 S;refine qU (oR0 (R:=xH) underlying30 sizeOf2 F rfl H fun a w v5 H F=>xA 1 F rfl fun a F=>xJ (xC (xP ?_)));refine xA 1 F rfl fun a F=>oL underlying67 F rfl rfl (H.r 2 rfl) fun a i3 F=>xA 1 F rfl fun a F=>xJ ?_;obtain⟨o1,hR,hk1⟩:=xK hR;refine xW (fun a w=>∃ (s1:List Int) (v6:Value),o1= .nx s1∧Sk a 49 [(9,v6)]∧Sep [] B w0 w [rl 1 xH 2 v6 s1]) ?_ ?_
 ·
  refine xS ?_;obtain⟨fl1,hf1,hR⟩:=qE hR;refine oR (fun g a w=>∃ (k1:Nat) (t1:List (List Int)) (s2:List Int) (v7:Value),(k1≤z2.2.length∧z2.2.drop k1=t1)∧t1.length=g∧qK fl1 t1 k1 s2=some o1∧Sk a 49 [(22,.int .i64 (k1:Int)),(2,.bool x2),(9,v7),(20,v3),(21,.int .i64 (z2.2.length:Int))]∧Sep [] B w0 w [rl 1 xH 2 v7 s2,rw N0 1 (vY 1 xH) 30 v3 z2.2]) z2.2.length ?_ ?_
  ·
   exact⟨0,z2.2,[],v5,⟨Nat.zero_le _,rfl⟩,rfl,hR,F.su,(H.s [0,2] rfl rfl)⟩
  intro g1 a w ⟨k1,t1,s2,v7,hd1,hg1,hR,F,H⟩
  cases t1 with
  | nil=>
   replace hR:=qG hR;have q1:=qH hd1.1 hd1.2;have l2:=vA q1;refine xP (xA 1 F rfl fun a F=>xJ (xC (qV F rfl l2 (oO (oQ (oQ (vJ ?_)))))));refine xF ?_;exact⟨s2,v7,(Option.some.inj hR).symm,F.su,(H.s [0] rfl rfl)⟩
  | cons x3 t1=>
   subst hg1;replace hd1:=oH hd1.2;have y1:=oV hd1.2.1;obtain⟨ck1,hR,hn1⟩:=oU hR;rw[hf1] at hR;have l2:=qP hd1.1;refine xP (xA 1 F rfl fun a F=>xJ (xC (qY F rfl l2 (xL (xF (xC ?_))))));have j1:=k64 (Nat.le_of_lt hd1.1) i3;have m1:=zA hd1.1 i3;refine xS (xP (oI underlying67 sizeOf30 F rfl rfl rfl (H.r 1 rfl) y1 fun a p1 h3 F=>olS isAgg30 F rfl rfl (Sm.refl _ _) h3 fun a v8 h4 F=>xA 1 F rfl fun a F=>xJ (xS (xP ?_))));refine xA 1 F rfl fun a F=>oL underlying30 F rfl rfl h4 fun a i4 F=>xA 2 F rfl fun a F=>xJ (qT F rfl (fun hb1=>?_) (fun hb1=>?_))
   ·
    replace hR:=vS hb1 hR;refine xP (xA 2 F rfl fun a F=>xJ (xT (vH (vH (oE (oE ?_))))));replace hR:=zS hR hn1;refine vH (oE ?_);replace hR:=zR hR hk1;refine oE (zV F rfl (oD F rfl) (oD F rfl) ?_);obtain rfl:=Option.some.inj hR;exact⟨_,rfl,(.slice none 0 0),rfl,((H.nl 1 xH 2).s [0] rfl rfl)⟩
   replace hR:=vR hb1 hR;refine xP (xA 2 F rfl fun a F=>xJ (qT F rfl (fun hb2=>?_) (fun hb2=>?_)))
   ·
    replace hR:=vS hb2 hR;refine xR (xA 3 F rfl fun a F=>oL underlying30 F rfl rfl h4 (fun a i5 F=>?_));obtain⟨z3,c3,hR⟩:=xB hR;refine o_sub F rfl rfl rfl c3 (fun a F=>?_);obtain⟨z4,c4,hR⟩:=xB hR;refine oI underlying30 sizeOf2 F rfl rfl rfl h4 c4 fun a p2 h5 F=>olI isAgg2 F rfl rfl (Sm.refl _ _) h5 fun a i6 F=>oR1z (R:=xH) (y:=z4) underlying30 sizeOf2 zeroValue2 rfl rfl F rfl rfl H (Eo.int i6) (fun a w v9 H F=>?_);obtain⟨z5,c5,hR⟩:=xB hR;refine oPL (sz:=1) (R:=xH) (z:=(.int .i64 0)) (bytes:=8) underlying30 (by kernel_rfl) rfl rfl F rfl rfl rfl (H.s [1,0,2] rfl rfl) c5 fun a w v10 H F=>xA 1 F rfl fun a F=>qD (qW (qW (xF (xR (qR F rfl rfl rfl m1 fun a F=>xA 1 F rfl fun a F=>xJ ?_)))));replace hR:=qZ hR hn1;exact⟨_,Nat.lt_succ_self _,k1+1,t1,z5,v10,⟨hd1.1,hd1.2.2⟩,rfl,hR,F.su,H⟩
   replace hR:=vR hb2 hR;refine xR (xA 2 F rfl fun a F=>?_);obtain⟨z6,c6,hR⟩:=xB hR;refine oI underlying30 sizeOf2 F rfl rfl rfl h4 c6 fun a p3 h6 F=>olI isAgg2 F rfl rfl (Sm.refl _ _) h6 fun a i7 F=>oR1z (R:=xH) (y:=z6) underlying30 sizeOf2 zeroValue2 rfl rfl F rfl rfl H (Eo.int i7) (fun a w v11 H F=>?_);obtain⟨z7,c7,hR⟩:=xB hR;refine oPL (sz:=1) (R:=xH) (z:=(.int .i64 0)) (bytes:=8) underlying30 (by kernel_rfl) rfl rfl F rfl rfl rfl (H.s [1,0,2] rfl rfl) c7 fun a w v13 H F=>xA 1 F rfl fun a F=>qD (qW (qW (xF (xR (qR F rfl rfl rfl m1 fun a F=>xA 1 F rfl fun a F=>xJ ?_)))));replace hR:=qZ hR hn1;exact⟨_,Nat.lt_succ_self _,k1+1,t1,z7,v13,⟨hd1.1,hd1.2.2⟩,rfl,hR,F.su,H⟩
 intro a w ⟨s1,v6,ho1,F,H⟩;subst ho1;have hR:=xN hk1;refine xF (xP (xA 3 F rfl fun a F=>xJ (xT (zV F rfl (oD F rfl) (oD F rfl) ?_))));obtain rfl:=Option.some.inj hR;exact⟨_,rfl,v6,rfl,H⟩
def impl_SolveByClass (N:Nat) (x0:Template) (x1:Instance) (x2:Int):Option ((List Int)×Int):=
 xX (impl_ValidInstance (Template.mk x0.size x0.rels) (Instance.mk x1.vars x1.cons)) fun z1=>
 if (!z1) then
  some ([],1)
 else
  xX (impl_classFault (Template.mk x0.size x0.rels) x2) fun z2=>
  if (z2 != 0) then
   some ([],z2)
  else
   vO (σ:=Bool) (
    xX (impl_classOp x2) fun z3=>
    xX (impl_isKept N (Template.mk x0.size x0.rels) (Op.mk z3.arity z3.table)) fun z4=>
    if (!z4) then  some (.nx true) else  if (decide (x2≤2)) then  xX (vW x0.rels (fun a0=>impl_hasNone a0)) fun z5=>
      some (.nx z5) else  some (.nx false)) fun s1=>
   if s1 then
    some ([],4)
   else
    vO (σ:=(List Int)×Bool) (
     vO (σ:=Bool) (
      if (x2==1) then
       some (.nx (x2==1))
      else
       some (.nx (x2==2))) fun s2=>
     if s2 then
      xX (ck (x2 - 1)) fun z6=>
      xX (zM ([z6]) x1.vars) fun z7=>
      some (.nx (z7,true))
     else
      vO (σ:=Bool) (
       if (x2==3) then
        some (.nx (x2==3))
       else
        some (.nx (x2==4))) fun s3=>
      if s3 then
       xX (impl_byArcs N (Template.mk x0.size x0.rels) (Instance.mk x1.vars x1.cons) (x2==4)) fun z8=>
       some (.nx (z8.1,z8.2))
      else
       if (x2==5) then
        xX (impl_byPairs N (Template.mk x0.size x0.rels) (Instance.mk x1.vars x1.cons)) fun z9=>
        some (.nx (z9.1,z9.2))
       else
        xX (impl_byEquations N (Template.mk x0.size x0.rels) (Instance.mk x1.vars x1.cons)) fun z10=>
        some (.nx (z10.1,z10.2))) fun(s4,s5)=>
    if (!s5) then
     some ([],6)
    else
     some (s4,0)
theorem impl_SolveByClass_c {B:Nat→Prop} {N:Nat} {x0:Template} {x1:Instance} {x2:Int} (r:(List Int)×Int) (hR:impl_SolveByClass N x0 x1 x2=some r) {v0:Value} {v1:Value} (w0:World) (hN:∀ c,B c→c<w0.heap.size) (A0:Bo B w0 (zC 2 xG) v0 x0) (A1:Bo B w0 (zC 2 xI) v1 x1) (hx2:xY x2):Calls Tryz.prog 9 #[v0,v1,.int .i64 x2] w0 (Gv (fun v w'=>∃ (v1':Value),v= .tuple #[v1',.int .i64 r.2]∧Sep [] B w0 w' [rl 1 xH 2 v1' r.1]∧xY r.2)):=by
 unfold impl_SolveByClass at hR
 refine xV (L:=[(0,v0),(1,v1),(2,.int .i64 x2)]) func9 rfl rfl rfl (sc rfl (sc rfl (sc rfl sn))) (fun a F=>?_);have H:=Sep.start hN;refine xP ?_;obtain⟨v2,rfl,i1,h1⟩:=xG.o A0;refine oX F rfl rfl rfl H (fun a w b1 H F=>?_);obtain⟨v16,rfl,i2,h2⟩:=xI.o A1;refine oX F rfl rfl rfl H fun a w b2 H F=>xA 2 F rfl fun a F=>xJ (xC (xP (oBA isAgg35 sizeOf35 F rfl rfl (H.b 1 rfl) rfl rfl fun a F=>oBA isAgg39 sizeOf39 F rfl rfl (H.b 0 rfl) rfl rfl (fun a F=>?_))));obtain⟨z1,c1,hR⟩:=xB hR;refine oK F rfl call26 rfl H (impl_ValidInstance_c z1 c1 _ aA (xG.m i1 (H.a h1)) (xI.m i2 (H.a h2))) fun a w H F=>xA 1 F rfl fun a F=>xJ (qT F rfl (fun hb1=>?_) (fun hb1=>?_))
 ·
  replace hR:=vS hb1 hR;refine xP (xA 2 F rfl fun a F=>xJ (xT (oE (zV F rfl (oD F rfl) (oD F rfl) ?_))));obtain rfl:=Option.some.inj hR;exact⟨_,rfl,(.slice none 0 0),rfl,((H.nl 1 xH 2).s [0] rfl rfl),(show xY (1) by decide)⟩
 replace hR:=vR hb1 hR;refine xL (xF (xC (xP (oBA isAgg35 sizeOf35 F rfl rfl (H.b 1 rfl) rfl rfl fun a F=>xA 1 F rfl fun a F=>?_))));obtain⟨z2,c2,hR⟩:=xB hR;refine oKI F rfl call27 rfl H (impl_classFault_c z2 c2 _ aA (xG.m i1 (H.a h1)) hx2) fun a w H iz1 F=>xA 1 F rfl fun a F=>qU (xA 2 F rfl fun a F=>xJ (qT F rfl (fun hb2=>?_) (fun hb2=>?_)))
 ·
  replace hR:=vS hb2 hR;refine xP (xA 3 F rfl fun a F=>xJ (xT (oE (zV F rfl (oD F rfl) (oD F rfl) ?_))));obtain rfl:=Option.some.inj hR;exact⟨_,rfl,(.slice none 0 0),rfl,((H.nl 1 xH 2).s [0] rfl rfl),iz1⟩
 replace hR:=vR hb2 hR;refine xL (xF (xC (xC ?_)));obtain⟨o1,hR,hk1⟩:=xK hR;refine xW (fun a w=>∃ (s1:Bool),o1= .nx s1∧Sk a 73 [(2,.int .i64 x2),(3,.pointer (some ⟨b1,0,none⟩)),(4,.pointer (some ⟨b2,0,none⟩)),(34,.bool s1)]∧Sep [] B w0 w [bx b2 [.int .i64 x1.vars,v16] 39,bx b1 [.int .i64 x0.size,v2] 35]) ?_ ?_
 ·
  obtain⟨z3,c3,hR⟩:=xB hR;obtain⟨z4,c4,hR⟩:=xB hR
  rcases vG (!z4) with hb3 | hb3
  ·
   replace hR:=vS hb3 hR;obtain⟨w1,rfl⟩:∃ x,x=w:=⟨_,rfl⟩;have sm1:=H.sm;obtain⟨X1,N1,g1,e1,H,th1,ab1⟩:=(H.s [1,0] rfl rfl).fza;have K1:=g1.bk;refine xD H (by kernel_rfl) fun w H=>kO 0 (by kernel_rfl) rfl (by kernel_rfl) (by kernel_rfl) (by kernel_rfl) (by kernel_rfl) (vBA isAgg35 sizeOf35 F rfl rfl (K1.v H.sm) rfl rfl fun a F=>vD 1 rfl (by kernel_rfl) (by kernel_rfl) (by kernel_rfl) (oJ F rfl (fun w l=>xM F rfl) fun a F=>xE H 2 rfl (by kernel_rfl) (oG F rfl call29 rfl (impl_classOp_c z3 c3 _ aA hx2) (fun a vv w ⟨v3,hv1,S,i3⟩ F=>?_))));subst vv;have H:=H.r1 S n0;refine xJ ⟨⟨_,H⟩,?_⟩;refine xE H 3 rfl (by kernel_rfl) (oK F rfl call28 rfl H (impl_isKept_c z4 c4 _ aA (xG.m i1 (H.a (e1 h1))) (ROp.m i3 (H.l 0 rfl))) fun a w H F=>xJ ⟨⟨_,H⟩,?_⟩);refine vD 4 rfl (by kernel_rfl) (by kernel_rfl) (by kernel_rfl) (oJ F rfl (fun w l=>r_not F rfl) (fun a F=>?_));have F:=F.eq (t:=25) rfl (congrArg Value.bool hb3);refine vD 5 rfl (by kernel_rfl) (by kernel_rfl) (by kernel_rfl) (oJ F rfl (fun w l=>xM F rfl) fun a F=>vD 6 rfl (by kernel_rfl) (by kernel_rfl) (by kernel_rfl) (v_no F rfl rfl fun a F=>vD 7 rfl (by kernel_rfl) (by kernel_rfl) (by kernel_rfl) (v_no F rfl rfl fun a F=>vD 8 rfl (by kernel_rfl) (by kernel_rfl) (by kernel_rfl) (v_no F rfl rfl fun a F=>kO 9 (by kernel_rfl) rfl (by kernel_rfl) (by kernel_rfl) (by kernel_rfl) (by kernel_rfl) (v_no F rfl rfl fun a F=>kO 10 (by kernel_rfl) rfl (by kernel_rfl) (by kernel_rfl) (by kernel_rfl) (by kernel_rfl) ?_)))));refine v_no F rfl rfl fun a F=>kO 11 (by kernel_rfl) rfl (by kernel_rfl) (by kernel_rfl) (by kernel_rfl) (by kernel_rfl) (v_no F rfl rfl fun a F=>kO 12 (by kernel_rfl) rfl (by kernel_rfl) (by kernel_rfl) (by kernel_rfl) (by kernel_rfl) (v_no F rfl rfl fun a F=>kO 13 (by kernel_rfl) rfl (by kernel_rfl) (by kernel_rfl) (by kernel_rfl) (by kernel_rfl) (oJ F rfl (fun w l=>r_pickt F rfl rfl) fun a F=>b_end (by kernel_rfl) (xF ?_))));exact⟨true,(Option.some.inj hR).symm,F.su,((th1.1 (H.s [1] rfl rfl) (Ns.all ⟨n0,trivial⟩)).s [1,0] rfl rfl)⟩
  replace hR:=vR hb3 hR
  rcases vG (decide (x2≤2)) with hb4 | hb4
  ·
   replace hR:=vS hb4 hR;obtain⟨z5,c5,hR⟩:=xB hR;obtain⟨w2,rfl⟩:∃ x,x=w:=⟨_,rfl⟩;have sm2:=H.sm;obtain⟨X2,N2,g2,e2,H,th2,ab2⟩:=(H.s [1,0] rfl rfl).fza;have K2:=g2.bk;refine xD H (by kernel_rfl) fun w H=>kO 0 (by kernel_rfl) rfl (by kernel_rfl) (by kernel_rfl) (by kernel_rfl) (by kernel_rfl) (vBA isAgg35 sizeOf35 F rfl rfl (K2.v H.sm) rfl rfl fun a F=>vD 1 rfl (by kernel_rfl) (by kernel_rfl) (by kernel_rfl) (oJ F rfl (fun w l=>xM F rfl) fun a F=>xE H 2 rfl (by kernel_rfl) (oG F rfl call29 rfl (impl_classOp_c z3 c3 _ aA hx2) (fun a vv w ⟨v4,hv2,S,i4⟩ F=>?_))));subst vv;have H:=H.r1 S n0;refine xJ ⟨⟨_,H⟩,?_⟩;refine xE H 3 rfl (by kernel_rfl) (oK F rfl call28 rfl H (impl_isKept_c z4 c4 _ aA (xG.m i1 (H.a (e2 h1))) (ROp.m i4 (H.l 0 rfl))) fun a w H F=>xJ ⟨⟨_,H⟩,?_⟩);refine vD 4 rfl (by kernel_rfl) (by kernel_rfl) (by kernel_rfl) (oJ F rfl (fun w l=>r_not F rfl) (fun a F=>?_));have F:=F.eq (t:=25) rfl (congrArg Value.bool hb3);refine vD 5 rfl (by kernel_rfl) (by kernel_rfl) (by kernel_rfl) (oJ F rfl (fun w l=>xM F rfl) fun a F=>vD 6 rfl (by kernel_rfl) (by kernel_rfl) (by kernel_rfl) (oJ F rfl (fun w l=>xM F rfl) fun a F=>vD 7 rfl (by kernel_rfl) (by kernel_rfl) (by kernel_rfl) (oJ F rfl (fun w l=>r_leq F rfl rfl) (fun a F=>?_))));have F:=F.eq (t:=28) rfl (congrArg Value.bool hb4);refine vD 8 rfl (by kernel_rfl) (by kernel_rfl) (by kernel_rfl) (oJ F rfl (fun w l=>xM F rfl) fun a F=>kO 9 (by kernel_rfl) rfl (by kernel_rfl) (by kernel_rfl) (by kernel_rfl) (by kernel_rfl) (oJ F rfl (fun w l=>zQ fa35_1 F rfl rfl) fun a F=>kO 10 (by kernel_rfl) rfl (by kernel_rfl) (by kernel_rfl) (by kernel_rfl) (by kernel_rfl) (vB isAgg33 F rfl rfl (K2.v H.sm) rfl fun a F=>xE H 11 rfl (by kernel_rfl) (oK F rfl call30 rfl H (slices_ContainsFunc_s_Rel_Rel_c z5 c5 _ aA (H.a (e2 h1)) call31 (fun a0 r h W l1 u0 f0=>impl_hasNone_c r h W aA f0)) fun a w H F=>xJ ⟨⟨_,H⟩,?_⟩))));refine kO 12 (by kernel_rfl) rfl (by kernel_rfl) (by kernel_rfl) (by kernel_rfl) (by kernel_rfl) (oJ F rfl (fun w l=>r_pickt F rfl rfl) fun a F=>kO 13 (by kernel_rfl) rfl (by kernel_rfl) (by kernel_rfl) (by kernel_rfl) (by kernel_rfl) (oJ F rfl (fun w l=>r_pickf F rfl rfl) fun a F=>b_end (by kernel_rfl) (xF ?_)));exact⟨z5,(Option.some.inj hR).symm,F.su,((th2.1 (H.s [1] rfl rfl) (Ns.all ⟨n0,trivial⟩)).s [1,0] rfl rfl)⟩
  replace hR:=vR hb4 hR;obtain⟨w3,rfl⟩:∃ x,x=w:=⟨_,rfl⟩;have sm3:=H.sm;obtain⟨X3,N3,g3,e3,H,th3,ab3⟩:=(H.s [1,0] rfl rfl).fza;have K3:=g3.bk;refine xD H (by kernel_rfl) fun w H=>kO 0 (by kernel_rfl) rfl (by kernel_rfl) (by kernel_rfl) (by kernel_rfl) (by kernel_rfl) (vBA isAgg35 sizeOf35 F rfl rfl (K3.v H.sm) rfl rfl fun a F=>vD 1 rfl (by kernel_rfl) (by kernel_rfl) (by kernel_rfl) (oJ F rfl (fun w l=>xM F rfl) fun a F=>xE H 2 rfl (by kernel_rfl) (oG F rfl call29 rfl (impl_classOp_c z3 c3 _ aA hx2) (fun a vv w ⟨v5,hv3,S,i5⟩ F=>?_))));subst vv;have H:=H.r1 S n0;refine xJ ⟨⟨_,H⟩,?_⟩;refine xE H 3 rfl (by kernel_rfl) (oK F rfl call28 rfl H (impl_isKept_c z4 c4 _ aA (xG.m i1 (H.a (e3 h1))) (ROp.m i5 (H.l 0 rfl))) fun a w H F=>xJ ⟨⟨_,H⟩,?_⟩);refine vD 4 rfl (by kernel_rfl) (by kernel_rfl) (by kernel_rfl) (oJ F rfl (fun w l=>r_not F rfl) (fun a F=>?_));have F:=F.eq (t:=25) rfl (congrArg Value.bool hb3);refine vD 5 rfl (by kernel_rfl) (by kernel_rfl) (by kernel_rfl) (oJ F rfl (fun w l=>xM F rfl) fun a F=>vD 6 rfl (by kernel_rfl) (by kernel_rfl) (by kernel_rfl) (oJ F rfl (fun w l=>xM F rfl) fun a F=>vD 7 rfl (by kernel_rfl) (by kernel_rfl) (by kernel_rfl) (oJ F rfl (fun w l=>r_leq F rfl rfl) (fun a F=>?_))));have F:=F.eq (t:=28) rfl (congrArg Value.bool hb4);refine vD 8 rfl (by kernel_rfl) (by kernel_rfl) (by kernel_rfl) (oJ F rfl (fun w l=>xM F rfl) fun a F=>kO 9 (by kernel_rfl) rfl (by kernel_rfl) (by kernel_rfl) (by kernel_rfl) (by kernel_rfl) (v_no F rfl rfl fun a F=>kO 10 (by kernel_rfl) rfl (by kernel_rfl) (by kernel_rfl) (by kernel_rfl) (by kernel_rfl) (v_no F rfl rfl fun a F=>kO 11 (by kernel_rfl) rfl (by kernel_rfl) (by kernel_rfl) (by kernel_rfl) (by kernel_rfl) (v_no F rfl rfl fun a F=>kO 12 (by kernel_rfl) rfl (by kernel_rfl) (by kernel_rfl) (by kernel_rfl) (by kernel_rfl) (oJ F rfl (fun w l=>r_pickf F rfl rfl) fun a F=>kO 13 (by kernel_rfl) rfl (by kernel_rfl) (by kernel_rfl) (by kernel_rfl) (by kernel_rfl) ?_)))));refine oJ F rfl (fun w l=>r_pickf F rfl rfl) fun a F=>b_end (by kernel_rfl) (xF ?_);exact⟨false,(Option.some.inj hR).symm,F.su,((th3.1 (H.s [1] rfl rfl) (Ns.all ⟨n0,trivial⟩)).s [1,0] rfl rfl)⟩
 intro a w ⟨s1,ho1,F,H⟩;subst ho1;have hR:=xN hk1;refine xF (qT F rfl (fun hb5=>?_) (fun hb5=>?_))
 ·
  replace hR:=vS hb5 hR;refine xP (xA 2 F rfl fun a F=>xJ (xT (oE (zV F rfl (oD F rfl) (oD F rfl) ?_))));obtain rfl:=Option.some.inj hR;exact⟨_,rfl,(.slice none 0 0),rfl,((H.nl 1 xH 2).s [0] rfl rfl),(show xY (4) by decide)⟩
 replace hR:=vR hb5 hR;refine xL (xF (xP (xA 1 F rfl fun a F=>qU (xA 1 F rfl fun a F=>qD ?_))));refine xF (xC (xP (xA 1 F rfl fun a F=>xJ ?_)));obtain⟨o2,hR,hk2⟩:=xK hR;refine xW (fun a w=>∃ (s2:List Int) (v6:Value) (s3:Bool),o2= .nx (s2,s3)∧Sk a 73 [(9,v6),(10,.bool s3)]∧Sep [] B w0 w [rl 1 xH 2 v6 s2]) ?_ ?_
 ·
  refine xS (xC (xP (xA 2 F rfl fun a F=>xJ ?_)));obtain⟨o3,hR,hk3⟩:=xK hR;refine xW (fun a w=>∃ (s4:Bool),o3= .nx s4∧Sk a 73 [(2,.int .i64 x2),(3,.pointer (some ⟨b1,0,none⟩)),(4,.pointer (some ⟨b2,0,none⟩)),(10,.bool true),(35,.int .i64 x2),(42,.bool s4)]∧Sep [] B w0 w [bx b2 [.int .i64 x1.vars,v16] 39,bx b1 [.int .i64 x0.size,v2] 35]) ?_ ?_
  ·
   refine qT F rfl (fun hb6=>?_) (fun hb6=>?_)
   ·
    replace hR:=vS hb6 hR;refine xL (xF ?_);exact⟨(x2==1),(Option.some.inj hR).symm,F.su,H⟩
   replace hR:=vR hb6 hR;refine xR (xA 2 F rfl fun a F=>xJ ?_);exact⟨(x2==2),(Option.some.inj hR).symm,F.su,H⟩
  intro a w ⟨s4,ho2,F,H⟩;subst ho2;have hR:=xN hk3;refine xF (qT F rfl (fun hb7=>?_) (fun hb7=>?_))
  ·
   replace hR:=vS hb7 hR;refine xR (xA 1 F rfl fun a F=>?_);obtain⟨z6,c6,hR⟩:=xB hR;refine o_sub F rfl rfl rfl c6 fun a F=>oR1z (R:=xH) (y:=z6) underlying30 sizeOf2 zeroValue2 rfl rfl F rfl rfl H (Eo.int (ck64 c6)) fun a w v7 H F=>oY zY F rfl rfl rfl fun a F=>oB isAgg2 F rfl rfl (H.b 1 rfl) rfl (fun a F=>?_);obtain⟨z7,c7,hR⟩:=xB hR;refine oG F rfl call32 rfl (slices_Repeat_s_int64_int64_c z7 c7 _ aA (H.l 0 rfl) i2) (fun a vv w ⟨v8,hv4,S⟩ F=>?_);subst vv;have H:=H.r1 S n0;refine xA 1 F rfl fun a F=>qD (qW (xF ?_));exact⟨z7,v8,true,(Option.some.inj hR).symm,F.su,(H.s [0] rfl rfl)⟩
  replace hR:=vR hb7 hR;refine xC (xP (xA 2 F rfl fun a F=>xJ ?_));obtain⟨o4,hR,hk4⟩:=xK hR;refine xW (fun a w=>∃ (s5:Bool),o4= .nx s5∧Sk a 73 [(2,.int .i64 x2),(3,.pointer (some ⟨b1,0,none⟩)),(4,.pointer (some ⟨b2,0,none⟩)),(35,.int .i64 x2),(51,.bool s5)]∧Sep [] B w0 w [bx b2 [.int .i64 x1.vars,v16] 39,bx b1 [.int .i64 x0.size,v2] 35]) ?_ ?_
  ·
   refine qT F rfl (fun hb8=>?_) (fun hb8=>?_)
   ·
    replace hR:=vS hb8 hR;refine xL (xF ?_);exact⟨(x2==3),(Option.some.inj hR).symm,F.su,H⟩
   replace hR:=vR hb8 hR;refine xR (xA 2 F rfl fun a F=>xJ ?_);exact⟨(x2==4),(Option.some.inj hR).symm,F.su,H⟩
  intro a w ⟨s5,ho3,F,H⟩;subst ho3;have hR:=xN hk4;refine xF (qT F rfl (fun hb9=>?_) (fun hb9=>?_))
  ·
   replace hR:=vS hb9 hR;refine xR (oBA isAgg35 sizeOf35 F rfl rfl (H.b 1 rfl) rfl rfl fun a F=>oBA isAgg39 sizeOf39 F rfl rfl (H.b 0 rfl) rfl rfl fun a F=>xA 2 F rfl fun a F=>?_);obtain⟨z8,c8,hR⟩:=xB hR;refine oG F rfl call33 rfl (impl_byArcs_c z8 c8 _ aA (xG.m i1 (H.a h1)) (xI.m i2 (H.a h2))) (fun a vv w ⟨v9,hv5,S⟩ F=>?_);subst vv;have H:=H.r1 S n0;refine xA 5 F rfl fun a F=>qD (qW (xF ?_));exact⟨z8.1,v9,z8.2,(Option.some.inj hR).symm,F.su,(H.s [0] rfl rfl)⟩
  replace hR:=vR hb9 hR;refine xP (xA 2 F rfl fun a F=>xJ (qT F rfl (fun hb10=>?_) (fun hb10=>?_)))
  ·
   replace hR:=vS hb10 hR;refine xR (oBA isAgg35 sizeOf35 F rfl rfl (H.b 1 rfl) rfl rfl fun a F=>oBA isAgg39 sizeOf39 F rfl rfl (H.b 0 rfl) rfl rfl (fun a F=>?_));obtain⟨z9,c9,hR⟩:=xB hR;refine oG F rfl call34 rfl (impl_byPairs_c z9 c9 _ aA (xG.m i1 (H.a h1)) (xI.m i2 (H.a h2))) (fun a vv w ⟨v10,hv6,S⟩ F=>?_);subst vv;have H:=H.r1 S n0;refine xA 5 F rfl fun a F=>qD (qW (xF ?_));exact⟨z9.1,v10,z9.2,(Option.some.inj hR).symm,F.su,(H.s [0] rfl rfl)⟩
  replace hR:=vR hb10 hR;refine xR (oBA isAgg35 sizeOf35 F rfl rfl (H.b 1 rfl) rfl rfl fun a F=>oBA isAgg39 sizeOf39 F rfl rfl (H.b 0 rfl) rfl rfl (fun a F=>?_));obtain⟨z10,c10,hR⟩:=xB hR;refine oG F rfl call35 rfl (impl_byEquations_c z10 c10 _ aA (xG.m i1 (H.a h1)) (xI.m i2 (H.a h2))) (fun a vv w ⟨v11,hv7,S⟩ F=>?_);subst vv;have H:=H.r1 S n0;refine xA 5 F rfl fun a F=>qD (qW (xF ?_));exact⟨z10.1,v11,z10.2,(Option.some.inj hR).symm,F.su,(H.s [0] rfl rfl)⟩
 intro a w ⟨s2,v6,s3,ho4,F,H⟩;subst ho4;have hR:=xN hk2;refine xF (xC (xP (xA 2 F rfl fun a F=>xJ (qT F rfl (fun hb11=>?_) (fun hb11=>?_)))))
 ·
  replace hR:=vS hb11 hR;refine xP (xA 2 F rfl fun a F=>xJ (xT (oE (zV F rfl (oD F rfl) (oD F rfl) ?_))));obtain rfl:=Option.some.inj hR;exact⟨_,rfl,(.slice none 0 0),rfl,((H.nl 1 xH 2).s [0] rfl rfl),(show xY (6) by decide)⟩
 replace hR:=vR hb11 hR;refine xL (xF (xP (xA 3 F rfl fun a F=>xJ (xT (zV F rfl (oD F rfl) (oD F rfl) ?_)))));obtain rfl:=Option.some.inj hR;exact⟨_,rfl,v6,rfl,H,(show xY (0) by decide)⟩
end Go.Proofs.YticojbhjloeckaaGreat
