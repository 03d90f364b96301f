import Derived.Test.YticojbhjloeckaaGreatMT
import Derived.Test.YticojbhjloeckaaGreatNY
import Derived.Test.YticojbhjloeckaaGreatL1
import Derived.Test.YticojbhjloeckaaGreatL2
import Derived.Test.YticojbhjloeckaaGreatL6
namespace Go.Proofs.YticojbhjloeckaaGreat
open Go.Proofs.Tryz
set_option linter.unusedVariables false
set_option linter.unusedSimpArgs false
set_option maxRecDepth 100000
open Go.RowKit
noncomputable section
def laws_FnExactSolveByClass (N:Nat) (x0:Template) (x1:Instance) (x2:Int):Option Bool:=
 xX (szq 1048576 ((Template.mk x0.size x0.rels).sz)) fun z1=>
 if (decide (z1<0)) then
  some true
 else
  xX (szq z1 ((Instance.mk x1.vars x1.cons).sz)) fun z2=>
  if (decide (z2<0)) then
   some true
  else
   xX (toq ((Template.mk x0.size x0.rels).sz)) fun z3=>
   xX (toq ((Instance.mk x1.vars x1.cons).sz)) fun z4=>
   xX (spec_SolveByClass N (Template.mk x0.size x0.rels) (Instance.mk x1.vars x1.cons) x2) fun z5=>
   xX (impl_SolveByClass N (Template.mk x0.size x0.rels) (Instance.mk x1.vars x1.cons) x2) fun z6=>
   vO (σ:=Bool) (
    xX (eqq z6.1 z5.1) fun z7=>
    if (!z7) then  some (.nx true) else  some (.nx (z6.2 != z5.2))) fun s1=>
   if s1 then
    some false
   else
    xX (eqq (Template.mk x0.size x0.rels) (Template.mk x0.size x0.rels)) fun z8=>
    if (!z8) then
     some false
    else
     xX (eqq (Instance.mk x1.vars x1.cons) (Instance.mk x1.vars x1.cons)) fun z9=>
     if (!z9) then
      some false
     else
      xX (mkq 1 ((Template.mk x0.size x0.rels).cnt)) fun z10=>
      xX (mkq z10 ((Instance.mk x1.vars x1.cons).cnt)) fun z11=>
      vO (σ:=Bool) (
       if (decide (z11<0)) then  some (.nx true) else  xX (eqq z6.1 z5.1) fun z12=>
        if (!z12) then  some (.nx true) else  some (.nx (z6.2 != z5.2))) fun s2=>
      if s2 then
       some false
      else
       xX (mkq 1 (zK cI z6.1)) fun z13=>
       if (decide (z13<0)) then
        some false
       else
        if (z13 != z13) then
         some false
        else
         vO (σ:=Bool) (
          xX (eqq z6.1 z5.1) fun z14=>
          if (!z14) then  some (.nx true) else  some (.nx (z6.2 != z5.2))) fun s3=>
         if s3 then
          some false
         else
          if (decide (z13<0)) then
           some false
          else
           if (z13 != z13) then
            some false
           else
            some true
set_option maxHeartbeats 1000000 in
theorem laws_FnExactSolveByClass_c {B:Nat→Prop} {N:Nat} {x0:Template} {x1:Instance} {x2:Int} (r:Bool) (hR:laws_FnExactSolveByClass N x0 x1 x2=some r) {v0:Value} {v1:Value} (w0:World) (hN:∀ c,B c→c<w0.heap.size) (A0:Bo B w0 (zC 2 xG) v0 x0) (A1:Bo B w0 (zC 2 xI) v1 x1) (hx2:xY x2):Calls Tryz.prog 3 #[v0,v1,.int .i64 x2] w0 (vV (.bool r) w0):=by
 unfold laws_FnExactSolveByClass at hR
 refine xV (L:=[(0,v0),(1,v1),(2,.int .i64 x2)]) func3 rfl rfl rfl (sc rfl (sc rfl (sc rfl sn))) (fun a F=>?_);have H:=Sep.start hN;refine xP ?_;obtain⟨v2,rfl,i1,h2⟩:=xG.o A0;refine oX F rfl rfl rfl H (fun a w b1 H F=>?_);obtain⟨v16,rfl,i2,h3⟩:=xI.o A1;refine oX F rfl rfl rfl H fun a w b2 H F=>xA 1 F rfl fun a F=>qU (xA 1 F rfl fun a F=>qU ?_);refine oBA isAgg24 sizeOf24 F rfl rfl (H.b 1 rfl) rfl rfl fun a F=>xA 1 F rfl fun a F=>?_;obtain⟨z1,c1,hR⟩:=xB hR;refine nSz (V:=zC 2 xG) F rfl call4 rfl H (xG.m i1 (H.a h2)) c1 (fun h h0 h1=>szTemplate_any _ _ _ _ _ h.r h.m h0 h1) fun a w H iz1 F=>xA 1 F rfl fun a F=>xJ (xC (xP (xA 2 F rfl fun a F=>xJ ?_)));refine qT F rfl (fun hb1=>?_) (fun hb1=>?_)
 ·
  replace hR:=vS hb1 hR;refine xP (xA 1 F rfl fun a F=>xJ (xT (oE (xO F rfl (oD F rfl) ?_))));obtain rfl:=Option.some.inj hR;exact⟨rfl,H.bl⟩
 replace hR:=vR hb1 hR;refine xL (xF (xP (oBA isAgg27 sizeOf27 F rfl rfl (H.b 0 rfl) rfl rfl fun a F=>xA 1 F rfl fun a F=>?_)));obtain⟨z2,c2,hR⟩:=xB hR;refine nSz (V:=zC 2 xI) F rfl call5 rfl H (xI.m i2 (H.a h3)) c2 (fun h h0 h1=>szInstance_any _ _ _ _ _ h.r h.m h0 h1) fun a w H iz2 F=>xA 1 F rfl fun a F=>xJ (xC (xP (xA 2 F rfl fun a F=>xJ ?_)));refine qT F rfl (fun hb2=>?_) (fun hb2=>?_)
 ·
  replace hR:=vS hb2 hR;refine xP (xA 1 F rfl fun a F=>xJ (xT (oE (xO F rfl (oD F rfl) ?_))));obtain rfl:=Option.some.inj hR;exact⟨rfl,H.bl⟩
 replace hR:=vR hb2 hR;refine xL (xF (xC ?_));obtain⟨z3,c3,hR⟩:=xB hR;obtain⟨z4,c4,hR⟩:=xB hR;obtain⟨z5,c5,hR⟩:=xB hR;obtain⟨w1,rfl⟩:∃ x,x=w:=⟨_,rfl⟩;have sm1:=H.sm;obtain⟨X1,N1,g1,e1,H,th1,ab1⟩:=H.mg.fza;have K1:=g1.l.bk;have K2:=g1.r.bk;refine xD H (by kernel_rfl) fun w H=>kO 0 (by kernel_rfl) rfl (by kernel_rfl) (by kernel_rfl) (by kernel_rfl) (by kernel_rfl) (vBA isAgg24 sizeOf24 F rfl rfl (K2.v H.sm) rfl rfl fun a F=>kO 2 (by kernel_rfl) rfl (by kernel_rfl) (by kernel_rfl) (by kernel_rfl) (by kernel_rfl) (vBA isAgg27 sizeOf27 F rfl rfl (K1.v H.sm) rfl rfl fun a F=>vD 4 rfl (by kernel_rfl) (by kernel_rfl) (by kernel_rfl) (oJ F rfl (fun w l=>xM F rfl) fun a F=>xE H 1 rfl (by kernel_rfl) (nTo (V:=zC 2 xG) F rfl call7 rfl H (xG.m i1 (H.a (e1 h2))) (fun h=>toTemplate_any _ _ _ _ h.r h.m (toq_some c3)) fun a w v3 H F=>xJ ?_))));refine⟨⟨_,H⟩,?_⟩;refine xE H 3 rfl (by kernel_rfl) (nTo (V:=zC 2 xI) F rfl call8 rfl H (xI.m i2 (H.a (e1 h3))) (fun h=>toInstance_any _ _ _ _ h.r h.m (toq_some c4)) fun a w v4 H F=>xJ ⟨⟨_,H⟩,?_⟩);refine xE H 5 rfl (by kernel_rfl) ?_;obtain⟨w2,rfl⟩:∃ x,x=w:=⟨_,rfl⟩;have sm2:=H.sm;obtain⟨X2,N64,g2,e2,H,th2,ab2⟩:=(H.s [1,0] rfl rfl).mg.fza;have h4:=g2.l.od;have h5:=g2.r.od;refine oG F rfl call6 rfl (spec_SolveByClass_c z5 c5 _ H.hN (H.u h4) (H.u h5) hx2) (fun a vv w ⟨v5,hv1,S,i3⟩ F=>?_);subst vv;have H:=H.r1 S n1;refine xJ ⟨⟨_,(th2.2.1 H (Ns.all trivial))⟩,?_⟩;refine vD 6 rfl (by kernel_rfl) (by kernel_rfl) (by kernel_rfl) (oJ F rfl (fun w l=>xM F rfl) fun a F=>vD 7 rfl (by kernel_rfl) (by kernel_rfl) (by kernel_rfl) (oJ F rfl (fun w l=>r_extract F rfl rfl) fun a F=>vD 8 rfl (by kernel_rfl) (by kernel_rfl) (by kernel_rfl) (oJ F rfl (fun w l=>r_extract F rfl rfl) fun a F=>vD 9 rfl (by kernel_rfl) (by kernel_rfl) (by kernel_rfl) (oJ F rfl (fun w l=>kL F rfl) fun a F=>vD 10 rfl (by kernel_rfl) (by kernel_rfl) (by kernel_rfl) (oJ F rfl (fun w l=>kL F rfl) fun a F=>b_end (by kernel_rfl) ?_)))));refine xF (xP (oBA isAgg24 sizeOf24 F rfl rfl ((K2.lf e2).o H.sm) rfl rfl fun a F=>nTo (V:=zC 2 xG) F rfl call7 rfl H (xG.m i1 (H.a (e2 (e1 h2)))) (fun h=>toTemplate_any _ _ _ _ h.r h.m (toq_some c3)) fun a w v6 H F=>oA zeroValue35 F rfl rfl H (fun a w b3 H F=>?_)));obtain⟨v7,rfl,i4,h6⟩:=xG.o (H.o 1 rfl);refine oWA (vs:=[.int .i64 ((Template.mk x0.size x0.rels).size),v7]) sizeOf35 F rfl rfl rfl H (oc rfl (oc h6.one on)) rfl rfl fun w H=>qU (oBA isAgg27 sizeOf27 F rfl rfl ((K1.lf e2).o H.sm) rfl rfl fun a F=>nTo (V:=zC 2 xI) F rfl call8 rfl H (xI.m i2 (H.a (e2 (e1 h3)))) (fun h=>toInstance_any _ _ _ _ h.r h.m (toq_some c4)) fun a w v8 H F=>oA zeroValue39 F rfl rfl H (fun a w b4 H F=>?_));obtain⟨v9,rfl,i5,h7⟩:=xI.o (H.o 1 rfl);refine oWA (vs:=[.int .i64 ((Instance.mk x1.vars x1.cons).vars),v9]) sizeOf39 F rfl rfl rfl H (oc rfl (oc h7.one on)) rfl rfl fun w H=>qU (oBA isAgg35 sizeOf35 F rfl rfl (H.b 2 rfl) rfl rfl fun a F=>oBA isAgg39 sizeOf39 F rfl rfl (H.b 0 rfl) rfl rfl fun a F=>xA 1 F rfl fun a F=>?_);obtain⟨z6,c6,hR⟩:=xB hR;refine oG F rfl call9 rfl (impl_SolveByClass_c z6 c6 _ aA (H.o 3 rfl) (H.o 1 rfl) hx2) (fun a vv w ⟨v10,hv2,S,i6⟩ F=>?_)
 subst vv;have H:=H.r1 S n0;refine xA 5 F rfl fun a F=>xJ (xC (xC ?_));obtain⟨o1,hR,hk1⟩:=xK hR;refine xW (fun a w=>∃ (s1:Bool),o1= .nx s1∧Sk a 124 [(2,.int .i64 x2),(3,.pointer (some ⟨b1,0,none⟩)),(4,.pointer (some ⟨b2,0,none⟩)),(8,v5),(9,.int .i64 z5.2),(10,.pointer (some ⟨b3,0,none⟩)),(11,.pointer (some ⟨b4,0,none⟩)),(12,v10),(13,.int .i64 z6.2),(57,.bool s1)]∧Sep X2 N64 w2 w [rl 1 xH 2 v10 z6.1,bx b4 [.int .i64 ((Instance.mk x1.vars x1.cons).vars),v9] 39,ow (V:=(zC 2 xI)) (.agg #[.int .i64 ((Instance.mk x1.vars x1.cons).vars),v9]) (Instance.mk x1.vars x1.cons),bx b3 [.int .i64 ((Template.mk x0.size x0.rels).size),v7] 35,ow (V:=(zC 2 xG)) (.agg #[.int .i64 ((Template.mk x0.size x0.rels).size),v7]) (Template.mk x0.size x0.rels),ro N64 (V:=(Sl 1 xH)) v5 z5.1]) ?_ ?_
 ·
  refine xR (xA 2 F rfl fun a F=>?_);obtain⟨z7,c7,hR⟩:=xB hR;refine nEq (V:=Sl 1 xH) F rfl call10 rfl H (H.l 0 rfl) (H.ro 5 rfl) c7 (fun h g=>eqInt64S_any _ _ _ _ _ _ h.r g.r h.m g.m) fun a w H F=>xA 2 F rfl fun a F=>?_
  rcases vG (!z7) with hb3 | hb3
  ·
   replace hR:=vS hb3 hR;have F:=F.eq (t:=53) rfl (congrArg Value.bool hb3);refine xA 4 F rfl fun a F=>xJ ?_;exact⟨true,(Option.some.inj hR).symm,F.su,H⟩
  replace hR:=vR hb3 hR;have F:=F.eq (t:=53) rfl (congrArg Value.bool hb3);refine xA 4 F rfl fun a F=>xJ ?_;exact⟨(z6.2 != z5.2),(Option.some.inj hR).symm,F.su,H⟩
 intro a w ⟨s1,ho1,F,H⟩;subst ho1;have hR:=xN hk1;refine xF (qT F rfl (fun hb4=>?_) (fun hb4=>?_))
 ·
  replace hR:=vS hb4 hR;refine xP (xA 1 F rfl fun a F=>xJ (xT (oE ?_)));have H:=(th1.1 (th2.1 (H.s [0,1,2,3,4] rfl rfl) (Ns.all ⟨n0,⟨n0,⟨n0,⟨n0,⟨n0,trivial⟩⟩⟩⟩⟩)).um (Ns.all ⟨n0,⟨n0,⟨n0,⟨n0,⟨n0,⟨n0,⟨n0,trivial⟩⟩⟩⟩⟩⟩⟩)).um;refine xO F rfl (oD F rfl) ?_;obtain rfl:=Option.some.inj hR;exact⟨rfl,H.bl⟩
 replace hR:=vR hb4 hR;refine xL (xF (xC (xC ?_)));obtain⟨z8,c8,hR⟩:=xB hR;obtain⟨w3,rfl⟩:∃ x,x=w:=⟨_,rfl⟩;have sm3:=H.sm;obtain⟨X3,N2,g3,e3,H,th3,ab3⟩:=(H.s [3,0,1,2,4,5] rfl rfl).fza;have K3:=g3.bk;refine xD H (by kernel_rfl) fun w H=>kO 0 (by kernel_rfl) rfl (by kernel_rfl) (by kernel_rfl) (by kernel_rfl) (by kernel_rfl) (vBA isAgg35 sizeOf35 F rfl rfl (K3.v H.sm) rfl rfl fun a F=>kO 1 (by kernel_rfl) rfl (by kernel_rfl) (by kernel_rfl) (by kernel_rfl) (by kernel_rfl) (vBA isAgg24 sizeOf24 F rfl rfl (((K2.lf e2).lf e3).v H.sm) rfl rfl fun a F=>xE H 2 rfl (by kernel_rfl) (nTo (V:=zC 2 xG) F rfl call7 rfl H (xG.m i1 (H.a (e3 (e2 (e1 h2))))) (fun h=>toTemplate_any _ _ _ _ h.r h.m (toq_some c3)) fun a w v11 H F=>xJ ⟨⟨_,H⟩,?_⟩)));refine xE H 3 rfl (by kernel_rfl) (nEq (V:=zC 2 xG) F rfl call11 rfl H (H.o 4 rfl) (H.o 0 rfl) c8 (fun h g=>eqTemplate_any _ _ _ _ _ _ h.r g.r h.m g.m) fun a w H F=>xJ ⟨⟨_,H⟩,?_⟩);refine vD 4 rfl (by kernel_rfl) (by kernel_rfl) (by kernel_rfl) (oJ F rfl (fun w l=>r_not F rfl) fun a F=>b_end (by kernel_rfl) (xF (qT F rfl (fun hb5=>?_) (fun hb5=>?_))))
 ·
  replace hR:=vS hb5 hR;refine xP (xA 1 F rfl fun a F=>xJ (xT (oE ?_)));have H:=(th1.1 (th2.1 ((th3.1 H (Ns.all ⟨n0,⟨n0,⟨n0,⟨n0,⟨n0,⟨n1,trivial⟩⟩⟩⟩⟩⟩)).s [0,1,2,3,4,5] rfl rfl) (Ns.all ⟨n0,⟨n0,⟨n0,⟨n0,⟨n0,⟨n0,trivial⟩⟩⟩⟩⟩⟩)).um (Ns.all ⟨n0,⟨n0,⟨n0,⟨n0,⟨n0,⟨n0,⟨n0,⟨n0,trivial⟩⟩⟩⟩⟩⟩⟩⟩)).um;refine xO F rfl (oD F rfl) ?_;obtain rfl:=Option.some.inj hR;exact⟨rfl,H.bl⟩
 replace hR:=vR hb5 hR;refine xL (xF (xC (xC ?_)));obtain⟨z9,c9,hR⟩:=xB hR;obtain⟨w4,rfl⟩:∃ x,x=w:=⟨_,rfl⟩;have sm4:=H.sm;obtain⟨X4,N3,g4,e4,H,th4,ab4⟩:=(H.s [2,0,1,3,4,5] rfl rfl).fza;have K4:=g4.bk;refine xD H (by kernel_rfl) fun w H=>kO 0 (by kernel_rfl) rfl (by kernel_rfl) (by kernel_rfl) (by kernel_rfl) (by kernel_rfl) (vBA isAgg39 sizeOf39 F rfl rfl (K4.v H.sm) rfl rfl fun a F=>kO 1 (by kernel_rfl) rfl (by kernel_rfl) (by kernel_rfl) (by kernel_rfl) (by kernel_rfl) (vBA isAgg27 sizeOf27 F rfl rfl ((((K1.lf e2).lf e3).lf e4).v H.sm) rfl rfl fun a F=>xE H 2 rfl (by kernel_rfl) (nTo (V:=zC 2 xI) F rfl call8 rfl H (xI.m i2 (H.a (e4 (e3 (e2 (e1 h3)))))) (fun h=>toInstance_any _ _ _ _ h.r h.m (toq_some c4)) fun a w v13 H F=>xJ ⟨⟨_,H⟩,?_⟩)));refine xE H 3 rfl (by kernel_rfl) (nEq (V:=zC 2 xI) F rfl call12 rfl H (H.o 3 rfl) (H.o 0 rfl) c9 (fun h g=>eqInstance_any _ _ _ _ _ _ h.r g.r h.m g.m) fun a w H F=>xJ ⟨⟨_,H⟩,?_⟩);refine vD 4 rfl (by kernel_rfl) (by kernel_rfl) (by kernel_rfl) (oJ F rfl (fun w l=>r_not F rfl) fun a F=>b_end (by kernel_rfl) (xF (qT F rfl (fun hb6=>?_) (fun hb6=>?_))))
 ·
  replace hR:=vS hb6 hR;refine xP (xA 1 F rfl fun a F=>xJ (xT (oE ?_)));have H:=(th1.1 (th2.1 ((th3.1 (th4.1 H (Ns.all ⟨n0,⟨n0,⟨n0,⟨n0,⟨n0,⟨(fun c h=>(th3.2.2 c h)),trivial⟩⟩⟩⟩⟩⟩)) (Ns.all ⟨n0,⟨n0,⟨n0,⟨n0,⟨n0,⟨n0,⟨n1,trivial⟩⟩⟩⟩⟩⟩⟩)).s [0,1,2,3,4,5,6] rfl rfl) (Ns.all ⟨n0,⟨n0,⟨n0,⟨n0,⟨n0,⟨n0,⟨n0,trivial⟩⟩⟩⟩⟩⟩⟩)).um (Ns.all ⟨n0,⟨n0,⟨n0,⟨n0,⟨n0,⟨n0,⟨n0,⟨n0,⟨n0,trivial⟩⟩⟩⟩⟩⟩⟩⟩⟩)).um;refine xO F rfl (oD F rfl) ?_;obtain rfl:=Option.some.inj hR;exact⟨rfl,H.bl⟩
 replace hR:=vR hb6 hR;refine xL (xF (xP (xA 1 F rfl fun a F=>qU (oBA isAgg35 sizeOf35 F rfl rfl ((K3.lf e4).o H.sm) rfl rfl fun a F=>xA 1 F rfl fun a F=>?_))));obtain⟨z10,c10,hR⟩:=xB hR;refine nMk (V:=zC 2 xG) (x':=((Template.mk x0.size x0.rels).mkv 1)) F rfl call13 rfl (H.s [4,0,1,2,3,5] rfl rfl) c10 (fun h o h0 h1=>markTemplate_any _ _ _ _ _ _ h.r o h0 h1) fun a w H iz3 F=>xA 1 F rfl fun a F=>qU (oBA isAgg39 sizeOf39 F rfl rfl (K4.o H.sm) rfl rfl fun a F=>xA 1 F rfl fun a F=>?_);obtain⟨z11,c11,hR⟩:=xB hR;refine nMk (V:=zC 2 xI) (x':=((Instance.mk x1.vars x1.cons).mkv z10)) F rfl call14 rfl (H.s [4,0,1,2,3,5] rfl rfl) c11 (fun h o h0 h1=>markInstance_any _ _ _ _ _ _ h.r o h0 h1) fun a w H iz4 F=>xA 1 F rfl fun a F=>xJ (xC (xC ?_));obtain⟨o2,hR,hk2⟩:=xK hR;refine xW (fun a w=>∃ (s2:Bool),o2= .nx s2∧Sk a 124 [(2,.int .i64 x2),(3,.pointer (some ⟨b1,0,none⟩)),(4,.pointer (some ⟨b2,0,none⟩)),(8,v5),(9,.int .i64 z5.2),(12,v10),(86,.bool s2)]∧Sep X4 N3 w4 w [rl 1 xH 2 v10 z6.1,ro N64 (V:=(Sl 1 xH)) v5 z5.1]) ?_ ?_
 ·
  refine xR (xA 3 F rfl fun a F=>?_)
  rcases vG (decide (z11<0)) with hb7 | hb7
  ·
   replace hR:=vS hb7 hR;have F:=F.eq (t:=76) rfl (congrArg Value.bool hb7);refine xA 10 F rfl fun a F=>qD ?_;refine xF ?_;exact⟨true,(Option.some.inj hR).symm,F.su,(H.s [4,5] rfl rfl)⟩
  replace hR:=vR hb7 hR;have F:=F.eq (t:=76) rfl (congrArg Value.bool hb7);refine xA 2 F rfl fun a F=>?_;obtain⟨z12,c12,hR⟩:=xB hR;refine nEq (V:=Sl 1 xH) F rfl call10 rfl H (H.l 4 rfl) (H.ro 5 rfl) c12 (fun h g=>eqInt64S_any _ _ _ _ _ _ h.r g.r h.m g.m) fun a w H F=>xA 3 F rfl fun a F=>?_
  rcases vG (!z12) with hb8 | hb8
  ·
   replace hR:=vS hb8 hR;have F:=F.eq (t:=82) rfl (congrArg Value.bool hb8);refine xA 4 F rfl fun a F=>xJ ?_;exact⟨true,(Option.some.inj hR).symm,F.su,(H.s [4,5] rfl rfl)⟩
  replace hR:=vR hb8 hR;have F:=F.eq (t:=82) rfl (congrArg Value.bool hb8);refine xA 4 F rfl fun a F=>xJ ?_;exact⟨(z6.2 != z5.2),(Option.some.inj hR).symm,F.su,(H.s [4,5] rfl rfl)⟩
 intro a w ⟨s2,ho2,F,H⟩;subst ho2;have hR:=xN hk2;refine xF (qT F rfl (fun hb9=>?_) (fun hb9=>?_))
 ·
  replace hR:=vS hb9 hR;refine xP (xA 1 F rfl fun a F=>xJ (xT (oE ?_)));have H:=(th1.1 (th2.1 ((th3.1 (th4.1 H (Ns.all ⟨n0,⟨(fun c h=>(th3.2.2 c h)),trivial⟩⟩)) (Ns.all ⟨n0,⟨n0,⟨n1,trivial⟩⟩⟩)).s [0,1,2] rfl rfl) (Ns.all ⟨n0,⟨n0,⟨n0,trivial⟩⟩⟩)).um (Ns.all ⟨n0,⟨n0,⟨n0,⟨n0,⟨n0,trivial⟩⟩⟩⟩⟩)).um;refine xO F rfl (oD F rfl) ?_;obtain rfl:=Option.some.inj hR;exact⟨rfl,H.bl⟩
 replace hR:=vR hb9 hR;refine xL (xF (xP (xA 1 F rfl fun a F=>qU (xA 2 F rfl fun a F=>?_))));have H:=H.os;obtain⟨z13,c13,hR⟩:=xB hR;refine nMk (V:=Sl 1 xH) (x':=(mkS mkI cI z6.1 1)) F rfl call15 rfl H c13 (fun h o h0 h1=>markInt64S_any _ _ _ _ _ _ h.r o h0 h1) fun a w H iz5 F=>xA 1 F rfl fun a F=>qU (xA 1 F rfl fun a F=>qU ?_);refine xA 2 F rfl fun a F=>nHl (V:=Sl 1 xH) F rfl call16 rfl H (H.o 0 rfl) c13 (fun h h0 h1=>heldInt64S_any _ _ _ _ _ h.r h.m h0 h1) fun a w H iz5 F=>xA 1 F rfl fun a F=>xJ (xC (xP (xA 2 F rfl fun a F=>?_)));refine xJ (qT F rfl (fun hb10=>?_) (fun hb10=>?_))
 ·
  replace hR:=vS hb10 hR;refine xP (xA 1 F rfl fun a F=>xJ (xT (oE ?_)));have H:=(th1.1 (th2.1 ((th3.1 (th4.1 H (Ns.all ⟨n0,⟨(fun c h=>(th3.2.2 c h)),trivial⟩⟩)) (Ns.all ⟨n0,⟨n0,⟨n1,trivial⟩⟩⟩)).s [0,1,2] rfl rfl) (Ns.all ⟨n0,⟨n0,⟨n0,trivial⟩⟩⟩)).um (Ns.all ⟨n0,⟨n0,⟨n0,⟨n0,⟨n0,trivial⟩⟩⟩⟩⟩)).um;refine xO F rfl (oD F rfl) ?_;obtain rfl:=Option.some.inj hR;exact⟨rfl,H.bl⟩
 replace hR:=vR hb10 hR;refine xL (xF (xC (xP (xA 3 F rfl fun a F=>xJ (qT F rfl (fun hb11=>?_) (fun hb11=>?_))))))
 ·
  replace hR:=vS hb11 hR;refine xP (xA 1 F rfl fun a F=>xJ (xT (oE ?_)));have H:=(th1.1 (th2.1 ((th3.1 (th4.1 H (Ns.all ⟨n0,⟨(fun c h=>(th3.2.2 c h)),trivial⟩⟩)) (Ns.all ⟨n0,⟨n0,⟨n1,trivial⟩⟩⟩)).s [0,1,2] rfl rfl) (Ns.all ⟨n0,⟨n0,⟨n0,trivial⟩⟩⟩)).um (Ns.all ⟨n0,⟨n0,⟨n0,⟨n0,⟨n0,trivial⟩⟩⟩⟩⟩)).um;refine xO F rfl (oD F rfl) ?_;obtain rfl:=Option.some.inj hR;exact⟨rfl,H.bl⟩
 replace hR:=vR hb11 hR;refine xL (xF (xC (xD H (by kernel_rfl) fun w H=>kO 0 (by kernel_rfl) rfl (by kernel_rfl) (by kernel_rfl) (by kernel_rfl) (by kernel_rfl) (vBA isAgg24 sizeOf24 F rfl rfl ((((K2.lf e2).lf e3).lf e4).v H.sm) rfl rfl fun a F=>kO 2 (by kernel_rfl) rfl (by kernel_rfl) (by kernel_rfl) (by kernel_rfl) (by kernel_rfl) (vBA isAgg27 sizeOf27 F rfl rfl ((((K1.lf e2).lf e3).lf e4).v H.sm) rfl rfl fun a F=>vD 4 rfl (by kernel_rfl) (by kernel_rfl) (by kernel_rfl) (oJ F rfl (fun w l=>xM F rfl) fun a F=>xE H 1 rfl (by kernel_rfl) ?_))))));refine nTo (V:=zC 2 xG) F rfl call7 rfl H (xG.m i1 (H.a (e4 (e3 (e2 (e1 h2)))))) (fun h=>toTemplate_any _ _ _ _ h.r h.m (toq_some c3)) fun a w v14 H F=>xJ ⟨⟨_,H⟩,?_⟩;refine xE H 3 rfl (by kernel_rfl) (nTo (V:=zC 2 xI) F rfl call8 rfl H (xI.m i2 (H.a (e4 (e3 (e2 (e1 h3)))))) (fun h=>toInstance_any _ _ _ _ h.r h.m (toq_some c4)) fun a w v15 H F=>xJ ⟨⟨_,H⟩,?_⟩);refine xE H 5 rfl (by kernel_rfl) (oG F rfl call9 rfl (impl_SolveByClass_c z6 c6 _ aA (H.o 1 rfl) (H.o 0 rfl) hx2) (fun a vv w ⟨v17,hv3,S,i7⟩ F=>?_));subst vv;have H:=H.r1 S n0;refine xJ ⟨⟨_,H⟩,?_⟩;refine vD 6 rfl (by kernel_rfl) (by kernel_rfl) (by kernel_rfl) (oJ F rfl (fun w l=>xM F rfl) fun a F=>vD 7 rfl (by kernel_rfl) (by kernel_rfl) (by kernel_rfl) (oJ F rfl (fun w l=>r_extract F rfl rfl) fun a F=>vD 8 rfl (by kernel_rfl) (by kernel_rfl) (by kernel_rfl) (oJ F rfl (fun w l=>r_extract F rfl rfl) fun a F=>vD 9 rfl (by kernel_rfl) (by kernel_rfl) (by kernel_rfl) (oJ F rfl (fun w l=>kL F rfl) fun a F=>vD 10 rfl (by kernel_rfl) (by kernel_rfl) (by kernel_rfl) (oJ F rfl (fun w l=>kL F rfl) fun a F=>b_end (by kernel_rfl) ?_)))));refine xF (xC (xC ?_));obtain⟨o3,hR,hk3⟩:=xK hR;refine xW (fun a w=>∃ (s3:Bool),o3= .nx s3∧Sk a 124 [(12,v10),(15,.int .i64 z13),(115,.bool s3)]∧Sep X4 N3 w4 w [ow (V:=(Sl 1 xH)) v10 (mkS mkI cI z6.1 1)]) ?_ ?_
 ·
  refine xR (xA 2 F rfl fun a F=>?_);obtain⟨z14,c14,hR⟩:=xB hR;refine nEq (V:=Sl 1 xH) F rfl call10 rfl H (H.l 0 rfl) (H.ro 4 rfl) c14 (fun h g=>eqInt64S_any _ _ _ _ _ _ h.r g.r h.m g.m) fun a w H F=>xA 2 F rfl fun a F=>?_
  rcases vG (!z14) with hb12 | hb12
  ·
   replace hR:=vS hb12 hR;have F:=F.eq (t:=111) rfl (congrArg Value.bool hb12);refine xA 4 F rfl fun a F=>xJ ?_;exact⟨true,(Option.some.inj hR).symm,F.su,(H.s [3] rfl rfl)⟩
  replace hR:=vR hb12 hR;have F:=F.eq (t:=111) rfl (congrArg Value.bool hb12);refine xA 4 F rfl fun a F=>xJ ?_;exact⟨(z6.2 != z5.2),(Option.some.inj hR).symm,F.su,(H.s [3] rfl rfl)⟩
 intro a w ⟨s3,ho3,F,H⟩;subst ho3;have hR:=xN hk3;refine xF (qT F rfl (fun hb13=>?_) (fun hb13=>?_))
 ·
  replace hR:=vS hb13 hR;refine xP (xA 1 F rfl fun a F=>xJ (xT (oE ?_)));have H:=(th1.1 (th2.1 (th3.1 (th4.1 H (Ns.all ⟨n0,trivial⟩)) (Ns.all ⟨n0,⟨n0,trivial⟩⟩)) (Ns.all ⟨n0,⟨n0,⟨n0,trivial⟩⟩⟩)).um (Ns.all ⟨n0,⟨n0,⟨n0,⟨n0,⟨n0,trivial⟩⟩⟩⟩⟩)).um;refine xO F rfl (oD F rfl) ?_;obtain rfl:=Option.some.inj hR;exact⟨rfl,H.bl⟩
 replace hR:=vR hb13 hR;refine xL (xF (xP (xA 1 F rfl fun a F=>qU (xA 2 F rfl fun a F=>?_))));refine nHl (V:=Sl 1 xH) F rfl call16 rfl H (H.o 0 rfl) c13 (fun h h0 h1=>heldInt64S_any _ _ _ _ _ h.r h.m h0 h1) fun a w H iz5 F=>xA 1 F rfl fun a F=>xJ (xC (xP (xA 2 F rfl fun a F=>xJ ?_)));refine qT F rfl (fun hb14=>?_) (fun hb14=>?_)
 ·
  replace hR:=vS hb14 hR;refine xP (xA 1 F rfl fun a F=>xJ (xT (oE ?_)));have H:=(th1.1 (th2.1 (th3.1 (th4.1 H (Ns.all ⟨n0,trivial⟩)) (Ns.all ⟨n0,⟨n0,trivial⟩⟩)) (Ns.all ⟨n0,⟨n0,⟨n0,trivial⟩⟩⟩)).um (Ns.all ⟨n0,⟨n0,⟨n0,⟨n0,⟨n0,trivial⟩⟩⟩⟩⟩)).um;refine xO F rfl (oD F rfl) ?_;obtain rfl:=Option.some.inj hR;exact⟨rfl,H.bl⟩
 replace hR:=vR hb14 hR;refine xL (xF (xC (xP (xA 3 F rfl fun a F=>xJ (qT F rfl (fun hb15=>?_) (fun hb15=>?_))))))
 ·
  replace hR:=vS hb15 hR;refine xP (xA 1 F rfl fun a F=>xJ (xT (oE ?_)));have H:=(th1.1 (th2.1 (th3.1 (th4.1 H (Ns.all ⟨n0,trivial⟩)) (Ns.all ⟨n0,⟨n0,trivial⟩⟩)) (Ns.all ⟨n0,⟨n0,⟨n0,trivial⟩⟩⟩)).um (Ns.all ⟨n0,⟨n0,⟨n0,⟨n0,⟨n0,trivial⟩⟩⟩⟩⟩)).um;refine xO F rfl (oD F rfl) ?_;obtain rfl:=Option.some.inj hR;exact⟨rfl,H.bl⟩
 replace hR:=vR hb15 hR;refine xL (xF (xP (xA 1 F rfl fun a F=>xJ (xT ?_))));have H:=(th1.1 (th2.1 (th3.1 (th4.1 H (Ns.all ⟨n0,trivial⟩)) (Ns.all ⟨n0,⟨n0,trivial⟩⟩)) (Ns.all ⟨n0,⟨n0,⟨n0,trivial⟩⟩⟩)).um (Ns.all ⟨n0,⟨n0,⟨n0,⟨n0,⟨n0,trivial⟩⟩⟩⟩⟩)).um;refine xO F rfl (oD F rfl) ?_;obtain rfl:=Option.some.inj hR;exact⟨rfl,H.bl⟩
end
end Go.Proofs.YticojbhjloeckaaGreat
