import Derived.Test.YtgnfibiaaipibaaGreatQ1
import Derived.Test.YtgnfibiaaipibaaGreatDR
namespace Go.Proofs.YtgnfibiaaipibaaGreat
open Go.Proofs.Tryz
set_option maxHeartbeats 1000000
set_option linter.unusedVariables false
set_option linter.unusedSimpArgs false
set_option maxRecDepth 100000
open Go.RowKit
def zY (N:Nat) (i:List Int) (n:Int→Option Bool):Option (List Int):=
 xY (qW i n) fun j=>
 if (j==(-1)) then
  some i
 else
  xY (ck (j+1)) fun x=>
  vT (σ:=Int×Int×(List Int)) (
   cF (σ:=Int×Int×(List Int)) (ρ:=(List Int)) (fun(s:Int×Int×(List Int))=>
     match s with
     | (d,e,c)=>
     if (decide (e<(c.length:Int))) then
      xY (ix c e) fun p=>
      xY (n p) fun y=>
      if (!y) then
       xY (ix c d) fun C=>
       xY (ck (d+1)) fun z=>
       xY (ck (e+1)) fun A=>
       some (.go (z,A,(c.set (d).toNat p)))
      else
       xY (ck (e+1)) fun B=>
       some (.go (d,B,c))
     else
      some (.brk (d,e,c))) N (j,x,i)) fun(f,D,h)=>
  xY (sl h f (h.length:Int)) fun E=>
  xY (sl (h.take (f).toNat++List.replicate (h.length - (f).toNat) 0) 0 f) fun t=>
  some t
theorem iO {B:Nat→Prop} {N:Nat} {I:List Int} {R:Int→Option Bool} (r:(List Int)) (d:zY N I R=some r) {p:Value} {i:FuncId} {y:List Value} {z:List Nat} (e:World) (hN:∀ c,B c→c<e.heap.size) (S0:Sep z B e e [rl 1 xH 2 p I]) (O:∀ args w,(callFunc i args).run Tryz.prog w= .ok (.enter i args) w) (P:∀ (t:Int) (r:Bool),R t=some r→∀ W,Sm B e W→xZ t→Calls Tryz.prog i ([xG t]++y:List Value).toArray W (zO (.bool r) W)):Calls Tryz.prog 155 #[p,.func (.func i) #[] y.toArray] e (Gv (fun v w'=>∃ (Q:Value),v=Q∧Sep z B e w' [rl 1 xH 2 Q r])):=by
 unfold zY at d
 refine xV (L:=[(0,p),(1,.func (.func i) #[] y.toArray)]) func155 rfl rfl rfl (sc rfl (sc rfl sn)) (fun a F=>?_);have H:=S0;refine xP (xA 1 F rfl fun a F=>qO (xA 2 F rfl fun a F=>?_));obtain⟨S,c1,d⟩:=xB d;refine oKI F rfl call101 rfl H (aS S c1 _ aA (H.l 0 rfl) O (fun t r h W l1=>P t r h W (H.go l1).sm)) fun a w H a4 F=>xA 1 F rfl fun a F=>xJ (xC (xP (xA 2 F rfl fun a F=>xJ ?_)));refine qP F rfl (fun C=>?_) (fun C=>?_)
 ·
  replace d:=vR C d;refine xP (xA 2 F rfl fun a F=>xJ (xT (oE (xS F rfl (oD F rfl) ?_))));obtain rfl:=oj d;exact⟨_,rfl,p,rfl,H⟩
 replace d:=vQ C d;refine xL (xF (xC (xP (xA 1 F rfl fun a F=>?_))));obtain⟨z2,T,d⟩:=xB d;refine kI F rfl rfl rfl T fun a F=>xA 1 F rfl fun a F=>xJ ?_;obtain⟨U,d,a5⟩:=xK d;refine xX (fun a w=>∃ (A J:Int) (K:List Int) (M:Value),U= .nx (A,J,K)∧Sk a 42 [(0,M),(5,xG A)]∧Sep z B e w [rl 1 xH 2 M K]∧xZ A∧xZ J) ?_ ?_
 ·
  refine xW ?_;obtain⟨a6,a7,d⟩:=kU d;refine oU (fun g a w=>∃ (f x:Int) (j:List Int) (n:Value),cF a6 g (f,x,j)=some U∧Sk a 42 [(0,n),(1,.func (.func i) #[] y.toArray),(5,xG f),(6,xG x)]∧Sep z B e w [rl 1 xH 2 n j]∧xZ f∧xZ x) N ?_ ?_
  ·
   exact⟨S,z2,I,p,d,F.su,H,a4,(kG T)⟩
  intro g2 a w ⟨f,x,j,n,d,F,H,V,i2⟩;obtain⟨aq,X,ar,d,D⟩:=zK d;rw[a7] at d;refine xC (xP (xA 2 F rfl fun a F=>oL underlying25 F rfl rfl (H.l 0 rfl) fun a i3 F=>xA 1 F rfl fun a F=>xJ (qP F rfl (fun E=>?_) (fun E=>?_))))
  ·
   replace d:=vR E d;refine xL (xF (xC (xW (xP (xA 2 F rfl fun a F=>?_)))));obtain⟨z3,c3,d⟩:=xB d;refine oI underlying25 sizeOf2 F rfl rfl rfl (H.l 0 rfl) c3 fun a p1 h1 F=>aN isAgg2 F rfl rfl (Sm.refl _ _) h1 fun a Y F=>xA 1 F rfl fun a F=>qO (xA 2 F rfl fun a F=>?_);obtain⟨z4,c4,d⟩:=xB d;refine oKV F rfl rfl O rfl H (P _ z4 c4 _ H.sm Y) fun a w H F=>xA 1 F rfl fun a F=>xJ (qP F rfl (fun G=>?_) (fun G=>?_))
   ·
    replace d:=vR G d;refine xP (xA 3 F rfl fun a F=>?_);obtain⟨z5,Z,d⟩:=xB d;refine oRl underlying25 sizeOf2 F rfl rfl rfl H 0 rfl Z (fun a p2 h2 a8 F=>?_);have H:=H.lw;refine oS sizeOf2 F rfl rfl rfl H a8 (ix_lt Z) (Eo.int Y) rfl rfl (fun w H=>?_);have H:=H.tl;refine xJ (xU (xA 1 F rfl fun a F=>?_));obtain⟨z6,c6,d⟩:=xB d;refine kI F rfl rfl rfl c6 fun a F=>xA 1 F rfl fun a F=>oY (qS (xF (xU (xA 1 F rfl fun a F=>?_))));obtain⟨z7,c7,d⟩:=xB d;refine kI F rfl rfl rfl c7 fun a F=>xA 1 F rfl fun a F=>xJ ?_;replace d:=qX d D;exact⟨X,(by omega),z6,z7,(j.set (f).toNat z3),n,d,F.su,H,(kG c6),(kG c7)⟩
   replace d:=vQ G d;refine xL (qS (xF (xU (xA 1 F rfl fun a F=>?_))));obtain⟨z8,c8,d⟩:=xB d;refine kI F rfl rfl rfl c8 fun a F=>xA 1 F rfl fun a F=>xJ ?_;replace d:=qX d D;exact⟨X,(by omega),f,z8,j,n,d,F.su,H,V,(kG c8)⟩
  replace d:=vQ E d;refine oM (oR (oR ?_));replace d:=eL d D;refine vH (xF ?_);exact⟨f,x,j,n,(vE d),F.su,H,V,i2⟩
 rintro a w ⟨A,J,K,M,rfl,F,H,i5,i6⟩
 have d:=xN a5;refine xF (xP (xA 2 F rfl fun a F=>?_));obtain⟨z9,c9,d⟩:=xB d;refine oRtl underlying25 sizeOf2 F rfl rfl rfl H 0 rfl c9 fun a p3 a3 F=>oRcl underlying25 zeroValue2 F rfl rfl H a3 fun w H=>qO (xA 2 F rfl fun a F=>?_);obtain⟨au,a9,d⟩:=xB d;refine oT underlying25 sizeOf2 F rfl rfl rfl H.lw a9 (fun a v3 H F=>?_);have H:=H.tl;refine xA 1 F rfl fun a F=>xJ (xT (xS F rfl (oD F rfl) ?_));obtain rfl:=oj d;exact⟨_,rfl,v3,rfl,H⟩
def dT (N:Nat) (c:List Int) (d:Int):Option (List Int):=
 xY (vS c) fun e=>
 xY (zY N e (fun f=>iT f d)) fun h=>
 some h
theorem impl_without_c {B:Nat→Prop} {N:Nat} {p:List Int} {e:Int} (r:(List Int)) (d:dT N p e=some r) {i:Value} (f:World) (E:∀ c,B c→c<f.heap.size) (G:Bo B f (Sl 1 xH) i p) (A:xZ e):Calls Tryz.prog 130 #[i,xG e] f (Gv (fun v w'=>∃ (n:Value),v=n∧Sep [] B f w' [rl 1 xH 2 n r])):=by
 unfold dT at d
 refine xV (L:=[(0,i),(1,xG e)]) func130 rfl rfl rfl (sc rfl (sc rfl sn)) (fun a F=>?_);have H:=Sep.start E;refine xP (oX F rfl rfl rfl H fun a w b1 H F=>xA 1 F rfl fun a F=>qO (xA 1 F rfl fun a F=>?_));obtain⟨t,I,d⟩:=xB d;refine oG F rfl call83 rfl (kH t I _ aA (H.a G)) (fun a j w ⟨J,V,S⟩ F=>?_);subst j;have H:=H.r1 S n0;refine iW F rfl rfl rfl (fun a F=>?_);obtain⟨M,rfl⟩:∃ x,x=w:=⟨_,rfl⟩;have X:=H.sm;obtain⟨O,P,Q,e1,H,C,Y⟩:=(H.s [1,0] rfl rfl).fza;have K1:=Q.bk;obtain⟨y,R,d⟩:=xB d;obtain⟨X2,T,D⟩:=Sep.lend (K:=[rl 1 xH 2 J t]) (L:=[]) H;refine oG F rfl call155 rfl (iO y R _ H.hN T call156 (fun a0 r h W U f0=>impl_without_1_c r h W aA f0 (Bo.all (Bo.to (c1I (K1.to H.sm) A) U)))) (fun a j w ⟨z,Z,S⟩ F=>?_);subst j;have H:Sep O P M w [rl 1 xH 2 z y]:=D S;refine xA 1 F rfl fun a F=>xJ (xT ?_);have H:=(C.1 H (Ns.all ⟨n0,trivial⟩));refine xS F rfl (oD F rfl) ?_;obtain rfl:=oj d;exact⟨_,rfl,z,rfl,(H.s [1] rfl rfl)⟩
def fJ (N:Nat) (i:Template) (L:Instance) (M:List (List Int)) (O:Option Bool):Option ((List ArcStep)×(List (List Int))):=
 vT (σ:=(List ArcStep)×Bool×(List (List Int))) (
  cF (σ:=(List ArcStep)×Bool×(List (List Int))) (ρ:=(List ArcStep)×(List (List Int))) (fun(s:(List ArcStep)×Bool×(List (List Int)))=>
    match s with
    | (j,n,p)=>
    if n then
     vT (σ:=(List ArcStep)×Bool×(List (List Int))) (
      qJ (σ:=(List ArcStep)×Bool×(List (List Int))) (ρ:=(Ctl ((List ArcStep)×Bool×(List (List Int))) ((List ArcStep)×(List (List Int))))) (fun (P:Nat) (e:Con) (s:(List ArcStep)×Bool×(List (List Int)))=>
        match s with
        | (Q,R,S)=>
        vT (σ:=(List ArcStep)×Bool×(List (List Int))) (
         qJ (σ:=(List ArcStep)×Bool×(List (List Int))) (ρ:=(Ctl ((List ArcStep)×Bool×(List (List Int))) (Ctl ((List ArcStep)×Bool×(List (List Int))) ((List ArcStep)×(List (List Int)))))) (fun (T:Nat) (d:Int) (s:(List ArcStep)×Bool×(List (List Int)))=>
           match s with
           | (U,V,t)=>
           xY (ix t d) fun W=>
           xY (vS W) fun X=>
           vT (σ:=(List ArcStep)×Bool×(List (List Int))) (
            qJ (σ:=(List ArcStep)×Bool×(List (List Int))) (ρ:=(Ctl ((List ArcStep)×Bool×(List (List Int))) (Ctl ((List ArcStep)×Bool×(List (List Int))) (Ctl ((List ArcStep)×Bool×(List (List Int))) ((List ArcStep)×(List (List Int))))))) (fun (k3:Nat) (f:Int) (s:(List ArcStep)×Bool×(List (List Int)))=>
              match s with
              | (h,z,c)=>
              xY (aZ (Template.mk i.size i.rels) (Con.mk e.rel e.scope) c (T:Int) f) fun Y=>
              if Y then
               some (.go (h,z,c))
              else
               xY (ix c d) fun Z=>
               xY (dT N Z f) fun x=>
               xY (ap h ([(ArcStep.mk d f (P:Int))])) fun y=>
               xY (O) fun z7=>
               if z7 then
                some (.ret (.ret (.ret (.ret (y,(c.set (d).toNat x))))))
               else
                some (.go (y,true,(c.set (d).toNat x)))) X 0 (U,V,t)) fun(A,B,C)=>
           some (.go (A,B,C))) e.scope 0 (Q,R,S)) fun(D,E,F)=>
        some (.go (D,E,F))) L.cons 0 (j,false,p)) fun(G,H,I)=>
     some (.go (G,H,I))
    else
     some (.brk (j,n,p))) N ([],true,M)) fun(J,a1,K)=>
 some (J,K)
theorem impl_makeArcs_c {B:Nat→Prop} {N:Nat} {J:Template} {h:Instance} {x2:List (List Int)} {x3:Option Bool} (r:(List ArcStep)×(List (List Int))) (d:fJ N J h x2 x3=some r) {v0:Value} {v1:Value} {f:Value} {A:FuncId} {D:List Value} {I:List Nat} (i:World) (hN:∀ c,B c→c<i.heap.size) (S0:Sep I B i i [rw N0 1 (vO 1 xH) 25 f x2]) (A0:Bo B i (zX 2 xI) v0 J) (A1:Bo B i (zX 2 xO) v1 h) (hg3:∀ args w,(callFunc A args).run Tryz.prog w= .ok (.enter A args) w) (hp3:∀ (r:Bool),x3=some r→∀ W,Sm B i W→Calls Tryz.prog A ([]++D:List Value).toArray W (zO (.bool r) W)):Calls Tryz.prog 96 #[v0,v1,f,.func (.func A) #[] D.toArray] i (Gv (fun v w'=>∃ (bc:Value),v=bc∧Sep I B i w' [rl 3 qR 178 bc r.1,rw N0 1 (vO 1 xH) 25 f r.2])):=by
 unfold fJ at d
 refine xV (L:=[(0,v0),(1,v1),(2,f),(3,.func (.func A) #[] D.toArray)]) func96 rfl rfl rfl (sc rfl (sc rfl (sc rfl (sc rfl sn)))) (fun a F=>?_);have H:=S0;refine xP ?_;obtain⟨P,rfl,i1,h1⟩:=xI.o A0;refine oX F rfl rfl rfl H (fun a w j H F=>?_);obtain⟨t,rfl,i2,h2⟩:=xO.o A1;refine oX F rfl rfl rfl H fun a w n H F=>xA 1 F rfl fun a F=>qO (oR0 (R:=qR) underlying136 sizeOf178 F rfl H fun a w v4 H F=>xA 1 F rfl fun a F=>xJ (xC ?_));refine xP (xA 1 F rfl fun a F=>xJ ?_);obtain⟨o1,d,bd⟩:=xK d;refine xX (fun a w=>∃ (s1:List ArcStep) (v5:Value) (s2:Bool) (s3:List (List Int)),o1= .nx (s1,s2,s3)∧Sk a 74 [(2,f),(9,v5)]∧Sep I B i w [rl 3 qR 178 v5 s1,rw N0 1 (vO 1 xH) 25 f s3]) ?_ ?_
 ·
  refine xW ?_;obtain⟨fl1,hf1,d⟩:=kU d;refine oU (fun g a w=>∃ (s4:List ArcStep) (v6:Value) (s5:Bool) (s6:List (List Int)),cF fl1 g (s4,s5,s6)=some o1∧Sk a 74 [(2,f),(3,.func (.func A) #[] D.toArray),(4,vK j),(5,vK n),(9,v6),(10,.bool s5)]∧Sep I B i w [rl 3 qR 178 v6 s4,bx n [xG h.vars,t] 35,bx j [xG J.size,P] 31,rw N0 1 (vO 1 xH) 25 f s6]) N ?_ ?_
  ·
   exact⟨[],v4,true,x2,d,F.su,H⟩
  intro g1 a w ⟨s4,v6,s5,s6,d,F,H⟩;obtain⟨dk,t1,dl,d,av⟩:=zK d;rw[hf1] at d;refine xC (xP (xA 1 F rfl fun a F=>xJ (qP F rfl (fun aw=>?_) (fun aw=>?_))))
  ·
   replace d:=vR aw d;refine xL (xF (xW (xP (xA 1 F rfl fun a F=>qO (oH bU F rfl rfl rfl (fun a F=>?_))))));refine oB isAgg33 F rfl rfl (H.b 1 rfl) rfl fun a F=>oL underlying33 F rfl rfl h2 fun a i3 F=>xA 1 F rfl fun a F=>xJ ?_;obtain⟨o2,d,be⟩:=xK d;refine xX (fun a w=>∃ (s7:List ArcStep) (v7:Value) (s8:Bool) (s9:List (List Int)),o2= .nx (s7,s8,s9)∧Sk a 74 [(2,f),(3,.func (.func A) #[] D.toArray),(4,vK j),(5,vK n),(9,v7),(10,.bool s8)]∧Sep I B i w [rl 3 qR 178 v7 s7,bx n [xG h.vars,t] 35,bx j [xG J.size,P] 31,rw N0 1 (vO 1 xH) 25 f s9]) ?_ ?_
   ·
    refine xW ?_;obtain⟨c8,c9,d⟩:=qE d;refine oU (fun g a w=>∃ (p:Nat) (Q:List Con) (Z:List ArcStep) (v8:Value) (a0:Bool) (a1:List (List Int)),(p≤h.cons.length∧h.cons.drop p=Q)∧Q.length=g∧qJ c8 Q p (Z,a0,a1)=some o2∧Sk a 74 [(22,xG (p:Int)),(2,f),(3,.func (.func A) #[] D.toArray),(4,vK j),(5,vK n),(9,v8),(10,.bool a0),(20,t),(21,xG (h.cons.length:Int))]∧Sep I B i w [rl 3 qR 178 v8 Z,bx n [xG h.vars,t] 35,bx j [xG J.size,P] 31,rw N0 1 (vO 1 xH) 25 f a1]) h.cons.length ?_ ?_
    ·
     exact⟨0,h.cons,s4,v6,false,s6,⟨Nat.zero_le _,rfl⟩,rfl,d,F.su,H⟩
    intro g2 a w ⟨p,Q,Z,v8,a0,a1,E,ca,d,F,H⟩
    cases Q with
    | nil=>
     replace d:=qH d;have q1:=qG E.1 E.2;have l1:=vA q1;refine xP (xA 1 F rfl fun a F=>xJ (xC (qT F rfl l1 (oM (oR (oR (vH ?_)))))));refine xF ?_;exact⟨Z,v8,a0,a1,(vE d),F.su,H⟩
    | cons C Q=>
     subst ca;replace E:=oO E.2;have y1:=oZ E.2.1;obtain⟨dm,d,bf⟩:=oV d;rw[c9] at d;have l1:=qM E.1;refine xP (xA 1 F rfl fun a F=>xJ (xC (qV F rfl l1 (xL (xF (xC ?_))))));have j1:=fE (Nat.le_of_lt E.1) i3;have m1:=zC E.1 i3;refine xW (xP (xA 1 F rfl fun a F=>oI underlying33 sizeOf119 F rfl rfl rfl h2 y1 fun a p1 h3 F=>olA isAgg119 sizeOf119 F rfl rfl H.sm h3 fun a v9 h4 F=>oA zeroValue119 F rfl rfl H fun a w Y H F=>xA 1 F rfl fun a F=>?_));obtain⟨O,rfl,i4,h5⟩:=vU.o h4;refine oWA (vs:=[xG C.rel,O]) sizeOf119 F rfl rfl rfl H (oc rfl (oc (H.a h5).one on)) rfl rfl fun w H=>qO (oH zV F rfl rfl rfl fun a F=>oB isAgg25 F rfl rfl (H.b 0 rfl) rfl fun a F=>oL underlying25 F rfl rfl h5 fun a i5 F=>xA 1 F rfl fun a F=>xJ ?_);obtain⟨o3,d,bg⟩:=xK d;refine xX (fun a w=>∃ (ad:List ArcStep) (ae:Value) (af:Bool) (ag:List (List Int)),o3= .nx (ad,af,ag)∧Sk a 74 [(2,f),(3,.func (.func A) #[] D.toArray),(4,vK j),(5,vK n),(9,ae),(10,.bool af),(20,t),(21,xG (h.cons.length:Int)),(22,xG (p:Int))]∧Sep I B i w [rl 3 qR 178 ae ad,bx n [xG h.vars,t] 35,bx j [xG J.size,P] 31,rw N0 1 (vO 1 xH) 25 f ag]) ?_ ?_
     ·
      refine xW ?_;obtain⟨cb,cc,d⟩:=qE d;refine oU (fun g a w=>∃ (K:Nat) (T:List Int) (a2:List ArcStep) (a3:Value) (a4:Bool) (a5:List (List Int)),(K≤C.scope.length∧C.scope.drop K=T)∧T.length=g∧qJ cb T K (a2,a4,a5)=some o3∧Sk a 74 [(30,xG (K:Int)),(2,f),(3,.func (.func A) #[] D.toArray),(4,vK j),(5,vK n),(9,a3),(10,.bool a4),(11,xG (p:Int)),(12,vK Y),(20,t),(21,xG (h.cons.length:Int)),(22,xG (p:Int)),(28,O),(29,xG (C.scope.length:Int))]∧Sep I B i w [bx Y [xG C.rel,O] 119,rl 3 qR 178 a3 a2,bx n [xG h.vars,t] 35,bx j [xG J.size,P] 31,rw N0 1 (vO 1 xH) 25 f a5]) C.scope.length ?_ ?_
      ·
       exact⟨0,C.scope,Z,v8,a0,a1,⟨Nat.zero_le _,rfl⟩,rfl,d,F.su,H⟩
      intro g4 a w ⟨K,T,a2,a3,a4,a5,G,cd,d,F,H⟩
      cases T with
      | nil=>
       replace d:=qH d;have q2:=qG G.1 G.2;have l2:=vA q2;refine xP (xA 1 F rfl fun a F=>xJ (xC (qT F rfl l2 (oM (oR (oR (vH ?_)))))));refine xF ?_;exact⟨a2,a3,a4,a5,(vE d),F.su,(H.s [1,2,3,4] rfl rfl)⟩
      | cons x5 T=>
       subst cd;replace G:=oO G.2;have y2:=oZ G.2.1;obtain⟨dq,d,bh⟩:=oV d;rw[cc] at d;have l2:=qM G.1;refine xP (xA 1 F rfl fun a F=>xJ (xC (qV F rfl l2 (xL (xF (xC ?_))))));have j2:=fE (Nat.le_of_lt G.1) i5;have m2:=zC G.1 i5;refine xW (xP (xA 1 F rfl fun a F=>oI underlying25 sizeOf2 F rfl rfl rfl h5 y2 fun a p2 h6 F=>aN isAgg2 F rfl rfl H.sm h6 fun a i6 F=>xA 2 F rfl fun a F=>xJ (xC ?_)));refine xU (xA 2 F rfl fun a F=>?_);obtain⟨z1,c1,d⟩:=xB d;refine oI underlying45 sizeOf25 F rfl rfl rfl (H.r 4 rfl) c1 fun a p3 h7 F=>aY isAgg25 F rfl rfl (Sm.refl _ _) h7 (fun a dr h8 F=>?_);obtain⟨U,c2,d⟩:=xB d;refine oG F rfl call83 rfl (kH U c2 _ aA h8) (fun a vv w ⟨bi,ds,S⟩ F=>?_);subst vv;have H:=H.r1 S n0;refine oL underlying25 F rfl rfl (H.l 0 rfl) fun a i7 F=>xA 1 F rfl fun a F=>xJ ?_;obtain⟨o4,d,bj⟩:=xK d;refine xX (fun a w=>∃ (ah:List ArcStep) (ai:Value) (aj:Bool) (ak:List (List Int)),o4= .nx (ah,aj,ak)∧Sk a 74 [(2,f),(3,.func (.func A) #[] D.toArray),(4,vK j),(5,vK n),(9,ai),(10,.bool aj),(11,xG (p:Int)),(12,vK Y),(20,t),(21,xG (h.cons.length:Int)),(22,xG (p:Int)),(28,O),(29,xG (C.scope.length:Int)),(30,xG (K:Int))]∧Sep I B i w [bx Y [xG C.rel,O] 119,rl 3 qR 178 ai ah,bx n [xG h.vars,t] 35,bx j [xG J.size,P] 31,rw N0 1 (vO 1 xH) 25 f ak]) ?_ ?_
       ·
        refine xW ?_;obtain⟨ce,cf,d⟩:=qE d;refine oU (fun g a w=>∃ (V:Nat) (M:List Int) (a6:List ArcStep) (a7:Value) (a8:Bool) (X:List (List Int)),(V≤U.length∧U.drop V=M)∧M.length=g∧qJ ce M V (a6,a8,X)=some o4∧Sk a 74 [(41,xG (V:Int)),(2,f),(3,.func (.func A) #[] D.toArray),(4,vK j),(5,vK n),(9,a7),(10,.bool a8),(11,xG (p:Int)),(12,vK Y),(13,xG (K:Int)),(14,xG x5),(20,t),(21,xG (h.cons.length:Int)),(22,xG (p:Int)),(28,O),(29,xG (C.scope.length:Int)),(30,xG (K:Int)),(39,bi),(40,xG (U.length:Int))]∧Sep I B i w [rl 1 xH 2 bi U,bx Y [xG C.rel,O] 119,rl 3 qR 178 a7 a6,bx n [xG h.vars,t] 35,bx j [xG J.size,P] 31,rw N0 1 (vO 1 xH) 25 f X]) U.length ?_ ?_
        ·
         exact⟨0,U,a2,a3,a4,a5,⟨Nat.zero_le _,rfl⟩,rfl,d,F.su,H⟩
        intro g5 a w ⟨V,M,a6,a7,a8,X,x,cg,d,F,H⟩
        cases M with
        | nil=>
         replace d:=qH d;have q3:=qG x.1 x.2;have l3:=vA q3;refine xP (xA 1 F rfl fun a F=>xJ (xC (qT F rfl l3 (oM (oR (oR (vH ?_)))))));refine xF ?_;exact⟨a6,a7,a8,X,(vE d),F.su,(H.s [1,2,3,4,5] rfl rfl)⟩
        | cons x6 M=>
         subst cg;replace x:=oO x.2;have y3:=oZ x.2.1;obtain⟨du,d,ax⟩:=oV d;rw[cf] at d;have l3:=qM x.1;refine xP (xA 1 F rfl fun a F=>xJ (xC (qV F rfl l3 (xL (xF (xC ?_))))));have j3:=fE (Nat.le_of_lt x.1) i7;have m3:=zC x.1 i7;refine xW (xP (oI underlying25 sizeOf2 F rfl rfl rfl (H.l 0 rfl) y3 fun a p4 h9 F=>aN isAgg2 F rfl rfl (Sm.refl _ _) h9 fun a i8 F=>xA 1 F rfl fun a F=>xJ (xC (xP ?_))));refine fU isAgg31 sizeOf31 F rfl rfl (H.b 4 rfl) rfl rfl fun a F=>fU isAgg119 sizeOf119 F rfl rfl (H.b 1 rfl) rfl rfl fun a F=>xA 3 F rfl fun a F=>?_;obtain⟨z3,c3,d⟩:=xB d;refine oK F rfl call129 rfl H (impl_hasSupport_c z3 c3 _ aA (xI.m i1 (H.a h1)) (vU.m i4 (H.a h5)) (H.r 5 rfl) j2 i8) fun a w H F=>xJ (qP F rfl (fun ay=>?_) (fun ay=>?_))
         ·
          replace d:=vR ay d;refine oM (oR (vH (xF (xU (qQ F rfl rfl rfl m3 fun a F=>xA 1 F rfl fun a F=>xJ ?_)))));replace d:=qX d ax;exact⟨_,Nat.lt_succ_self _,V+1,M,a6,a7,a8,X,⟨x.1,x.2.2⟩,rfl,d,F.su,H⟩
         replace d:=vQ ay d;refine xL (xF (xP (xA 4 F rfl fun a F=>?_)));obtain⟨z4,c4,d⟩:=xB d;refine oI underlying45 sizeOf25 F rfl rfl rfl (H.r 5 rfl) c4 fun a p5 ch F=>aY isAgg25 F rfl rfl (Sm.refl _ _) ch fun a dw ci F=>xA 1 F rfl fun a F=>?_;obtain⟨z5,c5,d⟩:=xB d;refine oG F rfl call130 rfl (impl_without_c z5 c5 _ aA ci i8) (fun a vv w ⟨dx,dy,S⟩ F=>?_);subst vv;have H:=H.r1 S n0;refine oRi underlying45 sizeOf25 F rfl rfl rfl H 6 rfl c4 fun a p6 dz cj F=>oSc sizeOf25 F rfl rfl rfl (H.s [6,0,1,2,3,4,5] rfl rfl) cj (ix_lt c4) n0 (fun e q=>(Eo.sl q.ld)) ((H.s [6,0,1,2,3,4,5] rfl rfl).l 1 rfl).one rfl fun w H=>qO (xA 4 F rfl fun a F=>kV underlying178 zeroValue178 (fun w=>by simp [sizeOf2];rfl) F rfl rfl rfl rfl rfl (oc rfl (oc rfl (oc rfl on))) rfl rfl (fun a F=>?_));refine oR1z (R:=qR) (y:=(ArcStep.mk x5 x6 (p:Int))) underlying136 sizeOf178 zeroValue178 rfl rfl F rfl rfl H (Eo.agg (qR.m i6 i8 j1)) (fun a w e0 H F=>?_);obtain⟨z6,c6,d⟩:=xB d;refine oPL (sz:=3) (R:=qR) (z:=(.agg #[xG 0,xG 0,xG 0])) (bytes:=24) underlying136 (by kernel_rfl) rfl rfl F rfl rfl rfl (H.s [4,0,1,2,3,5,6] rfl rfl) c6 fun a w bm H F=>xA 1 F rfl fun a F=>qO (xA 1 F rfl fun a F=>qO ?_);refine xA 1 F rfl fun a F=>?_;obtain⟨z7,c7,d⟩:=xB d;refine oKV F rfl rfl hg3 rfl H (hp3  z7 c7 _ H.sm ) fun a w H F=>xJ (qP F rfl (fun az=>?_) (fun az=>?_))
         ·
          replace d:=vR az d;refine xP (xA 2 F rfl fun a F=>xJ (xT (vJ (oE (oE ?_)))));replace d:=zR d ax;refine vJ (oE ?_);replace d:=zQ d bj;refine vJ (oE (oE ?_));replace d:=zR d bh;refine vJ (oE ?_);replace d:=zQ d bg;refine vJ (oE (oE ?_));replace d:=zR d bf;refine vJ (oE ?_);replace d:=zQ d be;refine vJ (oE ?_);replace d:=zR d av;refine vJ (oE ?_);replace d:=zQ d bd;refine oE (xS F rfl (oD F rfl) ?_);obtain rfl:=oj d;exact⟨_,rfl,bm,rfl,(H.s [0,1] rfl rfl)⟩
         replace d:=vQ az d;refine xL (qS (xF (xU (qQ F rfl rfl rfl m3 fun a F=>xA 1 F rfl fun a F=>xJ ?_))));replace d:=qX d ax;exact⟨_,Nat.lt_succ_self _,V+1,M,z6,bm,true,(X.set (x5).toNat z5),⟨x.1,x.2.2⟩,rfl,d,F.su,(H.s [2,3,0,4,5,1] rfl rfl)⟩
       rintro a w ⟨ah,ai,aj,ak,rfl,F,H⟩
       have d:=xN bj;refine qS (xF (xU (qQ F rfl rfl rfl m2 fun a F=>xA 1 F rfl fun a F=>xJ ?_)));replace d:=qX d bh;exact⟨_,Nat.lt_succ_self _,K+1,T,ah,ai,aj,ak,⟨G.1,G.2.2⟩,rfl,d,F.su,H⟩
     rintro a w ⟨ad,ae,af,ag,rfl,F,H⟩
     have d:=xN bg;refine qS (xF (xU (qQ F rfl rfl rfl m1 fun a F=>xA 1 F rfl fun a F=>xJ ?_)));replace d:=qX d bf;exact⟨_,Nat.lt_succ_self _,p+1,Q,ad,ae,af,ag,⟨E.1,E.2.2⟩,rfl,d,F.su,H⟩
   rintro a w ⟨s7,v7,s8,s9,rfl,F,H⟩
   have d:=xN be;refine qS (xF ?_);replace d:=qX d av;exact⟨t1,(by omega),s7,v7,s8,s9,d,F.su,H⟩
  replace d:=vQ aw d;refine oM (oR (oR ?_));replace d:=eL d av;refine vH (xF ?_);exact⟨s4,v6,s5,s6,(vE d),F.su,(H.s [0,3] rfl rfl)⟩
 rintro a w ⟨s1,v5,s2,s3,rfl,F,H⟩
 have d:=xN bd;refine xF (xP (xA 2 F rfl fun a F=>xJ (xT (xS F rfl (oD F rfl) ?_))));obtain rfl:=oj d;exact⟨_,rfl,v5,rfl,H⟩
def eT (N:Nat) (c:Template) (d:Instance) (h:Bool):Option ((List Int)×Bool):=
 xY (cO (Template.mk c.size c.rels) (Instance.mk d.vars d.cons)) fun i=>
 xY (fJ N (Template.mk c.size c.rels) (Instance.mk d.vars d.cons) i iD) fun j=>
 vT (σ:=(List Int)) (
  qJ (σ:=(List Int)) (ρ:=(List Int)×Bool) (fun (A:Nat) (e f:(List Int))=>
   if ((e.length:Int)==0) then
    some (.ret ([],false))
   else
    if h then
     xY (ck ((e.length:Int) - 1)) fun n=>
     xY (ix e n) fun p=>
     xY (ap f ([p])) fun t=>
     some (.go t)
    else
     xY (ix e 0) fun x=>
     xY (ap f ([x])) fun y=>
     some (.go y)) j.2 0 []) fun z=>
 some (z,true)
theorem impl_byArcs_c {B:Nat→Prop} {N:Nat} {p:Template} {t:Instance} {x:Bool} (r:(List Int)×Bool) (d:eT N p t x=some r) {O:Value} {P:Value} (i:World) (hN:∀ c,B c→c<i.heap.size) (A0:Bo B i (zX 2 xI) O p) (A1:Bo B i (zX 2 xO) P t):Calls Tryz.prog 52 #[O,P,.bool x] i (Gv (fun v w'=>∃ (V:Value),v= .tuple #[V,.bool r.2]∧Sep [] B i w' [rl 1 xH 2 V r.1])):=by
 unfold eT at d
 refine xV (L:=[(0,O),(1,P),(2,.bool x)]) func52 rfl rfl rfl (sc rfl (sc rfl (sc rfl sn))) (fun a F=>?_);have H:=Sep.start hN;refine xP ?_;obtain⟨Z,rfl,i1,h1⟩:=xI.o A0;refine oX F rfl rfl rfl H (fun a w b1 H F=>?_);obtain⟨X,rfl,i2,h2⟩:=xO.o A1;refine oX F rfl rfl rfl H fun a w b2 H F=>xA 2 F rfl fun a F=>qO (fU isAgg31 sizeOf31 F rfl rfl (H.b 1 rfl) rfl rfl fun a F=>fU isAgg35 sizeOf35 F rfl rfl (H.b 0 rfl) rfl rfl (fun a F=>?_));obtain⟨z1,c1,d⟩:=xB d;refine oG F rfl call95 rfl (impl_fullDomains_c z1 c1 _ aA (xI.m i1 (H.a h1)) (xO.m i2 (H.a h2))) (fun a Q w ⟨A,b7,S⟩ F=>?_);subst Q;have H:=H.r1 S n0;refine xA 1 F rfl fun a F=>qO (fU isAgg31 sizeOf31 F rfl rfl (H.b 2 rfl) rfl rfl fun a F=>fU isAgg35 sizeOf35 F rfl rfl (H.b 1 rfl) rfl rfl fun a F=>xA 1 F rfl fun a F=>?_);obtain⟨f,c2,d⟩:=xB d;have H:=H.lw;obtain⟨X1,K1,aa⟩:=Sep.lend (K:=[rw N0 1 (vO 1 xH) 25 A z1]) (L:=[bx b2 [xG t.vars,X] 35,bx b1 [xG p.size,Z] 31]) H;refine oG F rfl call96 rfl (impl_makeArcs_c f c2 _ H.hN K1 (xI.m i1 (H.u h1)) (xO.m i2 (H.u h2)) call97 (fun r h W l1=>impl_never_c r h W aA)) (fun a Q w ⟨v4,b6,S⟩ F=>?_);subst Q;have H:Sep [] B i w [rl 3 qR 178 v4 f.1,rw N0 1 (vO 1 xH) 25 A f.2,bx b2 [xG t.vars,X] 35,bx b1 [xG p.size,Z] 31]:=aa S;refine qO (oR0 (R:=xH) underlying25 sizeOf2 F rfl H fun a w v5 H F=>xA 1 F rfl fun a F=>xJ (xC (xP ?_)));refine xA 1 F rfl fun a F=>oL underlying45 F rfl rfl (H.r 2 rfl) fun a i3 F=>xA 1 F rfl fun a F=>xJ ?_;obtain⟨o1,d,Y⟩:=xK d;refine xX (fun a w=>∃ (T:List Int) (C:Value),o1= .nx T∧Sk a 49 [(9,C)]∧Sep [] B i w [rl 1 xH 2 C T]) ?_ ?_
 ·
  refine xW ?_;obtain⟨ab,ac,d⟩:=qE d;refine oU (fun g a w=>∃ (n:Nat) (j:List (List Int)) (D:List Int) (E:Value),(n≤f.2.length∧f.2.drop n=j)∧j.length=g∧qJ ab j n D=some o1∧Sk a 49 [(22,xG (n:Int)),(2,.bool x),(9,E),(20,A),(21,xG (f.2.length:Int))]∧Sep [] B i w [rl 1 xH 2 E D,rw N0 1 (vO 1 xH) 25 A f.2]) f.2.length ?_ ?_
  ·
   exact⟨0,f.2,[],v5,⟨Nat.zero_le _,rfl⟩,rfl,d,F.su,(H.s [0,2] rfl rfl)⟩
  intro g1 a w ⟨n,j,D,E,e,ad,d,F,H⟩
  cases j with
  | nil=>
   replace d:=qH d;have q1:=qG e.1 e.2;have U:=vA q1;refine xP (xA 1 F rfl fun a F=>xJ (xC (qT F rfl U (oM (oR (oR (vH ?_)))))));refine xF ?_;exact⟨D,E,(vE d),F.su,(H.s [0] rfl rfl)⟩
  | cons x3 j=>
   subst ad;replace e:=oO e.2;have y1:=oZ e.2.1;obtain⟨b8,d,I⟩:=oV d;rw[ac] at d;have U:=qM e.1;refine xP (xA 1 F rfl fun a F=>xJ (xC (qV F rfl U (xL (xF (xC ?_))))));have j1:=fE (Nat.le_of_lt e.1) i3;have m1:=zC e.1 i3;refine xW (xP (oI underlying45 sizeOf25 F rfl rfl rfl (H.r 1 rfl) y1 fun a p1 h3 F=>aY isAgg25 F rfl rfl (Sm.refl _ _) h3 fun a v8 G F=>xA 1 F rfl fun a F=>xJ (xW (xP ?_))));refine xA 1 F rfl fun a F=>oL underlying25 F rfl rfl G fun a i4 F=>xA 2 F rfl fun a F=>xJ (qP F rfl (fun J=>?_) (fun J=>?_))
   ·
    replace d:=vR J d;refine xP (xA 2 F rfl fun a F=>xJ (xT (vJ (vJ (oE (oE ?_))))));replace d:=zR d I;refine vJ (oE ?_);replace d:=zQ d Y;refine oE (vV F rfl (oD F rfl) (oD F rfl) ?_);obtain rfl:=oj d;exact⟨_,rfl,aE,rfl,((H.nl 1 xH 2).s [0] rfl rfl)⟩
   replace d:=vQ J d;refine xP (xA 2 F rfl fun a F=>xJ (qP F rfl (fun M=>?_) (fun M=>?_)))
   ·
    replace d:=vR M d;refine xU (xA 3 F rfl fun a F=>oL underlying25 F rfl rfl G (fun a i5 F=>?_));obtain⟨z3,c3,d⟩:=xB d;refine iS F rfl rfl rfl c3 (fun a F=>?_);obtain⟨z4,c4,d⟩:=xB d;refine oI underlying25 sizeOf2 F rfl rfl rfl G c4 fun a p2 h5 F=>aN isAgg2 F rfl rfl (Sm.refl _ _) h5 fun a i6 F=>oR1z (R:=xH) (y:=z4) underlying25 sizeOf2 zeroValue2 rfl rfl F rfl rfl H (Eo.int i6) (fun a w v9 H F=>?_);obtain⟨z5,c5,d⟩:=xB d;refine oPL (sz:=1) (R:=xH) (z:=(xG 0)) (bytes:=8) underlying25 (by kernel_rfl) rfl rfl F rfl rfl rfl (H.s [1,0,2] rfl rfl) c5 fun a w ae H F=>xA 1 F rfl fun a F=>oY (qS (qS (xF (xU (qQ F rfl rfl rfl m1 fun a F=>xA 1 F rfl fun a F=>xJ ?_)))));replace d:=qX d I;exact⟨_,Nat.lt_succ_self _,n+1,j,z5,ae,⟨e.1,e.2.2⟩,rfl,d,F.su,H⟩
   replace d:=vQ M d;refine xU (xA 2 F rfl fun a F=>?_);obtain⟨z6,c6,d⟩:=xB d;refine oI underlying25 sizeOf2 F rfl rfl rfl G c6 fun a p3 h6 F=>aN isAgg2 F rfl rfl (Sm.refl _ _) h6 fun a i7 F=>oR1z (R:=xH) (y:=z6) underlying25 sizeOf2 zeroValue2 rfl rfl F rfl rfl H (Eo.int i7) (fun a w b9 H F=>?_);obtain⟨z7,c7,d⟩:=xB d;refine oPL (sz:=1) (R:=xH) (z:=(xG 0)) (bytes:=8) underlying25 (by kernel_rfl) rfl rfl F rfl rfl rfl (H.s [1,0,2] rfl rfl) c7 fun a w af H F=>xA 1 F rfl fun a F=>oY (qS (qS (xF (xU (qQ F rfl rfl rfl m1 fun a F=>xA 1 F rfl fun a F=>xJ ?_)))));replace d:=qX d I;exact⟨_,Nat.lt_succ_self _,n+1,j,z7,af,⟨e.1,e.2.2⟩,rfl,d,F.su,H⟩
 rintro a w ⟨T,C,rfl,F,H⟩
 have d:=xN Y;refine xF (xP (xA 3 F rfl fun a F=>xJ (xT (vV F rfl (oD F rfl) (oD F rfl) ?_))));obtain rfl:=oj d;exact⟨_,rfl,C,rfl,H⟩
def bZ (N:Nat) (c:Template) (e:Instance) (d:Int):Option ((List Int)×Int):=
 xY (kX (Template.mk c.size c.rels) (Instance.mk e.vars e.cons)) fun p=>
 if (!p) then
  some ([],1)
 else
  xY (kZ (Template.mk c.size c.rels) d) fun h=>
  if (h != 0) then
   some ([],h)
  else
   vT (σ:=Bool) (
    xY (cI d) fun i=>
    xY (dL N (Template.mk c.size c.rels) (Op.mk i.arity i.table)) fun t=>
    if (!t) then  some (.nx true) else  if (decide (d≤2)) then  xY (zE c.rels (fun x=>gK x)) fun y=>
      some (.nx y) else  some (.nx false)) fun z=>
   if z then
    some ([],4)
   else
    vT (σ:=(List Int)×Bool) (
     vT (σ:=Bool) (
      if (d==1) then
       some (.nx (d==1))
      else
       some (.nx (d==2))) fun A=>
     if A then
      xY (ck (d - 1)) fun B=>
      xY (zU ([B]) e.vars) fun C=>
      some (.nx (C,true))
     else
      vT (σ:=Bool) (
       if (d==3) then
        some (.nx (d==3))
       else
        some (.nx (d==4))) fun D=>
      if D then
       xY (eT N (Template.mk c.size c.rels) (Instance.mk e.vars e.cons) (d==4)) fun j=>
       some (.nx (j.1,j.2))
      else
       if (d==5) then
        xY (fD N (Template.mk c.size c.rels) (Instance.mk e.vars e.cons)) fun n=>
        some (.nx (n.1,n.2))
       else
        xY (bO N (Template.mk c.size c.rels) (Instance.mk e.vars e.cons)) fun f=>
        some (.nx (f.1,f.2))) fun(E,F)=>
    if (!F) then
     some ([],6)
    else
     some (E,0)
theorem impl_SolveByClass_c {B:Nat→Prop} {N:Nat} {C:Template} {D:Instance} {e:Int} (r:(List Int)×Int) (d:bZ N C D e=some r) {v0:Value} {v1:Value} (i:World) (hN:∀ c,B c→c<i.heap.size) (A0:Bo B i (zX 2 xI) v0 C) (A1:Bo B i (zX 2 xO) v1 D) (G:xZ e):Calls Tryz.prog 18 #[v0,v1,xG e] i (Gv (fun v w'=>∃ (ae:Value),v= .tuple #[ae,xG r.2]∧Sep [] B i w' [rl 1 xH 2 ae r.1]∧xZ r.2)):=by
 unfold bZ at d
 refine xV (L:=[(0,v0),(1,v1),(2,xG e)]) func18 rfl rfl rfl (sc rfl (sc rfl (sc rfl sn))) (fun a F=>?_);have H:=Sep.start hN;refine xP ?_;obtain⟨v2,rfl,n,j⟩:=xI.o A0;refine oX F rfl rfl rfl H (fun a w t H F=>?_);obtain⟨P,rfl,E,I⟩:=xO.o A1;refine oX F rfl rfl rfl H fun a w z H F=>xA 2 F rfl fun a F=>xJ (xC (xP (fU isAgg31 sizeOf31 F rfl rfl (H.b 1 rfl) rfl rfl fun a F=>fU isAgg35 sizeOf35 F rfl rfl (H.b 0 rfl) rfl rfl (fun a F=>?_))));obtain⟨z1,c1,d⟩:=xB d;refine oK F rfl call48 rfl H (impl_ValidInstance_c z1 c1 _ aA (xI.m n (H.a j)) (xO.m E (H.a I))) fun a w H F=>xA 1 F rfl fun a F=>xJ (qP F rfl (fun Q=>?_) (fun Q=>?_))
 ·
  replace d:=vR Q d;refine xP (xA 2 F rfl fun a F=>xJ (xT (oE (vV F rfl (oD F rfl) (oD F rfl) ?_))));obtain rfl:=oj d;exact⟨_,rfl,aE,rfl,((H.nl 1 xH 2).s [0] rfl rfl),(show xZ (1) by decide)⟩
 replace d:=vQ Q d;refine xL (xF (xC (xP (fU isAgg31 sizeOf31 F rfl rfl (H.b 1 rfl) rfl rfl fun a F=>xA 1 F rfl fun a F=>?_))));obtain⟨z2,c2,d⟩:=xB d;refine oKI F rfl call33 rfl H (fV z2 c2 _ aA (xI.m n (H.a j)) G) fun a w H ak F=>xA 1 F rfl fun a F=>qO (xA 2 F rfl fun a F=>xJ (qP F rfl (fun T=>?_) (fun T=>?_)))
 ·
  replace d:=vR T d;refine xP (xA 3 F rfl fun a F=>xJ (xT (oE (vV F rfl (oD F rfl) (oD F rfl) ?_))));obtain rfl:=oj d;exact⟨_,rfl,aE,rfl,((H.nl 1 xH 2).s [0] rfl rfl),ak⟩
 replace d:=vQ T d;refine xL (xF (xC (xC ?_)));obtain⟨o1,d,al⟩:=xK d;refine xX (fun a w=>∃ (s1:Bool),o1= .nx s1∧Sk a 73 [(2,xG e),(3,vK t),(4,vK z),(34,.bool s1)]∧Sep [] B i w [bx z [xG D.vars,P] 35,bx t [xG C.size,v2] 31]) ?_ ?_
 ·
  obtain⟨z3,c3,d⟩:=xB d;obtain⟨J,c4,d⟩:=xB d
  rcases qU (!J) with p | p
  ·
   replace d:=vR p d;obtain⟨w1,rfl⟩:∃ x,x=w:=⟨_,rfl⟩;have bt:=H.sm;obtain⟨X1,N1,g1,e1,H,am,bu⟩:=(H.s [1,0] rfl rfl).fza;have K1:=g1.bk;refine xD H (by kernel_rfl) fun w H=>qY 0 rfl (by kernel_rfl) (vBA isAgg31 sizeOf31 F rfl rfl (K1.v H.sm) rfl rfl fun a F=>vM 1 rfl (by kernel_rfl) (oJ F rfl (fun w l=>xM F rfl) fun a F=>xE H 2 rfl (by kernel_rfl) (oG F rfl call36 rfl (cU z3 c3 _ aA G) (fun a f w ⟨v3,bv,S,i3⟩ F=>?_))));subst f;have H:=H.r1 S n0;refine xJ ⟨⟨_,H⟩,?_⟩;refine xE H 3 rfl (by kernel_rfl) (oK F rfl call35 rfl H (gW J c4 _ aA (xI.m n (H.a (e1 j))) (cS.m i3 (H.l 0 rfl))) fun a w H F=>xJ ⟨⟨_,H⟩,?_⟩);refine vM 4 rfl (by kernel_rfl) (oJ F rfl (fun w l=>fW F rfl) (fun a F=>?_));have F:=F.eb 25 rfl p;refine vM 5 rfl (by kernel_rfl) (oJ F rfl (fun w l=>xM F rfl) fun a F=>vM 6 rfl (by kernel_rfl) (v_no F rfl rfl fun a F=>vM 7 rfl (by kernel_rfl) (v_no F rfl rfl fun a F=>vM 8 rfl (by kernel_rfl) (v_no F rfl rfl fun a F=>qY 9 rfl (by kernel_rfl) (v_no F rfl rfl fun a F=>qY 10 rfl (by kernel_rfl) ?_)))));refine v_no F rfl rfl fun a F=>qY 11 rfl (by kernel_rfl) (v_no F rfl rfl fun a F=>qY 12 rfl (by kernel_rfl) (v_no F rfl rfl fun a F=>qY 13 rfl (by kernel_rfl) (oJ F rfl (fun w l=>aU F rfl rfl) fun a F=>bF (by kernel_rfl) (xF ?_))));exact⟨true,(vE d),F.su,((am.1 (H.s [1] rfl rfl) (Ns.all ⟨n0,trivial⟩)).s [1,0] rfl rfl)⟩
  replace d:=vQ p d
  rcases qU (decide (e≤2)) with A | A
  ·
   replace d:=vR A d;obtain⟨z5,c5,d⟩:=xB d;obtain⟨w2,rfl⟩:∃ x,x=w:=⟨_,rfl⟩;have bw:=H.sm;obtain⟨X2,N2,g2,e2,H,an,c0⟩:=(H.s [1,0] rfl rfl).fza;have K2:=g2.bk;refine xD H (by kernel_rfl) fun w H=>qY 0 rfl (by kernel_rfl) (vBA isAgg31 sizeOf31 F rfl rfl (K2.v H.sm) rfl rfl fun a F=>vM 1 rfl (by kernel_rfl) (oJ F rfl (fun w l=>xM F rfl) fun a F=>xE H 2 rfl (by kernel_rfl) (oG F rfl call36 rfl (cU z3 c3 _ aA G) (fun a f w ⟨v4,hv2,S,i4⟩ F=>?_))));subst f;have H:=H.r1 S n0;refine xJ ⟨⟨_,H⟩,?_⟩;refine xE H 3 rfl (by kernel_rfl) (oK F rfl call35 rfl H (gW J c4 _ aA (xI.m n (H.a (e2 j))) (cS.m i4 (H.l 0 rfl))) fun a w H F=>xJ ⟨⟨_,H⟩,?_⟩);refine vM 4 rfl (by kernel_rfl) (oJ F rfl (fun w l=>fW F rfl) (fun a F=>?_));have F:=F.eb 25 rfl p;refine vM 5 rfl (by kernel_rfl) (oJ F rfl (fun w l=>xM F rfl) fun a F=>vM 6 rfl (by kernel_rfl) (oJ F rfl (fun w l=>xM F rfl) fun a F=>vM 7 rfl (by kernel_rfl) (oJ F rfl (fun w l=>r_leq F rfl rfl) (fun a F=>?_))));have F:=F.eb 28 rfl A;refine vM 8 rfl (by kernel_rfl) (oJ F rfl (fun w l=>xM F rfl) fun a F=>qY 9 rfl (by kernel_rfl) (oJ F rfl (fun w l=>vG kR F rfl rfl) fun a F=>qY 10 rfl (by kernel_rfl) (vB isAgg29 F rfl rfl (K2.v H.sm) rfl fun a F=>xE H 11 rfl (by kernel_rfl) (oK F rfl call49 rfl H (bE z5 c5 _ aA (H.a (e2 j)) call50 (fun a0 r h W l1 u0 f0=>impl_hasNone_c r h W aA f0)) fun a w H F=>xJ ⟨⟨_,H⟩,?_⟩))));refine qY 12 rfl (by kernel_rfl) (oJ F rfl (fun w l=>aU F rfl rfl) fun a F=>qY 13 rfl (by kernel_rfl) (oJ F rfl (fun w l=>aF F rfl rfl) fun a F=>bF (by kernel_rfl) (xF ?_)));exact⟨z5,(vE d),F.su,((an.1 (H.s [1] rfl rfl) (Ns.all ⟨n0,trivial⟩)).s [1,0] rfl rfl)⟩
  replace d:=vQ A d;obtain⟨w3,rfl⟩:∃ x,x=w:=⟨_,rfl⟩;have sm3:=H.sm;obtain⟨X3,N3,g3,e3,H,ao,ab3⟩:=(H.s [1,0] rfl rfl).fza;have K3:=g3.bk;refine xD H (by kernel_rfl) fun w H=>qY 0 rfl (by kernel_rfl) (vBA isAgg31 sizeOf31 F rfl rfl (K3.v H.sm) rfl rfl fun a F=>vM 1 rfl (by kernel_rfl) (oJ F rfl (fun w l=>xM F rfl) fun a F=>xE H 2 rfl (by kernel_rfl) (oG F rfl call36 rfl (cU z3 c3 _ aA G) (fun a f w ⟨v5,hv3,S,i5⟩ F=>?_))));subst f;have H:=H.r1 S n0;refine xJ ⟨⟨_,H⟩,?_⟩;refine xE H 3 rfl (by kernel_rfl) (oK F rfl call35 rfl H (gW J c4 _ aA (xI.m n (H.a (e3 j))) (cS.m i5 (H.l 0 rfl))) fun a w H F=>xJ ⟨⟨_,H⟩,?_⟩);refine vM 4 rfl (by kernel_rfl) (oJ F rfl (fun w l=>fW F rfl) (fun a F=>?_));have F:=F.eb 25 rfl p;refine vM 5 rfl (by kernel_rfl) (oJ F rfl (fun w l=>xM F rfl) fun a F=>vM 6 rfl (by kernel_rfl) (oJ F rfl (fun w l=>xM F rfl) fun a F=>vM 7 rfl (by kernel_rfl) (oJ F rfl (fun w l=>r_leq F rfl rfl) (fun a F=>?_))));have F:=F.eb 28 rfl A;refine vM 8 rfl (by kernel_rfl) (oJ F rfl (fun w l=>xM F rfl) fun a F=>qY 9 rfl (by kernel_rfl) (v_no F rfl rfl fun a F=>qY 10 rfl (by kernel_rfl) (v_no F rfl rfl fun a F=>qY 11 rfl (by kernel_rfl) (v_no F rfl rfl fun a F=>qY 12 rfl (by kernel_rfl) (oJ F rfl (fun w l=>aF F rfl rfl) fun a F=>qY 13 rfl (by kernel_rfl) ?_)))));refine oJ F rfl (fun w l=>aF F rfl rfl) fun a F=>bF (by kernel_rfl) (xF ?_);exact⟨false,(vE d),F.su,((ao.1 (H.s [1] rfl rfl) (Ns.all ⟨n0,trivial⟩)).s [1,0] rfl rfl)⟩
 rintro a w ⟨s1,rfl,F,H⟩
 have d:=xN al;refine xF (qP F rfl (fun U=>?_) (fun U=>?_))
 ·
  replace d:=vR U d;refine xP (xA 2 F rfl fun a F=>xJ (xT (oE (vV F rfl (oD F rfl) (oD F rfl) ?_))));obtain rfl:=oj d;exact⟨_,rfl,aE,rfl,((H.nl 1 xH 2).s [0] rfl rfl),(show xZ (4) by decide)⟩
 replace d:=vQ U d;refine xL (xF (xP (xA 1 F rfl fun a F=>qO (xA 1 F rfl fun a F=>oY ?_))));refine xF (xC (xP (xA 1 F rfl fun a F=>xJ ?_)));obtain⟨o2,d,aq⟩:=xK d;refine xX (fun a w=>∃ (s2:List Int) (K:Value) (s3:Bool),o2= .nx (s2,s3)∧Sk a 73 [(9,K),(10,.bool s3)]∧Sep [] B i w [rl 1 xH 2 K s2]) ?_ ?_
 ·
  refine xW (xC (xP (xA 2 F rfl fun a F=>xJ ?_)));obtain⟨o3,d,ar⟩:=xK d;refine xX (fun a w=>∃ (s4:Bool),o3= .nx s4∧Sk a 73 [(2,xG e),(3,vK t),(4,vK z),(10,.bool true),(35,xG e),(42,.bool s4)]∧Sep [] B i w [bx z [xG D.vars,P] 35,bx t [xG C.size,v2] 31]) ?_ ?_
  ·
   refine qP F rfl (fun V=>?_) (fun V=>?_)
   ·
    replace d:=vR V d;refine xL (xF ?_);exact⟨(e==1),(vE d),F.su,H⟩
   replace d:=vQ V d;refine xU (xA 2 F rfl fun a F=>xJ ?_);exact⟨(e==2),(vE d),F.su,H⟩
  rintro a w ⟨s4,rfl,F,H⟩
  have d:=xN ar;refine xF (qP F rfl (fun X=>?_) (fun X=>?_))
  ·
   replace d:=vR X d;refine xU (xA 1 F rfl fun a F=>?_);obtain⟨z6,c6,d⟩:=xB d;refine iS F rfl rfl rfl c6 fun a F=>oR1z (R:=xH) (y:=z6) underlying25 sizeOf2 zeroValue2 rfl rfl F rfl rfl H (Eo.int (kG c6)) fun a w v7 H F=>oH kD F rfl rfl rfl fun a F=>oB isAgg2 F rfl rfl (H.b 1 rfl) rfl (fun a F=>?_);obtain⟨z7,c7,d⟩:=xB d;refine oG F rfl call51 rfl (slices_Repeat_s_int64_int64_c z7 c7 _ aA (H.l 0 rfl) E) (fun a f w ⟨v8,hv4,S⟩ F=>?_);subst f;have H:=H.r1 S n0;refine xA 1 F rfl fun a F=>oY (qS (xF ?_));exact⟨z7,v8,true,(vE d),F.su,(H.s [0] rfl rfl)⟩
  replace d:=vQ X d;refine xC (xP (xA 2 F rfl fun a F=>xJ ?_));obtain⟨o4,d,au⟩:=xK d;refine xX (fun a w=>∃ (s5:Bool),o4= .nx s5∧Sk a 73 [(2,xG e),(3,vK t),(4,vK z),(35,xG e),(51,.bool s5)]∧Sep [] B i w [bx z [xG D.vars,P] 35,bx t [xG C.size,v2] 31]) ?_ ?_
  ·
   refine qP F rfl (fun Y=>?_) (fun Y=>?_)
   ·
    replace d:=vR Y d;refine xL (xF ?_);exact⟨(e==3),(vE d),F.su,H⟩
   replace d:=vQ Y d;refine xU (xA 2 F rfl fun a F=>xJ ?_);exact⟨(e==4),(vE d),F.su,H⟩
  rintro a w ⟨s5,rfl,F,H⟩
  have d:=xN au;refine xF (qP F rfl (fun Z=>?_) (fun Z=>?_))
  ·
   replace d:=vR Z d;refine xU (fU isAgg31 sizeOf31 F rfl rfl (H.b 1 rfl) rfl rfl fun a F=>fU isAgg35 sizeOf35 F rfl rfl (H.b 0 rfl) rfl rfl fun a F=>xA 2 F rfl fun a F=>?_);obtain⟨z8,c8,d⟩:=xB d;refine oG F rfl call52 rfl (impl_byArcs_c z8 c8 _ aA (xI.m n (H.a j)) (xO.m E (H.a I))) (fun a f w ⟨v9,hv5,S⟩ F=>?_);subst f;have H:=H.r1 S n0;refine xA 5 F rfl fun a F=>oY (qS (xF ?_));exact⟨z8.1,v9,z8.2,(vE d),F.su,(H.s [0] rfl rfl)⟩
  replace d:=vQ Z d;refine xP (xA 2 F rfl fun a F=>xJ (qP F rfl (fun M=>?_) (fun M=>?_)))
  ·
   replace d:=vR M d;refine xU (fU isAgg31 sizeOf31 F rfl rfl (H.b 1 rfl) rfl rfl fun a F=>fU isAgg35 sizeOf35 F rfl rfl (H.b 0 rfl) rfl rfl (fun a F=>?_));obtain⟨z9,c9,d⟩:=xB d;refine oG F rfl call53 rfl (impl_byPairs_c z9 c9 _ aA (xI.m n (H.a j)) (xO.m E (H.a I))) (fun a f w ⟨av,hv6,S⟩ F=>?_);subst f;have H:=H.r1 S n0;refine xA 5 F rfl fun a F=>oY (qS (xF ?_));exact⟨z9.1,av,z9.2,(vE d),F.su,(H.s [0] rfl rfl)⟩
  replace d:=vQ M d;refine xU (fU isAgg31 sizeOf31 F rfl rfl (H.b 1 rfl) rfl rfl fun a F=>fU isAgg35 sizeOf35 F rfl rfl (H.b 0 rfl) rfl rfl (fun a F=>?_));obtain⟨z10,aw,d⟩:=xB d;refine oG F rfl call54 rfl (impl_byEquations_c z10 aw _ aA (xI.m n (H.a j)) (xO.m E (H.a I))) (fun a f w ⟨ax,hv7,S⟩ F=>?_);subst f;have H:=H.r1 S n0;refine xA 5 F rfl fun a F=>oY (qS (xF ?_));exact⟨z10.1,ax,z10.2,(vE d),F.su,(H.s [0] rfl rfl)⟩
 rintro a w ⟨s2,K,s3,rfl,F,H⟩
 have d:=xN aq;refine xF (xC (xP (xA 2 F rfl fun a F=>xJ (qP F rfl (fun O=>?_) (fun O=>?_)))))
 ·
  replace d:=vR O d;refine xP (xA 2 F rfl fun a F=>xJ (xT (oE (vV F rfl (oD F rfl) (oD F rfl) ?_))));obtain rfl:=oj d;exact⟨_,rfl,aE,rfl,((H.nl 1 xH 2).s [0] rfl rfl),(show xZ (6) by decide)⟩
 replace d:=vQ O d;refine xL (xF (xP (xA 3 F rfl fun a F=>xJ (xT (vV F rfl (oD F rfl) (oD F rfl) ?_)))));obtain rfl:=oj d;exact⟨_,rfl,K,rfl,H,(show xZ (0) by decide)⟩
def eJ (N:Nat) (d:Template):Option ((List Int)×Int):=
 xY (kZ (Template.mk d.size d.rels) 1) fun f=>
 if (f != 0) then
  some ([],f)
 else
  vT (σ:=(List Int)×Int) (
   cF (σ:=(List Int)×Int) (ρ:=(List Int)×Int) (fun(s:(List Int)×Int)=>
     match s with
     | (e,c)=>
     xY (jD c) fun i=>
     if i then
      xY (cI c) fun h=>
      xY (dL N (Template.mk d.size d.rels) (Op.mk h.arity h.table)) fun j=>
      if j then
       xY (ap e ([c])) fun n=>
       xY (ck (c+1)) fun p=>
       some (.go (n,p))
      else
       xY (ck (c+1)) fun t=>
       some (.go (e,t))
     else
      some (.brk (e,c))) N ([],1)) fun(x,y)=>
  some (x,0)
theorem impl_ClassesOf_c {B:Nat→Prop} {N:Nat} {D:Template} (r:(List Int)×Int) (d:eJ N D=some r) {E:Value} (e:World) (hN:∀ c,B c→c<e.heap.size) (A0:Bo B e (zX 2 xI) E D):Calls Tryz.prog 9 #[E] e (Gv (fun v w'=>∃ (J:Value),v= .tuple #[J,xG r.2]∧Sep [] B e w' [rl 1 xH 2 J r.1]∧xZ r.2)):=by
 unfold eJ at d
 refine xV (L:=[(0,E)]) func9 rfl rfl rfl (sc rfl sn) (fun a F=>?_);have H:=Sep.start hN;refine xP ?_;obtain⟨v1,rfl,M,O⟩:=xI.o A0;refine oX F rfl rfl rfl H fun a w P H F=>xA 2 F rfl fun a F=>xJ (xC (xP (fU isAgg31 sizeOf31 F rfl rfl (H.b 0 rfl) rfl rfl (fun a F=>?_))));obtain⟨z1,W,d⟩:=xB d;refine oKI F rfl call33 rfl H (fV z1 W _ aA (xI.m M (H.a O)) (show xZ (1) by decide)) fun a w H X F=>xA 1 F rfl fun a F=>qO (xA 2 F rfl fun a F=>xJ (qP F rfl (fun t=>?_) (fun t=>?_)))
 ·
  replace d:=vR t d;refine xP (xA 3 F rfl fun a F=>xJ (xT (oE (vV F rfl (oD F rfl) (oD F rfl) ?_))));obtain rfl:=oj d;exact⟨_,rfl,aE,rfl,((H.nl 1 xH 2).s [0] rfl rfl),X⟩
 replace d:=vQ t d;refine xL (xF (xP (oR0 (R:=xH) underlying25 sizeOf2 F rfl H fun a w v2 H F=>xA 1 F rfl fun a F=>xJ (xC (xP ?_)))));refine xA 1 F rfl fun a F=>xJ ?_;obtain⟨Q,d,Y⟩:=xK d;refine xX (fun a w=>∃ (G:List Int) (j:Value) (I:Int),Q= .nx (G,I)∧Sk a 26 [(5,j)]∧Sep [] B e w [rl 1 xH 2 j G]∧xZ I) ?_ ?_
 ·
  refine xW ?_;obtain⟨Z,a0,d⟩:=kU d;refine oU (fun g a w=>∃ (h:List Int) (i:Value) (f:Int),cF Z g (h,f)=some Q∧Sk a 26 [(1,vK P),(5,i),(6,xG f)]∧Sep [] B e w [rl 1 xH 2 i h,bx P [xG D.size,v1] 31]∧xZ f) N ?_ ?_
  ·
   exact⟨[],v2,1,d,F.su,H,(show xZ (1) by decide)⟩
  intro g1 a w ⟨h,i,f,d,F,H,n⟩;obtain⟨al,T,am,d,p⟩:=zK d;rw[a0] at d;refine xC (xP (xA 1 F rfl fun a F=>?_));obtain⟨z2,c1,d⟩:=xB d;refine oK F rfl call34 rfl H (impl_isClass_c z2 c1 _ aA n) fun a w H F=>xJ (qP F rfl (fun A=>?_) (fun A=>?_))
  ·
   replace d:=vR A d;refine xL (xF (xC (xW (xC ?_))));obtain⟨z3,c2,d⟩:=xB d;obtain⟨z4,c3,d⟩:=xB d;obtain⟨w1,rfl⟩:∃ x,x=w:=⟨_,rfl⟩;have an:=H.sm;obtain⟨X1,N1,g2,e1,H,K,ao⟩:=(H.s [1,0] rfl rfl).fza;have K1:=g2.bk;refine xD H (by kernel_rfl) fun w H=>qY 0 rfl (by kernel_rfl) (vBA isAgg31 sizeOf31 F rfl rfl (K1.v H.sm) rfl rfl fun a F=>vM 1 rfl (by kernel_rfl) (oJ F rfl (fun w l=>xM F rfl) fun a F=>xE H 2 rfl (by kernel_rfl) (oG F rfl call36 rfl (cU z3 c2 _ aA n) (fun a vv w ⟨v5,aq,S,i3⟩ F=>?_))));subst vv;have H:=H.r1 S n0;refine xJ ⟨⟨_,H⟩,?_⟩;refine xE H 3 rfl (by kernel_rfl) (oK F rfl call35 rfl H (gW z4 c3 _ aA (xI.m M (H.a (e1 O))) (cS.m i3 (H.l 0 rfl))) fun a w H F=>xJ ⟨⟨_,H⟩,?_⟩);refine bF (by kernel_rfl) (xF (qP F rfl (fun C=>?_) (fun C=>?_)))
   ·
    replace d:=vR C d;refine xU (xA 2 F rfl fun a F=>oR1z (R:=xH) (y:=f) underlying25 sizeOf2 zeroValue2 rfl rfl F rfl rfl H (Eo.int n) (fun a w v6 H F=>?_));obtain⟨z5,c4,d⟩:=xB d;refine oPL (sz:=1) (R:=xH) (z:=(xG 0)) (bytes:=8) underlying25 (by kernel_rfl) rfl rfl F rfl rfl rfl (H.s [2,0,1] rfl rfl) c4 fun a w v7 H F=>xA 1 F rfl fun a F=>oY (qS (xF (xU (xA 1 F rfl fun a F=>?_))));obtain⟨z6,U,d⟩:=xB d;refine kI F rfl rfl rfl U fun a F=>xA 1 F rfl fun a F=>xJ ?_;replace d:=qX d p;exact⟨T,(by omega),z5,v7,z6,d,F.su,((K.1 (H.s [0] rfl rfl) (Ns.all ⟨n0,trivial⟩)).s [1,0] rfl rfl),(kG U)⟩
   replace d:=vQ C d;refine xL (qS (xF (xU (xA 1 F rfl fun a F=>?_))));obtain⟨z7,V,d⟩:=xB d;refine kI F rfl rfl rfl V fun a F=>xA 1 F rfl fun a F=>xJ ?_;replace d:=qX d p;exact⟨T,(by omega),h,i,z7,d,F.su,((K.1 (H.s [1] rfl rfl) (Ns.all ⟨n0,trivial⟩)).s [1,0] rfl rfl),(kG V)⟩
  replace d:=vQ A d;refine oM (oR (oR ?_));replace d:=eL d p;refine vH (xF ?_);exact⟨h,i,f,(vE d),F.su,(H.s [0] rfl rfl),n⟩
 rintro a w ⟨G,j,I,rfl,F,H,i4⟩
 have d:=xN Y;refine xF (xP (xA 3 F rfl fun a F=>xJ (xT (vV F rfl (oD F rfl) (oD F rfl) ?_))));obtain rfl:=oj d;exact⟨_,rfl,j,rfl,H,(show xZ (0) by decide)⟩
def gA (N:Nat) (c:Template) (d:Int):Option (Bool×Int):=
 xY (kZ (Template.mk c.size c.rels) d) fun e=>
 if (e != 0) then
  some (false,e)
 else
  xY (cI d) fun f=>
  xY (dL N (Template.mk c.size c.rels) (Op.mk f.arity f.table)) fun h=>
  some (h,0)
theorem impl_IsOfClass_c {B:Nat→Prop} {N:Nat} {n:Template} {e:Int} (r:Bool×Int) (d:gA N n e=some r) {i:Value} (f:World) (C:∀ c,B c→c<f.heap.size) (D:Bo B f (zX 2 xI) i n) (j:xZ e):Calls Tryz.prog 10 #[i,xG e] f (Gv (fun v w'=>v= .tuple #[.bool r.1,xG r.2]∧Sep [] B f w' []∧xZ r.2)):=by
 unfold gA at d
 refine xV (L:=[(0,i),(1,xG e)]) func10 rfl rfl rfl (sc rfl (sc rfl sn)) (fun a F=>?_);have H:=Sep.start C;refine xP ?_;obtain⟨V,rfl,p,t⟩:=xI.o D;refine oX F rfl rfl rfl H fun a w W H F=>xA 2 F rfl fun a F=>xJ (xC (xP (fU isAgg31 sizeOf31 F rfl rfl (H.b 0 rfl) rfl rfl fun a F=>xA 1 F rfl fun a F=>?_)));obtain⟨E,y,d⟩:=xB d;refine oKI F rfl call33 rfl H (fV E y _ aA (xI.m p (H.a t)) j) fun a w H z F=>xA 1 F rfl fun a F=>qO (xA 2 F rfl fun a F=>xJ (qP F rfl (fun h=>?_) (fun h=>?_)))
 ·
  replace d:=vR h d;refine xP (xA 3 F rfl fun a F=>xJ (xT (oE (vV F rfl (oD F rfl) (oD F rfl) ?_))));obtain rfl:=oj d;exact⟨_,rfl,rfl,(H.s [] rfl rfl),z⟩
 replace d:=vQ h d;refine xL (xF (xC ?_));obtain⟨G,I,d⟩:=xB d;obtain⟨J,K,d⟩:=xB d;obtain⟨X,rfl⟩:∃ x,x=w:=⟨_,rfl⟩;have T:=H.sm;obtain⟨Y,Z,M,O,H,A,R⟩:=H.fza;have K1:=M.bk;refine xD H (by kernel_rfl) fun w H=>qY 0 rfl (by kernel_rfl) (vBA isAgg31 sizeOf31 F rfl rfl (K1.v H.sm) rfl rfl fun a F=>vM 1 rfl (by kernel_rfl) (oJ F rfl (fun w l=>xM F rfl) fun a F=>xE H 2 rfl (by kernel_rfl) (oG F rfl call36 rfl (cU G I _ aA j) (fun a P w ⟨v2,U,S,Q⟩ F=>?_))));subst P;have H:=H.r1 S n0;refine xJ ⟨⟨_,H⟩,?_⟩;refine xE H 3 rfl (by kernel_rfl) (oK F rfl call35 rfl H (gW J K _ aA (xI.m p (H.a (O t))) (cS.m Q (H.l 0 rfl))) fun a w H F=>xJ ⟨⟨_,H⟩,?_⟩);refine vM 4 rfl (by kernel_rfl) (oJ F rfl (fun w l=>zM F rfl) fun a F=>vM 5 rfl (by kernel_rfl) (oJ F rfl (fun w l=>zM F rfl) fun a F=>bF (by kernel_rfl) (xF (xT ?_))));have H:=(A.1 H (Ns.all ⟨n0,trivial⟩));refine vV F rfl (oD F rfl) (oD F rfl) ?_;obtain rfl:=oj d;exact⟨_,rfl,rfl,(H.s [] rfl rfl),(show xZ (0) by decide)⟩
def iV (d:Int):Option (Op×Int):=
 xY (jD d) fun e=>
 if (!e) then
  some ((Op.mk 0 ([])),2)
 else
  xY (cI d) fun c=>
  some ((Op.mk c.arity c.table),0)
theorem impl_ClassOp_c {B:Nat→Prop} {e:Int} (r:Op×Int) (d:iV e=some r)  (i:World) (t:∀ c,B c→c<i.heap.size) (n:xZ e):Calls Tryz.prog 11 #[xG e] i (Gv (fun v w'=>∃ (p:Value),v= .tuple #[.agg #[xG r.1.arity,p],xG r.2]∧Sep [] B i w' [rl 1 xH 2 p r.1.table]∧xZ r.1.arity∧xZ r.2)):=by
 unfold iV at d
 refine xV (L:=[(0,xG e)]) func11 rfl rfl rfl (sc rfl sn) (fun a F=>?_);have H:=Sep.start t;refine xP (oA zeroValue27 F rfl rfl H fun a w E H F=>xA 1 F rfl fun a F=>xJ (xC (xP (xA 1 F rfl fun a F=>?_))));obtain⟨x,y,d⟩:=xB d;refine oK F rfl call34 rfl H (impl_isClass_c x y _ aA n) fun a w H F=>xA 1 F rfl fun a F=>xJ (qP F rfl (fun f=>?_) (fun f=>?_))
 ·
  replace d:=vR f d;refine xP (kV underlying27 zeroValue27 (fun w=>by simp [sizeOf2,sizeOf25];rfl) F rfl rfl rfl rfl rfl on rfl rfl fun a F=>oWA (vs:=[xG 0,aE]) sizeOf27 F rfl rfl rfl H (oc rfl (oc rfl on)) rfl rfl fun w H=>xA 1 F rfl fun a F=>xJ (xT (oE (vV F rfl (gU (arr:=#[xG 0,aE]) F isAgg27 sizeOf27 rfl (H.b 0 rfl)) (oD F rfl) ?_))));obtain rfl:=oj d;exact⟨_,rfl,aE,rfl,((H.nl 1 xH 2).s [0] rfl rfl),(show xZ 0 by decide),(show xZ (2) by decide)⟩
 replace d:=vQ f d;refine xL (xF (xP (xA 1 F rfl fun a F=>?_)));obtain⟨h,z,d⟩:=xB d;refine oG F rfl call36 rfl (cU h z _ aA n) (fun a A w ⟨j,D,S,C⟩ F=>?_);subst A;have H:=H.r1 S n0;refine oWA (vs:=[xG h.arity,j]) sizeOf27 F rfl rfl rfl (H.s [1,0] rfl rfl) (oc rfl (oc ((H.s [1,0] rfl rfl).l 1 rfl).one on)) rfl rfl fun w H=>xA 1 F rfl fun a F=>xJ (xT (vV F rfl (gU (arr:=#[xG h.arity,j]) F isAgg27 sizeOf27 rfl (H.b 0 rfl)) (oD F rfl) ?_));obtain rfl:=oj d;exact⟨_,rfl,j,rfl,(H.s [1] rfl rfl),C,(show xZ (0) by decide)⟩
def impl_ownLists (c:List (List Int)):Option (List (List Int)):=
 vT (σ:=(List (List Int))) (
  qJ (σ:=(List (List Int))) (ρ:=(List (List Int))) (fun (j:Nat) (d:(List Int)) (e:(List (List Int)))=>
   xY (vS d) fun f=>
   xY (ap e ([f])) fun h=>
   some (.go h)) c 0 []) fun i=>
 some i
theorem impl_ownLists_c {B:Nat→Prop} {f:List (List Int)} (r:(List (List Int))) (d:impl_ownLists f=some r) {n:Value} (i:World) (Q:∀ c,B c→c<i.heap.size) (G:Bo B i (Sl 1 (vO 1 xH)) n f):Calls Tryz.prog 41 #[n] i (Gv (fun v w'=>∃ (D:Value),v=D∧Sep [] B i w' [rl 1 (vO 1 xH) 25 D r])):=by
 unfold impl_ownLists at d
 refine xV (L:=[(0,n)]) func41 rfl rfl rfl (sc rfl sn) (fun a F=>?_);have H:=Sep.start Q;refine xP (xA 1 F rfl fun a F=>qO (oR0 (R:=(vO 1 xH)) underlying45 sizeOf25 F rfl H fun a w T H F=>xA 1 F rfl fun a F=>xJ ?_));refine xC (xP (xA 1 F rfl fun a F=>oL underlying45 F rfl rfl G fun a I F=>xA 1 F rfl fun a F=>xJ ?_));obtain⟨E,d,K⟩:=xK d;refine xX (fun a w=>∃ (A:List (List Int)) (p:Value),E= .nx A∧Sk a 20 [(3,p)]∧Sep [] B i w [rl 1 (vO 1 xH) 25 p A]) ?_ ?_
 ·
  refine xW ?_;obtain⟨M,N,d⟩:=qE d;refine oU (fun g a w=>∃ (j:Nat) (h t:List (List Int)) (x:Value),(j≤f.length∧f.drop j=h)∧h.length=g∧qJ M h j t=some E∧Sk a 20 [(9,xG (j:Int)),(3,x),(7,n),(8,xG (f.length:Int))]∧Sep [] B i w [rl 1 (vO 1 xH) 25 x t]) f.length ?_ ?_
  ·
   exact⟨0,f,[],T,⟨Nat.zero_le _,rfl⟩,rfl,d,F.su,H⟩
  intro g1 a w ⟨j,h,t,x,e,O,d,F,H⟩
  cases h with
  | nil=>
   replace d:=qH d;have U:=qG e.1 e.2;have C:=vA U;refine xP (xA 1 F rfl fun a F=>xJ (xC (qT F rfl C (oM (oR (oR (vH ?_)))))));refine xF ?_;exact⟨t,x,(vE d),F.su,H⟩
  | cons x1 h=>
   subst O;replace e:=oO e.2;have V:=oZ e.2.1;obtain⟨a4,d,P⟩:=oV d;rw[N] at d;have C:=qM e.1;refine xP (xA 1 F rfl fun a F=>xJ (xC (qV F rfl C (xL (xF (xC ?_))))));have j1:=fE (Nat.le_of_lt e.1) I;have W:=zC e.1 I;refine xW (xP (oI underlying45 sizeOf25 F rfl rfl rfl G V fun a p1 X F=>aY isAgg25 F rfl rfl H.sm X fun a v4 Y F=>xA 1 F rfl fun a F=>xJ (xU (xA 2 F rfl fun a F=>?_))));obtain⟨J,Z,d⟩:=xB d;refine oG F rfl call83 rfl (kH J Z _ aA (H.a Y)) (fun a vv w ⟨v5,a5,S⟩ F=>?_);subst vv;have H:=H.r1 S n0;have H:=H.os;refine oR1L (R:=(vO 1 xH)) (y:=J) underlying45 sizeOf25 zeroValue25 rfl rfl F rfl rfl H El.sl (fun a w v6 H F=>?_);obtain⟨z2,c2,d⟩:=xB d;refine oPL (sz:=1) (R:=(vO 1 xH)) (z:=(aE)) (bytes:=24) underlying45 (by kernel_rfl) rfl rfl F rfl rfl rfl (H.s [1,0] rfl rfl) c2 fun a w v7 H F=>xA 1 F rfl fun a F=>oY (qS (xF (xU (qQ F rfl rfl rfl W fun a F=>xA 1 F rfl fun a F=>xJ ?_))));replace d:=qX d P;exact⟨_,Nat.lt_succ_self _,j+1,h,z2,v7,⟨e.1,e.2.2⟩,rfl,d,F.su,H⟩
 rintro a w ⟨A,p,rfl,F,H⟩
 have d:=xN K;refine xF (xP (xA 2 F rfl fun a F=>xJ (xT (xS F rfl (oD F rfl) ?_))));obtain rfl:=oj d;exact⟨_,rfl,p,rfl,H⟩
def gO (N:Nat) (c:Template) (f:Int):Option (Int×(List (List Int))×(List Int)×Int):=
 xY (kZ (Template.mk c.size c.rels) f) fun h=>
 if (h != 0) then
  some (0,[],[],h)
 else
  xY (cI f) fun d=>
  xY (gM N (Template.mk c.size c.rels) (Op.mk d.arity d.table)) fun e=>
  if (decide (e<0)) then
   some (0,[],[],6)
  else
   xY (ix c.rels e) fun j=>
   xY (impl_broken N 2 (Op.mk d.arity d.table) j) fun i=>
   xY (impl_ownLists i.1) fun n=>
   some (e,n,i.2,0)
theorem impl_WhyNotClass_c {B:Nat→Prop} {N:Nat} {C:Template} {f:Int} (r:Int×(List (List Int))×(List Int)×Int) (d:gO N C f=some r) {n:Value} (h:World) (T:∀ c,B c→c<h.heap.size) (U:Bo B h (zX 2 xI) n C) (t:xZ f):Calls Tryz.prog 14 #[n,xG f] h (Gv (fun v w'=>∃ (y z:Value),v= .tuple #[xG r.1,y,z,xG r.2.2.2]∧Sep [] B h w' [rl 1 (vO 1 xH) 25 y r.2.1,rl 1 xH 2 z r.2.2.1]∧xZ r.1∧xZ r.2.2.2)):=by
 unfold gO at d
 refine xV (L:=[(0,n),(1,xG f)]) func14 rfl rfl rfl (sc rfl (sc rfl sn)) (fun a F=>?_);have H:=Sep.start T;refine xP ?_;obtain⟨v1,rfl,D,p⟩:=xI.o U;refine oX F rfl rfl rfl H fun a w b1 H F=>xA 4 F rfl fun a F=>xJ (xC (xP (fU isAgg31 sizeOf31 F rfl rfl (H.b 0 rfl) rfl rfl (fun a F=>?_))));refine xA 1 F rfl fun a F=>?_;obtain⟨V,J,d⟩:=xB d;refine oKI F rfl call33 rfl H (fV V J _ aA (xI.m D (H.a p)) t) fun a w H K F=>xA 1 F rfl fun a F=>qO (xA 2 F rfl fun a F=>xJ (qP F rfl (fun i=>?_) (fun i=>?_)))
 ·
  replace d:=vR i d;refine xP (xA 5 F rfl fun a F=>xJ (xT (oE ?_)));refine x_res4 F rfl (oD F rfl) (oD F rfl) (oD F rfl) (oD F rfl) ?_;obtain rfl:=oj d;exact⟨_,rfl,aE,aE,rfl,(((H.nl 1 (vO 1 xH) 25).nl 1 xH 2).s [1,0] rfl rfl),(show xZ (0) by decide),K⟩
 replace d:=vQ i d;refine xL (xF (xP (xA 1 F rfl fun a F=>?_)));obtain⟨E,W,d⟩:=xB d;refine oG F rfl call36 rfl (cU E W _ aA t) (fun a e w ⟨X,ae,S,G⟩ F=>?_);subst e;have H:=H.r1 S n0;refine oA zeroValue27 F rfl rfl H fun a w b2 H F=>oWA (vs:=[xG E.arity,X]) sizeOf27 F rfl rfl rfl H (oc rfl (oc (H.l 1 rfl).one on)) rfl rfl fun w H=>qO (fU isAgg31 sizeOf31 F rfl rfl (H.b 2 rfl) rfl rfl fun a F=>fU isAgg27 sizeOf27 F rfl rfl (H.b 0 rfl) rfl rfl (fun a F=>?_));obtain⟨Y,Z,d⟩:=xB d;refine oKI F rfl call39 rfl H (impl_firstBroken_c Y Z _ aA (xI.m D (H.a p)) (cS.m G (H.l 1 rfl))) fun a w H M F=>xA 1 F rfl fun a F=>xJ (xC (xP (xA 2 F rfl fun a F=>xJ ?_)));refine qP F rfl (fun j=>?_) (fun j=>?_)
 ·
  replace d:=vR j d;refine xP (xA 4 F rfl fun a F=>xJ (xT (oE (x_res4 F rfl (oD F rfl) (oD F rfl) (oD F rfl) (oD F rfl) ?_))));obtain rfl:=oj d;exact⟨_,rfl,aE,aE,rfl,(((H.nl 1 (vO 1 xH) 25).nl 1 xH 2).s [1,0] rfl rfl),(show xZ (0) by decide),(show xZ (6) by decide)⟩
 replace d:=vQ j d;refine xL (xF (xC ?_));obtain⟨af,c3,d⟩:=xB d;obtain⟨z4,c4,d⟩:=xB d;obtain⟨w1,rfl⟩:∃ x,x=w:=⟨_,rfl⟩;have O:=H.sm;obtain⟨X1,N1,I,e1,H,A,ag⟩:=(H.s [0,2,1] rfl rfl).mg.fza;have K1:=I.l.bk;have P:=I.r.bk;refine xD H (by kernel_rfl) fun w H=>qY 0 rfl (by kernel_rfl) (vBA isAgg27 sizeOf27 F rfl rfl (K1.v H.sm) rfl rfl fun a F=>qY 1 rfl (by kernel_rfl) (oJ F rfl (fun w l=>vG kR F rfl rfl) fun a F=>qY 2 rfl (by kernel_rfl) (vB isAgg29 F rfl rfl (P.v H.sm) rfl fun a F=>vM 3 rfl (by kernel_rfl) (oJ F rfl (fun w l=>xM F rfl) fun a F=>qY 4 rfl (by kernel_rfl) (vI underlying29 sizeOf51 F rfl rfl rfl p c3 (fun a p1 h2 F=>?_))))));refine qY 5 rfl (by kernel_rfl) (vlA isAgg51 sizeOf51 F rfl rfl (fun w l=>(O.trans (Sm.mono (H.v w l) A.2.2))) h2 fun a v3 h3 F=>xE H 6 rfl (by kernel_rfl) ?_);obtain⟨w2,rfl⟩:∃ x,x=w:=⟨_,rfl⟩;have ah:=H.sm;obtain⟨X2,N2,g2,e2,H,Q,R⟩:=H.fza;have h4:=g2.ld;refine oG F rfl call40 rfl (impl_broken_c z4 c4 _ H.hN (show xZ (2) by decide) (cS.m G (H.u h4)) (H.u (e2 (e1 h3)))) (fun a e w ⟨v4,v5,ai,S,ad⟩ F=>?_);subst e;have H:=H.rk S ⟨n1,⟨n0,trivial⟩⟩ rfl;refine xJ ⟨⟨_,(R Ab.rw H (Ns.all ⟨n0,trivial⟩))⟩,?_⟩;refine vM 7 rfl (by kernel_rfl) (oJ F rfl (fun w l=>xM F rfl) fun a F=>vM 8 rfl (by kernel_rfl) (oJ F rfl (fun w l=>r_extract F rfl rfl) fun a F=>vM 9 rfl (by kernel_rfl) (oJ F rfl (fun w l=>r_extract F rfl rfl) fun a F=>vM 10 rfl (by kernel_rfl) (oJ F rfl (fun w l=>zM F rfl) fun a F=>vM 11 rfl (by kernel_rfl) (oJ F rfl (fun w l=>zM F rfl) fun a F=>bF (by kernel_rfl) ?_)))));refine xF (xP (xA 2 F rfl fun a F=>?_));obtain⟨z5,c5,d⟩:=xB d;refine oG F rfl call41 rfl (impl_ownLists_c z5 c5 _ aA (H.r 0 rfl)) (fun a e w ⟨v6,aj,S⟩ F=>?_);subst e;have H:=H.r1 S n0;refine xA 5 F rfl fun a F=>xJ (xT ?_);have H:=(A.1 (Q.1 (H.s [0,2] rfl rfl) (Ns.all ⟨n0,⟨n0,trivial⟩⟩)) (Ns.all ⟨n0,⟨n0,⟨n0,trivial⟩⟩⟩)).um;refine x_res4 F rfl (oD F rfl) (oD F rfl) (oD F rfl) (oD F rfl) ?_;obtain rfl:=oj d;exact⟨_,rfl,v6,v5,rfl,(H.s [3,4] rfl rfl),M,(show xZ (0) by decide)⟩
def cW (N:Nat) (c:Con) (e:Template) (f:(List Int)):Option Bool:=
 xY (ix e.rels c.rel) fun h=>
 xY (impl_chosen f c.scope) fun i=>
 xY (dX N h i) fun d=>
 some ((!d))
theorem impl_failing_1_c {B:Nat→Prop} {N:Nat} {t:Con} {y:Template} {z:(List Int)} (r:Bool) (d:cW N t y z=some r) {i:Value} {j:Value} {n:Value} (e:World) (C:∀ c,B c→c<e.heap.size) (D:Bo B e (zX 2 vU) i t) (E:Bo B e (Pt 2 xI) j y) (G:Bo B e (Pt 1 (vO 1 xH)) n z):Calls Tryz.prog 148 #[i,j,n] e (zO (.bool r) e):=by
 unfold cW at d
 refine xV (L:=[(0,i),(1,j),(2,n)]) func148 rfl rfl rfl (sc rfl (sc rfl (sc rfl sn))) (fun a F=>?_);have H:=Sep.start C;refine xP ?_;obtain⟨Z,rfl,i1,I⟩:=vU.o D;refine oX F rfl rfl rfl H fun a w b1 H F=>xA 1 F rfl fun a F=>xJ (xC ?_);obtain⟨z1,J,d⟩:=xB d;obtain⟨K,M,d⟩:=xB d;obtain⟨A,O,d⟩:=xB d;obtain⟨w1,rfl⟩:∃ x,x=w:=⟨_,rfl⟩;have h:=H.sm;obtain⟨X1,N1,P,p,H,f,X⟩:=H.fza;have K1:=P.bk;refine xD H (by kernel_rfl) fun w H=>qY 0 rfl (by kernel_rfl) (vF (s':=1) kR F rfl rfl E xI.f1 fun a p1 Q F=>qY 1 rfl (by kernel_rfl) (vlS isAgg29 F rfl rfl (fun w l=>(h.trans (Sm.mono (H.v w l) f.2.2))) Q fun a v4 R F=>qY 2 rfl (by kernel_rfl) (oJ F rfl (fun w l=>vG fR F rfl rfl) fun a F=>qY 3 rfl (by kernel_rfl) (vB isAgg2 F rfl rfl (K1.v H.sm) rfl fun a F=>qY 4 rfl (by kernel_rfl) (vI underlying29 sizeOf51 F rfl rfl rfl R J (fun a p2 T F=>?_))))));refine qY 5 rfl (by kernel_rfl) (vlA isAgg51 sizeOf51 F rfl rfl (fun w l=>(h.trans (Sm.mono (H.v w l) f.2.2))) T fun a v5 U F=>qY 6 rfl (by kernel_rfl) (vlS isAgg25 F rfl rfl (fun w l=>(h.trans (Sm.mono (H.v w l) f.2.2))) G fun a v6 V F=>qY 7 rfl (by kernel_rfl) (oJ F rfl (fun w l=>vG zV F rfl rfl) fun a F=>qY 8 rfl (by kernel_rfl) (vB isAgg25 F rfl rfl (K1.v H.sm) rfl fun a F=>xE H 9 rfl (by kernel_rfl) (oG F rfl call149 rfl (impl_chosen_c K M _ aA (H.a (p V)) (H.a (p I))) (fun a W w ⟨v7,Y,S⟩ F=>?_))))));subst W;have H:=H.r1 S n0;refine xJ ⟨⟨_,H⟩,?_⟩;refine xE H 10 rfl (by kernel_rfl) (oK F rfl call138 rfl H (iR A O _ aA (H.a (p U)) (H.l 0 rfl)) fun a w H F=>xJ ⟨⟨_,H⟩,?_⟩);refine vM 11 rfl (by kernel_rfl) (oJ F rfl (fun w l=>fW F rfl) fun a F=>vM 12 rfl (by kernel_rfl) (oJ F rfl (fun w l=>zM F rfl) fun a F=>bF (by kernel_rfl) (xF (xT ?_))));have H:=(f.1 H (Ns.all ⟨n0,trivial⟩));refine xS F rfl (oD F rfl) ?_;obtain rfl:=oj d;exact⟨rfl,H.bl⟩
def impl_failing (N:Nat) (c:Template) (d:Instance) (e:List Int):Option Int:=
 xY (kB d.cons (fun f=>cW N f (Template.mk c.size c.rels) e)) fun h=>
 some h
theorem impl_failing_c {B:Nat→Prop} {N:Nat} {n:Template} {p:Instance} {t:List Int} (r:Int) (e:impl_failing N n p t=some r) {f:Value} {i:Value} {j:Value} (d:World) (A:∀ c,B c→c<d.heap.size) (C:Bo B d (zX 2 xI) f n) (D:Bo B d (zX 2 xO) i p) (x:Bo B d (Sl 1 xH) j t):Calls Tryz.prog 115 #[f,i,j] d (dW r d):=by
 unfold impl_failing at e
 refine xV (L:=[(0,f),(1,i),(2,j)]) func115 rfl rfl rfl (sc rfl (sc rfl (sc rfl sn))) (fun a F=>?_);have H:=Sep.start A;refine xP ?_;obtain⟨O,rfl,E,G⟩:=xI.o C;refine oX F rfl rfl rfl H (fun a w P H F=>?_);obtain⟨M,rfl,Q,I⟩:=xO.o D;refine oX F rfl rfl rfl H fun a w R H F=>oX F rfl rfl (one_cells (H.a x).one) H fun a w S H F=>xA 1 F rfl fun a F=>qO (oH bU F rfl rfl rfl fun a F=>oB isAgg33 F rfl rfl (H.b 1 rfl) rfl fun a F=>iW F rfl rfl rfl (fun a F=>?_));obtain⟨J,K,e⟩:=xB e;refine oKI F rfl call123 rfl H (fH J K _ aA (H.a I) call148 (fun T r h W y U f0=>impl_failing_1_c r h W aA f0 ((xI.b (H.g 2 rfl).bk E (H.a G)).w y) ((c1S (H.g 0 rfl).bk (H.a x)).w y))) fun a w H z F=>xA 1 F rfl fun a F=>xJ (xT (xS F rfl (oD F rfl) ?_));obtain rfl:=oj e;exact⟨⟨rfl,H.bl⟩,z⟩
def fT (N:Nat) (c:Template) (d:Instance) (e:List Int):Option (Int×Int):=
 xY (kX (Template.mk c.size c.rels) (Instance.mk d.vars d.cons)) fun f=>
 if (!f) then
  some (0,1)
 else
  xY (kW c.size e d.vars) fun h=>
  if (!h) then
   some (0,2)
  else
   xY (impl_failing N (Template.mk c.size c.rels) (Instance.mk d.vars d.cons) e) fun i=>
   some (i,0)
theorem impl_FirstFailing_c {B:Nat→Prop} {N:Nat} {x:Template} {y:Instance} {z:List Int} (r:Int×Int) (d:fT N x y z=some r) {i:Value} {j:Value} {n:Value} (e:World) (G:∀ c,B c→c<e.heap.size) (I:Bo B e (zX 2 xI) i x) (J:Bo B e (zX 2 xO) j y) (A:Bo B e (Sl 1 xH) n z):Calls Tryz.prog 61 #[i,j,n] e (Gv (fun v w'=>v= .tuple #[xG r.1,xG r.2]∧Sep [] B e w' []∧xZ r.1∧xZ r.2)):=by
 unfold fT at d
 refine xV (L:=[(0,i),(1,j),(2,n)]) func61 rfl rfl rfl (sc rfl (sc rfl (sc rfl sn))) (fun a F=>?_);have H:=Sep.start G;refine xP ?_;obtain⟨T,rfl,p,C⟩:=xI.o I;refine oX F rfl rfl rfl H (fun a w U H F=>?_);obtain⟨S,rfl,t,D⟩:=xO.o J;refine oX F rfl rfl rfl H fun a w V H F=>xA 2 F rfl fun a F=>xJ (xC (xW (xP (fU isAgg31 sizeOf31 F rfl rfl (H.b 1 rfl) rfl rfl fun a F=>fU isAgg35 sizeOf35 F rfl rfl (H.b 0 rfl) rfl rfl (fun a F=>?_)))));obtain⟨K,M,d⟩:=xB d;refine oK F rfl call48 rfl H (impl_ValidInstance_c K M _ aA (xI.m p (H.a C)) (xO.m t (H.a D))) fun a w H F=>xA 2 F rfl fun a F=>xJ (qP F rfl (fun f=>?_) (fun f=>?_))
 ·
  replace d:=vR f d;refine xP (xA 2 F rfl fun a F=>xJ (xT (vJ (oE (vV F rfl (oD F rfl) (oD F rfl) ?_)))));obtain rfl:=oj d;exact⟨_,rfl,rfl,(H.s [] rfl rfl),(show xZ (0) by decide),(show xZ (1) by decide)⟩
 replace d:=vQ f d;refine xP (oH dA F rfl rfl rfl fun a F=>oB isAgg2 F rfl rfl (H.b 1 rfl) rfl fun a F=>xA 1 F rfl fun a F=>oH kD F rfl rfl rfl fun a F=>oB isAgg2 F rfl rfl (H.b 0 rfl) rfl (fun a F=>?_));obtain⟨O,P,d⟩:=xB d;refine oK F rfl call93 rfl H (impl_areValues_c O P _ aA p (H.a A) t) fun a w H F=>xA 2 F rfl fun a F=>xJ (qP F rfl (fun h=>?_) (fun h=>?_))
 ·
  replace d:=vR h d;refine xP (xA 2 F rfl fun a F=>xJ (xT (vJ (oE (vV F rfl (oD F rfl) (oD F rfl) ?_)))));obtain rfl:=oj d;exact⟨_,rfl,rfl,(H.s [] rfl rfl),(show xZ (0) by decide),(show xZ (2) by decide)⟩
 replace d:=vQ h d;refine xL (qS (xF (xP (fU isAgg31 sizeOf31 F rfl rfl (H.b 1 rfl) rfl rfl fun a F=>fU isAgg35 sizeOf35 F rfl rfl (H.b 0 rfl) rfl rfl fun a F=>xA 1 F rfl fun a F=>?_))));obtain⟨Q,R,d⟩:=xB d;refine oKI F rfl call115 rfl H (impl_failing_c Q R _ aA (xI.m p (H.a C)) (xO.m t (H.a D)) (H.a A)) fun a w H E F=>xA 2 F rfl fun a F=>xJ (xT (vV F rfl (oD F rfl) (oD F rfl) ?_));obtain rfl:=oj d;exact⟨_,rfl,rfl,(H.s [] rfl rfl),E,(show xZ (0) by decide)⟩
def cD (N:Nat) (d:Template) (e:Instance) (f:List Int):Option (Bool×Int):=
 xY (fT N (Template.mk d.size d.rels) (Instance.mk e.vars e.cons) f) fun c=>
 vT (σ:=Bool×Int) (
  if (c.2==0) then  some (.nx ((decide (c.1<0)),c.2)) else  some (.nx (false,c.2))) fun(h,i)=>
 some (h,i)
theorem impl_IsSolution_c {B:Nat→Prop} {N:Nat} {x:Template} {y:Instance} {z:List Int} (r:Bool×Int) (d:cD N x y z=some r) {j:Value} {n:Value} {p:Value} (e:World) (D:∀ c,B c→c<e.heap.size) (E:Bo B e (zX 2 xI) j x) (G:Bo B e (zX 2 xO) n y) (I:Bo B e (Sl 1 xH) p z):Calls Tryz.prog 21 #[j,n,p] e (Gv (fun v w'=>v= .tuple #[.bool r.1,xG r.2]∧Sep [] B e w' []∧xZ r.2)):=by
 unfold cD at d
 refine xV (L:=[(0,j),(1,n),(2,p)]) func21 rfl rfl rfl (sc rfl (sc rfl (sc rfl sn))) (fun a F=>?_);have H:=Sep.start D;refine xP ?_;obtain⟨W,rfl,J,K⟩:=xI.o E;refine oX F rfl rfl rfl H (fun a w X H F=>?_);obtain⟨U,rfl,M,O⟩:=xO.o G;refine oX F rfl rfl rfl H fun a w Y H F=>xA 2 F rfl fun a F=>qO (fU isAgg31 sizeOf31 F rfl rfl (H.b 1 rfl) rfl rfl fun a F=>fU isAgg35 sizeOf35 F rfl rfl (H.b 0 rfl) rfl rfl fun a F=>xA 1 F rfl fun a F=>?_);obtain⟨h,P,d⟩:=xB d;refine oG F rfl call61 rfl (impl_FirstFailing_c h P _ aA (xI.m J (H.a K)) (xO.m M (H.a O)) (H.a I)) (fun a Q w ⟨V,S,Z,A⟩ F=>?_);subst Q;have H:=H.r0 S;refine xA 5 F rfl fun a F=>xJ (xC ?_);obtain⟨R,d,C⟩:=xK d;refine xX (fun a w=>∃ (t:Bool) (i:Int),R= .nx (t,i)∧Sk a 24 [(6,.bool t),(7,xG i)]∧Sep [] B e w []∧xZ i) ?_ ?_
 ·
  refine xU (xA 3 F rfl fun a F=>?_)
  rcases qU (h.2==0) with f | f
  ·
   replace d:=vR f d;have F:=F.eb 19 rfl f;refine xA 6 F rfl fun a F=>xJ ?_;exact⟨(decide (h.1<0)),h.2,(vE d),F.su,(H.s [] rfl rfl),A⟩
  replace d:=vQ f d;have F:=F.eb 19 rfl f;refine xA 6 F rfl fun a F=>xJ ?_;exact⟨false,h.2,(vE d),F.su,(H.s [] rfl rfl),A⟩
 rintro a w ⟨t,i,rfl,F,H,T⟩
 have d:=xN C;refine xF (xT (vV F rfl (oD F rfl) (oD F rfl) ?_));obtain rfl:=oj d;exact⟨_,rfl,rfl,H,T⟩
def bJ (N:Nat) (c:Rel):Option ((List (List Int))×Int):=
 xY (bP 2 (Rel.mk c.arity c.tuples)) fun d=>
 if (!d) then
  some ([],1)
 else
  xY (aK N (Rel.mk c.arity c.tuples)) fun e=>
  some (e,0)
theorem impl_EquationsOver_c {B:Nat→Prop} {N:Nat} {j:Rel} (r:(List (List Int))×Int) (d:bJ N j=some r) {h:Value} (e:World) (x:∀ c,B c→c<e.heap.size) (y:Bo B e (zX 2 qD) h j):Calls Tryz.prog 22 #[h] e (Gv (fun v w'=>∃ (i:Value),v= .tuple #[i,xG r.2]∧Sep [] B e w' [rl 1 (vO 1 xH) 25 i r.1]∧xZ r.2)):=by
 unfold bJ at d
 refine xV (L:=[(0,h)]) func22 rfl rfl rfl (sc rfl sn) (fun a F=>?_);have H:=Sep.start x;refine xP ?_;obtain⟨I,rfl,n,p⟩:=qD.o y;refine oX F rfl rfl rfl H fun a w J H F=>xA 2 F rfl fun a F=>xJ (xC (xP (fU isAgg51 sizeOf51 F rfl rfl (H.b 0 rfl) rfl rfl (fun a F=>?_))));obtain⟨z,t,d⟩:=xB d;refine oK F rfl call62 rfl H (impl_ValidRel_c z t _ aA (show xZ (2) by decide) (qD.m n (H.a p))) fun a w H F=>xA 1 F rfl fun a F=>xJ (qP F rfl (fun f=>?_) (fun f=>?_))
 ·
  replace d:=vR f d;refine xP (xA 2 F rfl fun a F=>xJ (xT (oE (vV F rfl (oD F rfl) (oD F rfl) ?_))));obtain rfl:=oj d;exact⟨_,rfl,aE,rfl,((H.nl 1 (vO 1 xH) 25).s [0] rfl rfl),(show xZ (1) by decide)⟩
 replace d:=vQ f d;refine xL (xF (xP (fU isAgg51 sizeOf51 F rfl rfl (H.b 0 rfl) rfl rfl (fun a F=>?_))));obtain⟨A,C,d⟩:=xB d;refine oG F rfl call63 rfl (impl_equationsOver_c A C _ aA (qD.m n (H.a p))) (fun a D w ⟨E,G,S⟩ F=>?_);subst D;have H:=H.r1 S n0;refine xA 2 F rfl fun a F=>xJ (xT (vV F rfl (oD F rfl) (oD F rfl) ?_));obtain rfl:=oj d;exact⟨_,rfl,E,rfl,(H.s [0] rfl rfl),(show xZ (0) by decide)⟩
end Go.Proofs.YtgnfibiaaipibaaGreat
