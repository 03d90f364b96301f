import Derived.Test.YtncganhbpbehaaaGreatP2
import Derived.Test.YtncganhbpbehaaaGreatPC
import Derived.Test.YtncganhbpbehaaaGreatQ2
namespace Go.Proofs.YtncganhbpbehaaaGreat
open Go.Proofs.Tryz
set_option maxHeartbeats 1000000
set_option linter.unusedVariables false
set_option linter.unusedSimpArgs false
set_option maxRecDepth 100000
open Go.RowKit
def laws_f6big (c:List UInt8):Option Bool:=
 some ((decide (4096<(c.length:Int))))
theorem laws_f6big_c {B:Nat→Prop} {f:List UInt8} (r:Bool) (h:laws_f6big f=some r) {e:Value} (d:World) (i:∀ c,B c→c<d.heap.size) (j:Bo B d (Sl 1 bS) e f):Calls Tryz.prog 4 #[e] d (kL (.bool r) d):=by
 unfold laws_f6big at h
 refine xX (L:=[(0,e)]) func4 rfl rfl rfl (sc rfl sn) (fun a F=>?_);have H:=Sep.start i;refine xV (xA 1 F rfl fun a F=>vG (xA 1 F rfl fun a F=>oL underlying22 F rfl rfl j fun a n F=>xA 2 F rfl fun a F=>?_));refine xJ (xR (xT F rfl (oE F rfl) ?_));obtain rfl:=oj h;exact⟨rfl,H.bl⟩
def laws_FnLearnt (N:Nat) (G H:List UInt8):Option Bool:=
 zR (σ:=Bool) (
  xZ (laws_f6big G) fun z1=>
  if z1 then  some (.nx true) else  xZ (laws_f6big H) fun z2=>
   some (.nx z2)) fun s1=>
 if s1 then
  some true
 else
  xZ (jM N G) fun c=>
  zR (σ:=(List Literal)×Int) (
   fA (σ:=(List Literal)×Int) (ρ:=Bool) (fun(s:(List Literal)×Int)=>
     match s with
     | (I,h)=>
     zR (σ:=Bool) (
      if (decide (h<c.2.vars)) then  some (.nx (decide (h<3))) else  some (.nx false)) fun s4=>
     if s4 then
      xZ (ap ([(u8w h)]) H) fun z4=>
      xZ (jP z4 c.1.size) fun z5=>
      xZ (ap I ([(Literal.mk h z5)])) fun z6=>
      xZ (ck (h+1)) fun z7=>
      some (.go (z6,z7))
     else
      some (.brk (I,h))) N ([],0)) fun(t,s6)=>
  xZ (cZ N (Template.mk c.1.size c.1.rels) (Instance.mk c.2.vars c.2.cons) t 2000) fun n=>
  xZ (dK N (Template.mk c.1.size c.1.rels) (Instance.mk c.2.vars c.2.cons)) fun x=>
  zR (σ:=Bool) (
   if (n.2 != 0) then  some (.nx true) else  if (x.2 != 0) then  some (.nx (x.2 != 3)) else  some (.nx false)) fun s7=>
  if s7 then
   some false
  else
   zR (σ:=Unit) (
    if (x.2==0) then
     zR (σ:=Bool) (
      qT (σ:=Bool) (ρ:=(Out (Unit) Bool)) (fun (k1:Nat) (x2:(List Int)) (s8:Bool)=>
       zR (σ:=Bool) (
        qT (σ:=Bool) (ρ:=(Ctl (Bool) (Out (Unit) Bool))) (fun (k2:Nat) (J:Literal) (s9:Bool)=>
         zR (σ:=Bool) (
          if s9 then  xZ (ix x2 J.var) fun M=>
           some (.nx (M==J.value)) else  some (.nx false)) fun O=>
         some (.go O)) t 0 true) fun P=>
       zR (σ:=Bool) (
        if s8 then  some (.nx true) else  some (.nx P)) fun Q=>
       some (.go Q)) x.1 0 false) fun R=>
     if (n.1==R) then
      some (.ret false)
     else
      some (.nx ())
    else
     some (.nx ())) fun _=>
   xZ (dZ N (Template.mk c.1.size c.1.rels) (Instance.mk c.2.vars c.2.cons) t 2000) fun y=>
   xZ (dS N (Template.mk c.1.size c.1.rels) (Instance.mk c.2.vars c.2.cons) t 2000) fun d=>
   zR (σ:=Bool) (
    if (y.2 != d.2) then  some (.nx true) else  xZ (dW y.1 d.1) fun S=>
     if (!S) then  some (.nx true) else  some (.nx (n.1 != (y.2==0)))) fun T=>
   if T then
    some false
   else
    zR (σ:=Unit) (
     if n.1 then
      zR (σ:=Unit) (
       qT (σ:=Unit) (ρ:=(Out (Unit) Bool)) (fun (K:Nat) (x4:Literal) (s:Unit)=>
         match s with
         | _=>
         xZ (sl d.1 0 (K:Int)) fun U=>
         xZ (ck ((K:Int)+1)) fun V=>
         xZ (sl d.1 V (d.1.length:Int)) fun W=>
         xZ (ap ([]) U) fun X=>
         xZ (ap X W) fun Y=>
         xZ (cZ N (Template.mk c.1.size c.1.rels) (Instance.mk c.2.vars c.2.cons) Y 2000) fun C=>
         zR (σ:=Bool) (
          if (C.2 != 0) then  some (.nx true) else  some (.nx C.1)) fun Z=>
         if Z then
          some (.ret (.ret false))
         else
          some (.go ())) d.1 0 ()) fun _=>
      some (.nx ())
     else
      some (.nx ())) fun _=>
    zR (σ:=Bool) (
     if n.1 then  if (decide (0<(d.1.length:Int))) then  if (decide ((c.1.rels.length:Int)<6)) then  some (.nx (decide ((c.2.cons.length:Int)<24))) else  some (.nx false) else  some (.nx false) else  some (.nx false)) fun a0=>
    zR (σ:=Unit) (
     if a0 then
      xZ (fJ N (Template.mk c.1.size c.1.rels) (Instance.mk c.2.vars c.2.cons) ([d.1])) fun f=>
      xZ (cR N (Template.mk f.1.size f.1.rels) (Instance.mk f.2.1.vars f.2.1.cons)) fun D=>
      xZ (cS N (Template.mk c.1.size c.1.rels) (Instance.mk c.2.vars c.2.cons)) fun E=>
      zR (σ:=Bool) (
       if (f.2.2 != 0) then  some (.nx true) else  xZ (ck ((c.1.rels.length:Int)+1)) fun a1=>
        if ((f.1.rels.length:Int) != a1) then  some (.nx true) else  if (D.2 != 0) then  some (.nx true) else  if (E.2 != 0) then  some (.nx true) else  some (.nx (D.1 != E.1))) fun a2=>
      if a2 then
       some (.ret false)
      else
       some (.nx ())
     else
      some (.nx ())) fun _=>
    xZ (dX N (Template.mk c.1.size c.1.rels) (Instance.mk c.2.vars c.2.cons) 2000) fun i=>
    xZ (cP N (Template.mk c.1.size c.1.rels) (Instance.mk c.2.vars c.2.cons) 2000) fun p=>
    xZ (cO N (Template.mk c.1.size c.1.rels) (Instance.mk c.2.vars c.2.cons) 2000) fun e=>
    zR (σ:=Bool) (
     if (p.2 != e.2) then  some (.nx true) else  xZ (eW p.1 e.1) fun a3=>
      some (.nx (!a3))) fun a4=>
    if a4 then
     some false
    else
     if (p.2 != 0) then
      zR (σ:=Bool) (
       if (p.2==4) then  some (.nx (i.2==6)) else  some (.nx false)) fun a5=>
      some a5
     else
      zR (σ:=Int) (
       fA (σ:=Int) (ρ:=Bool) (fun(j:Int)=>
        zR (σ:=Bool) (
         if (decide (j<(i.1.length:Int))) then  some (.nx (decide (j<8))) else  some (.nx false)) fun a6=>
        if a6 then
         xZ (ix i.1 j) fun a7=>
         xZ (cZ N (Template.mk c.1.size c.1.rels) (Instance.mk c.2.vars c.2.cons) a7 2000) fun F=>
         zR (σ:=Bool) (
          if (F.2 != 0) then  some (.nx true) else  some (.nx (!F.1))) fun a8=>
         if a8 then
          some (.ret false)
         else
          xZ (ck (j+1)) fun a9=>
          some (.go a9)
        else
         some (.brk j)) N 0) fun az=>
      xZ (aK (Template.mk c.1.size c.1.rels) (Instance.mk c.2.vars c.2.cons) e.1) fun A=>
      xZ (bR N (Template.mk c.1.size c.1.rels) (Instance.mk A.1.vars A.1.cons)) fun aa=>
      zR (σ:=Bool) (
       if (A.2 != 0) then  some (.nx true) else  some (.nx (aa.2 != 6))) fun ab=>
      if ab then
       some false
      else
       zR (σ:=Unit) (
        qT (σ:=Unit) (ρ:=Bool) (fun (L:Nat) (x5:Int) (s:Unit)=>
          match s with
          | _=>
          xZ (sl e.1 0 (L:Int)) fun ac=>
          xZ (ck ((L:Int)+1)) fun ad=>
          xZ (sl e.1 ad (e.1.length:Int)) fun ae=>
          xZ (ap ([]) ac) fun af=>
          xZ (ap af ae) fun ag=>
          xZ (aK (Template.mk c.1.size c.1.rels) (Instance.mk c.2.vars c.2.cons) ag) fun B=>
          xZ (bR N (Template.mk c.1.size c.1.rels) (Instance.mk B.1.vars B.1.cons)) fun ah=>
          zR (σ:=Bool) (
           if (B.2 != 0) then  some (.nx true) else  some (.nx (ah.2 != 0))) fun ai=>
          if ai then
           some (.ret false)
          else
           some (.go ())) e.1 0 ()) fun _=>
       zR (σ:=Bool) (
        if (i.2==0) then  some (.nx true) else  some (.nx (i.2==3))) fun aj=>
       some aj
theorem laws_FnLearnt_c {B:Nat→Prop} {N:Nat} {x0 x1:List UInt8} (r:Bool) (d:laws_FnLearnt N x0 x1=some r) {v0:Value} {v1:Value} (p:World) (hN:∀ c,B c→c<p.heap.size) (A0:Bo B p (Sl 1 bS) v0 x0) (A1:Bo B p (Sl 1 bS) v1 x1):Calls Tryz.prog 3 #[v0,v1] p (kL (.bool r) p):=by
 unfold laws_FnLearnt at d
 refine xX (L:=[(0,v0),(1,v1)]) func3 rfl rfl rfl (sc rfl (sc rfl sn)) (fun a F=>?_);have H:=Sep.start hN;refine xV (xA 1 F rfl fun a F=>xJ (xF (xF ?_)));obtain⟨fc,d,fd⟩:=xM d;refine oH (fun a w=>∃ (s1:Bool),fc= .nx s1∧Sk a 391 [(0,v0),(1,v1),(55,.bool s1)]∧Sep [] B p w []) ?_ ?_
 ·
  refine xY (xA 1 F rfl fun a F=>?_);obtain⟨z1,c1,d⟩:=xB d;refine oK F rfl call4 rfl H (laws_f6big_c z1 c1 _ aA (H.a A0)) fun a w H F=>xA 1 F rfl fun a F=>?_
  rcases vR z1 with b1 | b1
  ·
   replace d:=vX b1 d;have F:=F.eb 52 rfl b1;refine xA 3 F rfl fun a F=>xJ ?_;exact⟨true,(zH d),F.su,H⟩
  replace d:=vW b1 d;have F:=F.eb 52 rfl b1;refine xA 1 F rfl fun a F=>?_;obtain⟨z2,c2,d⟩:=xB d;refine oK F rfl call4 rfl H (laws_f6big_c z2 c2 _ aA (H.a A1)) fun a w H F=>xA 1 F rfl fun a F=>xJ ?_;exact⟨z2,(zH d),F.su,H⟩
 rintro a w ⟨s1,rfl,F,H⟩
 have d:=xW fd;refine xG (qV F rfl (fun hb2=>?_) (fun hb2=>?_))
 ·
  replace d:=vX hb2 d;refine xV (xA 1 F rfl fun a F=>xJ (xR (oQ (xT F rfl (oE F rfl) ?_))));obtain rfl:=oj d;exact⟨rfl,H.bl⟩
 replace d:=vW hb2 d;refine xN (xG (xV (xA 1 F rfl fun a F=>?_)));obtain⟨e,c3,d⟩:=xB d;refine oG F rfl call5 rfl (xAu e c3 _ H.hN (H.u A0)) (fun a n w ⟨h,f,jk,S,D,K⟩ F=>?_);subst n;have H:=H.rk S ⟨n0,⟨n1,trivial⟩⟩ rfl;refine xA 3 F rfl fun a F=>oA zeroValue26 F rfl rfl H fun a w i H F=>oA zeroValue29 F rfl rfl H fun a w j H F=>cN (vs:=[xC e.1.size,h]) sizeOf26 F rfl rfl rfl (H.s [1,0,2,3] rfl rfl) (oc rfl (oc ((H.s [1,0,2,3] rfl rfl).l 2 rfl).one on)) rfl rfl fun w H=>cN (vs:=[xC e.2.vars,f]) sizeOf29 F rfl rfl rfl (H.s [1,0,2,3] rfl rfl) (oc rfl (oc ((H.s [1,0,2,3] rfl rfl).r 3 rfl).one on)) rfl rfl fun w H=>vG ?_;refine oR0 (R:=xU) underlying32 sizeOf35 F rfl H fun a w v3 H F=>xA 1 F rfl fun a F=>xJ (xF (xV (xA 1 F rfl fun a F=>xJ ?_)));obtain⟨o1,d,fe⟩:=xM d;refine oH (fun a w=>∃ (I:List Literal) (C:Value) (s3:Int),o1= .nx (I,s3)∧Sk a 391 [(5,oO i),(6,oO j),(7,C)]∧Sep [] B p w [rl 2 xU 35 C I,bx j [xC e.2.vars,f] 29,bx i [xC e.1.size,h] 26,rl 2 oV 66 h e.1.rels,rw B 2 oR 69 f e.2.cons]∧xS s3) ?_ ?_
 ·
  refine oJ ?_;obtain⟨ff,fg,d⟩:=bJ d;refine qK (fun g a w=>∃ (s4:List Literal) (v5:Value) (Z:Int),fA ff g (s4,Z)=some o1∧Sk a 391 [(1,v1),(5,oO i),(6,oO j),(7,v5),(8,xC Z)]∧Sep [] B p w [rl 2 xU 35 v5 s4,bx j [xC e.2.vars,f] 29,bx i [xC e.1.size,h] 26,rl 2 oV 66 h e.1.rels,rw B 2 oR 69 f e.2.cons]∧xS Z) N ?_ ?_
  ·
   exact⟨[],v3,0,d,F.su,H,(show xS (0) by decide)⟩
  intro g1 a w ⟨s4,v5,Z,d,F,H,i3⟩;obtain⟨jl,t1,jm,d,di⟩:=kR d;rw[fg] at d;refine xF (xF ?_);obtain⟨o2,d,fh⟩:=xM d;refine oH (fun a w=>∃ (s6:Bool),o2= .nx s6∧Sk a 391 [(1,v1),(5,oO i),(6,oO j),(7,v5),(8,xC Z),(69,.bool s6)]∧Sep [] B p w [rl 2 xU 35 v5 s4,bx j [xC e.2.vars,f] 29,bx i [xC e.1.size,h] 26,rl 2 oV 66 h e.1.rels,rw B 2 oR 69 f e.2.cons]) ?_ ?_
  ·
   refine xY (xA 1 F rfl fun a F=>oD eE F rfl rfl rfl fun a F=>oB isAgg2 F rfl rfl (H.b 1 rfl) rfl fun a F=>xA 2 F rfl fun a F=>?_)
   rcases vR (decide (Z<e.2.vars)) with b2 | b2
   ·
    replace d:=vX b2 d;have F:=F.eb 66 rfl b2;refine xA 3 F rfl fun a F=>xJ ?_;exact⟨(decide (Z<3)),(zH d),F.su,H⟩
   replace d:=vW b2 d;have F:=F.eb 66 rfl b2;refine xA 3 F rfl fun a F=>xJ ?_;exact⟨false,(zH d),F.su,H⟩
  rintro a w ⟨s6,rfl,F,H⟩
  have d:=xW fh;refine xG (qV F rfl (fun hb4=>?_) (fun hb4=>?_))
  ·
   replace d:=vX hb4 d;refine xN (xG (xF (oJ ?_)));obtain⟨z4,c4,d⟩:=xB d;obtain⟨z5,c5,d⟩:=xB d;obtain⟨z6,c6,d⟩:=xB d;obtain⟨w1,rfl⟩:∃ x,x=w:=⟨_,rfl⟩;have jn:=H.sm;obtain⟨X1,N1,g2,e1,H,fi,jo⟩:=(H.s [2,0,1,3,4] rfl rfl).fza;have K1:=g2.bk;refine xD H (by kernel_rfl) fun w H=>qW 0 rfl (by kernel_rfl) (xO F rfl (fun w l=>xL F rfl) fun a F=>qW 1 rfl (by kernel_rfl) (xO F rfl (fun w l=>xL F rfl) fun a F=>qW 2 rfl (by kernel_rfl) (xO F rfl (fun w l=>xL F rfl) fun a F=>qE 3 rfl (by kernel_rfl) (xO F rfl (fun w l=>xLr (k0:=.u8) underlying2 underlying5 F rfl) fun a F=>qW 5 rfl (by kernel_rfl) (xO F rfl (fun w l=>xL F rfl) (fun a F=>?_))))));refine qE 7 rfl (by kernel_rfl) (xO F rfl (fun w l=>oM iD F rfl rfl) fun a F=>qE 8 rfl (by kernel_rfl) (vB isAgg2 F rfl rfl (K1.v H.sm) rfl fun a F=>xE H 4 rfl (by kernel_rfl) (cM (R:=bS) (y:=(u8w Z)) underlying22 sizeOf5 zeroValue5 rfl rfl F rfl rfl H Eo.u8 fun a w v6 H F=>xJ ⟨⟨_,H⟩,?_⟩)));refine xE H 6 rfl (by kernel_rfl) (oPf (sz:=1) (R:=bS) (z:=(.int .u8 0)) (bytes:=1) underlying22 (by kernel_rfl) rfl rfl F rfl rfl rfl H.lw (H.lw.a (e1 A1)) c4 (fun a w v7 H F=>?_));have H:=H.tl;refine xJ ⟨⟨_,H⟩,?_⟩;refine xE H 9 rfl (by kernel_rfl) (oKI F rfl call6 rfl H (xAw z5 c5 _ aA (H.l 0 rfl) D) fun a w H fj F=>xJ ⟨⟨_,H⟩,?_⟩);refine qE 10 rfl (by kernel_rfl) (xO F rfl (fun w l=>wT underlying35 zeroValue35 (fun w=>by simp [sizeOf2];rfl) F rfl rfl rfl rfl (oc rfl (oc rfl on)) rfl rfl) fun a F=>xE H 11 rfl (by kernel_rfl) (cM (R:=xU) (y:=(Literal.mk Z z5)) underlying32 sizeOf35 zeroValue35 rfl rfl F rfl rfl H (Eo.agg (xU.m i3 fj)) fun a w v8 H F=>xJ ⟨⟨_,H⟩,?_⟩));refine xE H 12 rfl (by kernel_rfl) (oPL (sz:=2) (R:=xU) (z:=(.agg #[xC 0,xC 0])) (bytes:=16) underlying32 (by kernel_rfl) rfl rfl F rfl rfl rfl (H.s [2,0,1,3,4,5] rfl rfl) c6 fun a w v9 H F=>xJ ⟨⟨_,H⟩,?_⟩);refine qW 13 rfl (by kernel_rfl) (xO F rfl (fun w l=>vK F rfl) fun a F=>vZ (by kernel_rfl) (vH (xG (xY (xA 1 F rfl fun a F=>?_)))));obtain⟨z7,c7,d⟩:=xB d;refine cX F rfl rfl rfl c7 fun a F=>xA 1 F rfl fun a F=>xJ ?_;replace d:=vU d di;exact⟨t1,(by omega),z6,v9,z7,d,F.su,((fi.1 (H.s [0,2,3,4] rfl rfl) (Ns.all ⟨n0,⟨n0,⟨n0,⟨n1,trivial⟩⟩⟩⟩)).s [1,2,0,3,4] rfl rfl),(kV c7)⟩
  replace d:=vW hb4 d;refine qJ (qM (qM ?_));replace d:=gV d di;refine zQ (xG ?_);exact⟨s4,v5,Z,(zH d),F.su,H,i3⟩
 rintro a w ⟨I,C,s3,rfl,F,H,i4⟩
 have d:=xW fe;refine xG (xV (dJ isAgg26 sizeOf26 F rfl rfl (H.b 2 rfl) rfl rfl fun a F=>dJ isAgg29 sizeOf29 F rfl rfl (H.b 1 rfl) rfl rfl fun a F=>xA 1 F rfl fun a F=>?_));obtain⟨E,c8,d⟩:=xB d;refine oG F rfl call7 rfl (hG E c8 _ aA (xH.m D (H.l 3 rfl)) (xK.m K (H.r 4 rfl)) (H.l 0 rfl) (show xS (2000) by decide)) (fun a n w ⟨jp,S,i5⟩ F=>?_);subst n;have H:=H.r0 S;refine xA 5 F rfl fun a F=>vG (dJ isAgg26 sizeOf26 F rfl rfl (H.b 2 rfl) rfl rfl fun a F=>dJ isAgg29 sizeOf29 F rfl rfl (H.b 1 rfl) rfl rfl (fun a F=>?_));obtain⟨M,c9,d⟩:=xB d;refine oG F rfl call8 rfl (rL M c9 _ aA (xH.m D (H.l 3 rfl)) (xK.m K (H.r 4 rfl))) (fun a n w ⟨Q,jq,S,i6⟩ F=>?_);subst n;have H:=H.r1 S n0;refine xA 5 F rfl fun a F=>xJ (xF (xF ?_));obtain⟨o3,d,fk⟩:=xM d;refine oH (fun a w=>∃ (s7:Bool),o3= .nx s7∧Sk a 391 [(5,oO i),(6,oO j),(7,C),(9,.bool E.1),(11,Q),(12,xC M.2),(107,.bool s7)]∧Sep [] B p w [rl 1 (vQ 1 xI) 41 Q M.1,rl 2 xU 35 C I,bx j [xC e.2.vars,f] 29,bx i [xC e.1.size,h] 26,rl 2 oV 66 h e.1.rels,rw B 2 oR 69 f e.2.cons]) ?_ ?_
 ·
  refine xY (xA 3 F rfl fun a F=>?_)
  rcases vR (E.2 != 0) with hb5 | hb5
  ·
   replace d:=vX hb5 d;have F:=F.eb 100 rfl hb5;refine xA 7 F rfl fun a F=>xJ ?_;exact⟨true,(zH d),F.su,H⟩
  replace d:=vW hb5 d;have F:=F.eb 100 rfl hb5;refine xA 3 F rfl fun a F=>?_
  rcases vR (M.2 != 0) with hb6 | hb6
  ·
   replace d:=vX hb6 d;have F:=F.eb 103 rfl hb6;refine xA 4 F rfl fun a F=>xJ ?_;exact⟨(M.2 != 3),(zH d),F.su,H⟩
  replace d:=vW hb6 d;have F:=F.eb 103 rfl hb6;refine xA 4 F rfl fun a F=>xJ ?_;exact⟨false,(zH d),F.su,H⟩
 rintro a w ⟨s7,rfl,F,H⟩
 have d:=xW fk;refine xG (qV F rfl (fun hb7=>?_) (fun hb7=>?_))
 ·
  replace d:=vX hb7 d;refine xV (xA 1 F rfl fun a F=>xJ (xR (oQ (xT F rfl (oE F rfl) ?_))));obtain rfl:=oj d;exact⟨rfl,H.bl⟩
 replace d:=vW hb7 d;refine xN (xG (xF (xV (xA 2 F rfl fun a F=>xJ ?_))));obtain⟨o4,d,dj⟩:=xM d;refine oH (fun a w=>o4= .nx ()∧Sk a 391 [(5,oO i),(6,oO j),(7,C),(9,.bool E.1)]∧Sep [] B p w [rl 2 xU 35 C I,bx j [xC e.2.vars,f] 29,bx i [xC e.1.size,h] 26,rl 2 oV 66 h e.1.rels,rw B 2 oR 69 f e.2.cons]) ?_ ?_
 ·
  refine qV F rfl (fun hb8=>?_) (fun hb8=>?_)
  ·
   replace d:=vX hb8 d;refine xV (xA 1 F rfl fun a F=>xJ (xF (xV (xA 1 F rfl fun a F=>xJ ?_))));obtain⟨o5,d,fl⟩:=xM d;refine oH (fun a w=>∃ (s8:Bool),o5= .nx s8∧Sk a 391 [(5,oO i),(6,oO j),(7,C),(9,.bool E.1),(13,.bool s8)]∧Sep [] B p w [rl 2 xU 35 C I,bx j [xC e.2.vars,f] 29,bx i [xC e.1.size,h] 26,rl 2 oV 66 h e.1.rels,rw B 2 oR 69 f e.2.cons]) ?_ ?_
   ·
    refine oJ ?_;obtain⟨fm,fn,d⟩:=qP d;refine qK (fun g a w=>∃ (k1:Nat) (t2:List (List Int)) (s9:Bool),(k1≤M.1.length∧M.1.drop k1=t2)∧t2.length=g∧qT fm t2 k1 s9=some o5∧Sk a 391 [(14,xC (k1:Int)),(5,oO i),(6,oO j),(7,C),(9,.bool E.1),(11,Q),(13,.bool s9)]∧Sep [] B p w [rl 1 (vQ 1 xI) 41 Q M.1,rl 2 xU 35 C I,bx j [xC e.2.vars,f] 29,bx i [xC e.1.size,h] 26,rl 2 oV 66 h e.1.rels,rw B 2 oR 69 f e.2.cons]) M.1.length ?_ ?_
    ·
     exact⟨0,M.1,false,⟨Nat.zero_le _,rfl⟩,rfl,d,F.su,H⟩
    intro g3 a w ⟨k1,t2,s9,V,fo,d,F,H⟩
    cases t2 with
    | nil=>
     replace d:=qO d;have q1:=qQ V.1 V.2;have l1:=vS q1;refine xF (xV (xA 2 F rfl fun a F=>oL underlying38 F rfl rfl (H.l 0 rfl) fun a i7 F=>xA 1 F rfl fun a F=>xJ (zD F rfl l1 (qJ ?_))));refine qM (qM (zQ (xG ?_)));exact⟨s9,(zH d),F.su,(H.s [1,2,3,4,5] rfl rfl)⟩
    | cons x2 t2=>
     subst fo;replace V:=oZ V.2;have y1:=qX V.2.1;obtain⟨jr,d,fp⟩:=qG d;rw[fn] at d;have l1:=vE V.1;refine xF (xV (xA 2 F rfl fun a F=>oL underlying38 F rfl rfl (H.l 0 rfl) fun a i8 F=>xA 1 F rfl fun a F=>xJ (zC F rfl l1 (xN ?_))));refine xG (xF ?_);have j1:=gP (Nat.le_of_lt V.1) i8;have m1:=zU V.1 i8;refine oJ (xV (xA 1 F rfl fun a F=>xJ (xF (xV (xA 1 F rfl fun a F=>qU ?_)))));refine xG ?_;obtain⟨o6,d,fq⟩:=xM d;refine oH (fun a w=>∃ (ba:Bool),o6= .nx ba∧Sk a 391 [(5,oO i),(6,oO j),(7,C),(9,.bool E.1),(11,Q),(13,.bool s9),(14,xC (k1:Int)),(15,.bool ba)]∧Sep [] B p w [rl 1 (vQ 1 xI) 41 Q M.1,rl 2 xU 35 C I,bx j [xC e.2.vars,f] 29,bx i [xC e.1.size,h] 26,rl 2 oV 66 h e.1.rels,rw B 2 oR 69 f e.2.cons]) ?_ ?_
     ·
      refine oJ ?_;obtain⟨fs,ft,d⟩:=qP d;refine qK (fun g a w=>∃ (k2:Nat) (t3:List Literal) (s11:Bool),(k2≤I.length∧I.drop k2=t3)∧t3.length=g∧qT fs t3 k2 s11=some o6∧Sk a 391 [(16,xC (k2:Int)),(5,oO i),(6,oO j),(7,C),(9,.bool E.1),(11,Q),(13,.bool s9),(14,xC (k1:Int)),(15,.bool s11)]∧Sep [] B p w [rl 1 (vQ 1 xI) 41 Q M.1,rl 2 xU 35 C I,bx j [xC e.2.vars,f] 29,bx i [xC e.1.size,h] 26,rl 2 oV 66 h e.1.rels,rw B 2 oR 69 f e.2.cons]) I.length ?_ ?_
      ·
       exact⟨0,I,true,⟨Nat.zero_le _,rfl⟩,rfl,d,F.su,H⟩
      intro g4 a w ⟨k2,t3,s11,W,fu,d,F,H⟩
      cases t3 with
      | nil=>
       replace d:=qO d;have q2:=qQ W.1 W.2;have l2:=vS q2;refine xF (xV (xA 2 F rfl fun a F=>oL underlying32 F rfl rfl (H.l 1 rfl) fun a i9 F=>xA 1 F rfl fun a F=>xJ (zD F rfl l2 (qJ ?_))));refine qM (qM (zQ (xG ?_)));exact⟨s11,(zH d),F.su,H⟩
      | cons x3 t3=>
       subst fu;replace W:=oZ W.2;have y2:=qX W.2.1;obtain⟨js,d,fv⟩:=qG d;rw[ft] at d;have l2:=vE W.1;refine xF (xV (xA 2 F rfl fun a F=>oL underlying32 F rfl rfl (H.l 1 rfl) fun a dk F=>xA 1 F rfl fun a F=>xJ (zC F rfl l2 (xN ?_))));refine xG (xF ?_);have j2:=gP (Nat.le_of_lt W.1) dk;have m2:=zU W.1 dk;refine oJ ?_;obtain⟨o7,d,fw⟩:=xM d;refine oH (fun a w=>∃ (bb:Bool),o7= .nx bb∧Sk a 391 [(5,oO i),(6,oO j),(7,C),(9,.bool E.1),(11,Q),(13,.bool s9),(14,xC (k1:Int)),(15,.bool bb),(16,xC (k2:Int))]∧Sep [] B p w [rl 1 (vQ 1 xI) 41 Q M.1,rl 2 xU 35 C I,bx j [xC e.2.vars,f] 29,bx i [xC e.1.size,h] 26,rl 2 oV 66 h e.1.rels,rw B 2 oR 69 f e.2.cons]) ?_ ?_
       ·
        refine xQ H (by kernel_rfl) (by kernel_rfl) (xP F rfl (fun w l=>xL F rfl) fun a F=>xP F rfl (fun w l=>xL F rfl) (fun a F=>?_))
        rcases vR s11 with hb9 | hb9
        ·
         replace d:=vX hb9 d;have F:=F.eb 123 rfl hb9;refine xP F rfl (fun w l=>xL F rfl) fun a F=>xP F rfl (fun w l=>xL F rfl) fun a F=>qI underlying38 sizeOf41 F rfl rfl rfl (H.l 0 rfl) y1 fun a p1 h1 F=>qlS isAgg41 F rfl rfl qA h1 fun a jt h2 F=>xP F rfl (fun w l=>xL F rfl) fun a F=>xP F rfl (fun w l=>xL F rfl) fun a F=>qI underlying32 sizeOf35 F rfl rfl rfl (H.l 1 rfl) y2 fun a p2 h3 F=>qF (s':=1) nW F rfl rfl h3 xU.f0 fun a p3 h4 F=>qlI isAgg2 F rfl rfl qA h4 (fun a ju F=>?_);obtain⟨fy,g0,d⟩:=xB d;refine qI underlying41 sizeOf2 F rfl rfl rfl h2 g0 fun a p4 h5 F=>qlI isAgg2 F rfl rfl qA h5 fun a jv F=>xP F rfl (fun w l=>xL F rfl) fun a F=>xP F rfl (fun w l=>xL F rfl) fun a F=>qI underlying32 sizeOf35 F rfl rfl rfl (H.l 1 rfl) y2 fun a p5 h6 F=>qF (s':=1) pV F rfl rfl h6 xU.f1 fun a p6 h7 F=>qlI isAgg2 F rfl rfl qA h7 fun a jw F=>xP F rfl (fun w l=>tN F rfl rfl) fun a F=>xP F rfl (fun w l=>cD F rfl rfl) fun a F=>xP F rfl (fun w l=>vK F rfl) fun a F=>kZ (fun w H=>?_);refine xG ?_;exact⟨(fy==x3.value),(zH d),F.su,H⟩
        replace d:=vW hb9 d;have F:=F.eb 123 rfl hb9;refine qR F rfl rfl fun a F=>qR F rfl rfl fun a F=>qR F rfl rfl fun a F=>qR F rfl rfl fun a F=>qR F rfl rfl fun a F=>qR F rfl rfl fun a F=>qR F rfl rfl fun a F=>qR F rfl rfl fun a F=>qR F rfl rfl fun a F=>qR F rfl rfl fun a F=>qR F rfl rfl (fun a F=>?_);refine qR F rfl rfl fun a F=>qR F rfl rfl fun a F=>qR F rfl rfl fun a F=>qR F rfl rfl fun a F=>qR F rfl rfl fun a F=>qR F rfl rfl fun a F=>xP F rfl (fun w l=>cG F rfl rfl) fun a F=>xP F rfl (fun w l=>vK F rfl) fun a F=>kZ fun w H=>xG ?_;exact⟨false,(zH d),F.su,H⟩
       rintro a w ⟨bb,rfl,F,H⟩
       have d:=xW fw;refine vH (xG (xY (xA 1 F rfl fun a F=>vP F rfl rfl rfl m2 fun a F=>xA 1 F rfl fun a F=>xJ ?_)));replace d:=vU d fv;exact⟨_,Nat.lt_succ_self _,k2+1,t3,bb,⟨W.1,W.2.2⟩,rfl,d,F.su,H⟩
     rintro a w ⟨ba,rfl,F,H⟩
     have d:=xW fq;refine xG ?_;obtain⟨o8,d,hk9⟩:=xM d;refine oH (fun a w=>∃ (bc:Bool),o8= .nx bc∧Sk a 391 [(5,oO i),(6,oO j),(7,C),(9,.bool E.1),(11,Q),(13,.bool bc),(14,xC (k1:Int))]∧Sep [] B p w [rl 1 (vQ 1 xI) 41 Q M.1,rl 2 xU 35 C I,bx j [xC e.2.vars,f] 29,bx i [xC e.1.size,h] 26,rl 2 oV 66 h e.1.rels,rw B 2 oR 69 f e.2.cons]) ?_ ?_
     ·
      refine xY (xA 2 F rfl fun a F=>?_)
      rcases vR s9 with ag | ag
      ·
       replace d:=vX ag d;have F:=F.eb 143 rfl ag;refine xA 3 F rfl fun a F=>xJ ?_;exact⟨true,(zH d),F.su,H⟩
      replace d:=vW ag d;have F:=F.eb 143 rfl ag;refine xA 3 F rfl fun a F=>xJ ?_;exact⟨ba,(zH d),F.su,H⟩
     rintro a w ⟨bc,rfl,F,H⟩
     have d:=xW hk9;refine vH (xG (xY (xA 1 F rfl fun a F=>vP F rfl rfl rfl m1 fun a F=>xA 1 F rfl fun a F=>xJ ?_)));replace d:=vU d fp;exact⟨_,Nat.lt_succ_self _,k1+1,t2,bc,⟨V.1,V.2.2⟩,rfl,d,F.su,H⟩
   rintro a w ⟨s8,rfl,F,H⟩
   have d:=xW fl;refine xG (xV (xA 2 F rfl fun a F=>xOk underlying4 F rfl rfl rfl fun a F=>xJ (qV F rfl (fun bn=>?_) (fun bn=>?_))))
   ·
    replace d:=vX bn d;refine xV (xA 1 F rfl fun a F=>xJ (xR (oQ ?_)));replace d:=zZ d dj;refine oQ (xT F rfl (oE F rfl) ?_);obtain rfl:=oj d;exact⟨rfl,H.bl⟩
   replace d:=vW bn d;refine xN (xG ?_);exact⟨(zH d),F.su,H⟩
  replace d:=vW hb8 d;refine xN (xG ?_);exact⟨(zH d),F.su,(H.s [1,2,3,4,5] rfl rfl)⟩
 rintro a w ⟨rfl,F,H⟩
 have d:=xW dj;refine xG (xV (dJ isAgg26 sizeOf26 F rfl rfl (H.b 2 rfl) rfl rfl fun a F=>dJ isAgg29 sizeOf29 F rfl rfl (H.b 1 rfl) rfl rfl fun a F=>xA 1 F rfl fun a F=>?_));obtain⟨z11,c11,d⟩:=xB d;refine oG F rfl call9 rfl (rT z11 c11 _ aA (xH.m D (H.l 3 rfl)) (xK.m K (H.r 4 rfl)) (H.l 0 rfl) (show xS (2000) by decide)) (fun a n w ⟨jx,jy,S,jz⟩ F=>?_);subst n;have H:=H.r1 S n0;refine xA 5 F rfl fun a F=>vG (dJ isAgg26 sizeOf26 F rfl rfl (H.b 3 rfl) rfl rfl fun a F=>dJ isAgg29 sizeOf29 F rfl rfl (H.b 2 rfl) rfl rfl (fun a F=>?_));refine xA 1 F rfl fun a F=>?_;obtain⟨O,c12,d⟩:=xB d;refine oG F rfl call10 rfl (rN O c12 _ aA (xH.m D (H.l 4 rfl)) (xK.m K (H.r 5 rfl)) (H.l 1 rfl) (show xS (2000) by decide)) (fun a n w ⟨T,hv5,S,i15⟩ F=>?_);subst n;have H:=H.r1 S n0;refine xA 5 F rfl fun a F=>xJ (xF (xF ?_));obtain⟨o9,d,ey⟩:=xM d;refine oH (fun a w=>∃ (s14:Bool),o9= .nx s14∧Sk a 391 [(5,oO i),(6,oO j),(9,.bool E.1),(19,T),(177,.bool s14)]∧Sep [] B p w [rl 2 xU 35 T O.1,bx j [xC e.2.vars,f] 29,bx i [xC e.1.size,h] 26,rl 2 oV 66 h e.1.rels,rw B 2 oR 69 f e.2.cons]) ?_ ?_
 ·
  refine xY (xA 4 F rfl fun a F=>?_)
  rcases vR (z11.2 != O.2) with ah | ah
  ·
   replace d:=vX ah d;have F:=F.eb 166 rfl ah;refine xA 11 F rfl fun a F=>?_;refine xJ ?_;exact⟨true,(zH d),F.su,(H.s [0,3,4,5,6] rfl rfl)⟩
  replace d:=vW ah d;have F:=F.eb 166 rfl ah;refine xA 2 F rfl fun a F=>?_;obtain⟨dl,c13,d⟩:=xB d;refine oK F rfl call11 rfl H (rP dl c13 _ aA (H.l 1 rfl) (H.l 0 rfl)) fun a w H F=>xA 3 F rfl fun a F=>?_
  rcases vR (!dl) with ai | ai
  ·
   replace d:=vX ai d;have F:=F.eb 172 rfl ai;refine xA 5 F rfl fun a F=>xJ ?_;exact⟨true,(zH d),F.su,(H.s [0,3,4,5,6] rfl rfl)⟩
  replace d:=vW ai d;have F:=F.eb 172 rfl ai;refine xA 3 F rfl fun a F=>xOr underlying4 F rfl rfl rfl fun a F=>xA 1 F rfl fun a F=>xJ ?_;exact⟨(E.1 != (z11.2==0)),(zH d),F.su,(H.s [0,3,4,5,6] rfl rfl)⟩
 rintro a w ⟨s14,rfl,F,H⟩
 have d:=xW ey;refine xG (qV F rfl (fun bp=>?_) (fun bp=>?_))
 ·
  replace d:=vX bp d;refine xV (xA 1 F rfl fun a F=>xJ (xR (oQ (xT F rfl (oE F rfl) ?_))));obtain rfl:=oj d;exact⟨rfl,H.bl⟩
 replace d:=vW bp d;refine xN (xG (xF (xV (xA 1 F rfl fun a F=>xJ ?_))));obtain⟨o10,d,dd⟩:=xM d;refine oH (fun a w=>o10= .nx ()∧Sk a 391 [(5,oO i),(6,oO j),(9,.bool E.1),(19,T)]∧Sep [] B p w [rl 2 xU 35 T O.1,bx j [xC e.2.vars,f] 29,bx i [xC e.1.size,h] 26,rl 2 oV 66 h e.1.rels,rw B 2 oR 69 f e.2.cons]) ?_ ?_
 ·
  refine qV F rfl (fun bq=>?_) (fun bq=>?_)
  ·
   replace d:=vX bq d;refine xV (xA 1 F rfl fun a F=>xJ ?_);obtain⟨dm,d,de⟩:=xM d;refine oH (fun a w=>dm= .nx ()∧Sk a 391 [(5,oO i),(6,oO j),(9,.bool E.1),(19,T)]∧Sep [] B p w [rl 2 xU 35 T O.1,bx j [xC e.2.vars,f] 29,bx i [xC e.1.size,h] 26,rl 2 oV 66 h e.1.rels,rw B 2 oR 69 f e.2.cons]) ?_ ?_
   ·
    refine oJ ?_;obtain⟨fl4,hf4,d⟩:=qP d;refine qK (fun g a w=>∃ (k3:Nat) (t4:List Literal),(k3≤O.1.length∧O.1.drop k3=t4)∧t4.length=g∧qT fl4 t4 k3 ()=some dm∧Sk a 391 [(21,xC (k3:Int)),(5,oO i),(6,oO j),(9,.bool E.1),(19,T)]∧Sep [] B p w [rl 2 xU 35 T O.1,bx j [xC e.2.vars,f] 29,bx i [xC e.1.size,h] 26,rl 2 oV 66 h e.1.rels,rw B 2 oR 69 f e.2.cons]) O.1.length ?_ ?_
    ·
     exact⟨0,O.1,⟨Nat.zero_le _,rfl⟩,rfl,d,F.su,H⟩
    intro g5 a w ⟨k3,t4,X,hg4,d,F,H⟩
    cases t4 with
    | nil=>
     replace d:=qO d;have q3:=qQ X.1 X.2;have l3:=vS q3;refine xF (xV (xA 2 F rfl fun a F=>oL underlying32 F rfl rfl (H.l 0 rfl) fun a i16 F=>xA 1 F rfl fun a F=>xJ (zD F rfl l3 (qJ ?_))));refine qM (qM (zQ (xG ?_)));exact⟨(zH d),F.su,H⟩
    | cons x4 t4=>
     subst hg4;replace X:=oZ X.2;have y3:=qX X.2.1;obtain⟨k4,d,dq⟩:=qG d;rw[hf4] at d;have l3:=vE X.1;refine xF (xV (xA 2 F rfl fun a F=>oL underlying32 F rfl rfl (H.l 0 rfl) fun a dr F=>xA 1 F rfl fun a F=>xJ (zC F rfl l3 (xN ?_))));refine xG (xF ?_);have j3:=gP (Nat.le_of_lt X.1) dr;have m3:=zU X.1 dr;refine oJ (xF ?_);obtain⟨k5,c14,d⟩:=xB d;obtain⟨k6,ga,d⟩:=xB d;obtain⟨k7,gb,d⟩:=xB d;obtain⟨k8,gc,d⟩:=xB d;obtain⟨k9,gd,d⟩:=xB d;obtain⟨w2,rfl⟩:∃ x,x=w:=⟨_,rfl⟩;have ka:=H.sm;obtain⟨X2,N2,g6,e2,H,ds,kb⟩:=H.fza;have h8:=g6.ld;refine xD H (by kernel_rfl) fun w H=>qW 1 rfl (by kernel_rfl) (xO F rfl (fun w l=>xL F rfl) fun a F=>qW 2 rfl (by kernel_rfl) (xO F rfl (fun w l=>xL F rfl) fun a F=>qE 3 rfl (by kernel_rfl) (vC underlying32 sizeOf35 F rfl rfl rfl rfl h8 c14 fun a kc h9 F=>qW 5 rfl (by kernel_rfl) (xO F rfl (fun w l=>xL F rfl) fun a F=>qW 6 rfl (by kernel_rfl) (xO F rfl (fun w l=>xL F rfl) (fun a F=>?_))))));refine qW 7 rfl (by kernel_rfl) (xO F rfl (fun w l=>rY F rfl rfl ga) fun a F=>qE 8 rfl (by kernel_rfl) (vC underlying32 sizeOf35 F rfl rfl rfl rfl h8 gb fun a kd ge F=>xE H 0 rfl (by kernel_rfl) (oR0 (R:=xU) underlying32 sizeOf35 F rfl H fun a w ke H F=>xJ ⟨⟨_,H⟩,?_⟩)));refine xE H 4 rfl (by kernel_rfl) (oPf (sz:=2) (R:=xU) (z:=(.agg #[xC 0,xC 0])) (bytes:=16) underlying32 (by kernel_rfl) rfl rfl F rfl rfl rfl H.lw (H.lw.a h9) gc (fun a w kf H F=>?_));have H:=H.tl;refine xJ ⟨⟨_,H⟩,?_⟩;refine xE H 9 rfl (by kernel_rfl) (oPf (sz:=2) (R:=xU) (z:=(.agg #[xC 0,xC 0])) (bytes:=16) underlying32 (by kernel_rfl) rfl rfl F rfl rfl rfl H.lw (H.lw.a ge) gd (fun a w kg H F=>?_));have H:=H.tl;refine xJ ⟨⟨_,H⟩,?_⟩;refine qW 10 rfl (by kernel_rfl) (xO F rfl (fun w l=>vK F rfl) fun a F=>vZ (by kernel_rfl) (xG (xV (dJ isAgg26 sizeOf26 F rfl rfl (H.b 2 rfl) rfl rfl fun a F=>dJ isAgg29 sizeOf29 F rfl rfl (H.b 1 rfl) rfl rfl fun a F=>xA 1 F rfl fun a F=>?_))));obtain⟨ca,gf,d⟩:=xB d;refine oG F rfl call7 rfl (hG ca gf _ aA (xH.m D (H.l 3 rfl)) (xK.m K (H.r 4 rfl)) (H.l 0 rfl) (show xS (2000) by decide)) (fun a n w ⟨kh,S,ki⟩ F=>?_);subst n;have H:=H.r0 S;refine xA 5 F rfl fun a F=>xJ (xF ?_);obtain⟨gg,d,ez⟩:=xM d;refine oH (fun a w=>∃ (cb:Bool),gg= .nx cb∧Sk a 391 [(5,oO i),(6,oO j),(9,.bool E.1),(19,T),(21,xC (k3:Int)),(206,.bool cb)]∧Sep X2 N2 w2 w [bx j [xC e.2.vars,f] 29,bx i [xC e.1.size,h] 26,rl 2 oV 66 h e.1.rels,rw B 2 oR 69 f e.2.cons]) ?_ ?_
     ·
      refine xY (xA 3 F rfl fun a F=>?_)
      rcases vR (ca.2 != 0) with aj | aj
      ·
       replace d:=vX aj d;have F:=F.eb 204 rfl aj;refine xA 2 F rfl fun a F=>xJ ?_;exact⟨true,(zH d),F.su,(H.s [1,2,3,4] rfl rfl)⟩
      replace d:=vW aj d;have F:=F.eb 204 rfl aj;refine xA 2 F rfl fun a F=>xJ ?_;exact⟨ca.1,(zH d),F.su,(H.s [1,2,3,4] rfl rfl)⟩
     rintro a w ⟨cb,rfl,F,H⟩
     have d:=xW ez;refine xG (qV F rfl (fun br=>?_) (fun br=>?_))
     ·
      replace d:=vX br d;refine xV (xA 1 F rfl fun a F=>xJ (xR (vT (oQ (oQ ?_)))));replace d:=kD d dq;refine vT (oQ ?_);replace d:=zZ d de;refine oQ ?_;replace d:=zZ d dd;refine oQ ?_;have H:=(ds.1 H (Ns.all ⟨n0,⟨n0,⟨n0,⟨n1,trivial⟩⟩⟩⟩));refine xT F rfl (oE F rfl) ?_;obtain rfl:=oj d;exact⟨rfl,H.bl⟩
     replace d:=vW br d;refine xN (vH (xG (xY (xA 1 F rfl fun a F=>vP F rfl rfl rfl m3 fun a F=>xA 1 F rfl fun a F=>xJ ?_))));replace d:=vU d dq;exact⟨_,Nat.lt_succ_self _,k3+1,t4,⟨X.1,X.2.2⟩,rfl,d,F.su,(ds.1 H (Ns.all ⟨n0,⟨n0,⟨n0,⟨n1,trivial⟩⟩⟩⟩))⟩
   rintro a w ⟨rfl,F,H⟩
   have d:=xW de;refine xG ?_;exact⟨(zH d),F.su,H⟩
  replace d:=vW bq d;refine xN (xG ?_);exact⟨(zH d),F.su,H⟩
 rintro a w ⟨rfl,F,H⟩
 have d:=xW dd;refine xG (xF (xF ?_));obtain⟨gh,d,f3⟩:=xM d;refine oH (fun a w=>∃ (cc:Bool),gh= .nx cc∧Sk a 391 [(5,oO i),(6,oO j),(19,T),(224,.bool cc)]∧Sep [] B p w [rl 2 xU 35 T O.1,bx j [xC e.2.vars,f] 29,bx i [xC e.1.size,h] 26,rl 2 oV 66 h e.1.rels,rw B 2 oR 69 f e.2.cons]) ?_ ?_
 ·
  refine xY (xA 2 F rfl fun a F=>?_)
  rcases vR E.1 with ak | ak
  ·
   replace d:=vX ak d;have F:=F.eb 208 rfl ak;refine xA 1 F rfl fun a F=>oL underlying32 F rfl rfl (H.l 0 rfl) fun a kj F=>xA 3 F rfl fun a F=>?_
   rcases vR (decide (0<(O.1.length:Int))) with al | al
   ·
    replace d:=vX al d;have F:=F.eb 213 rfl al;refine oD kG F rfl rfl rfl fun a F=>oB isAgg24 F rfl rfl (H.b 2 rfl) rfl fun a F=>oL underlying24 F rfl rfl (H.l 3 rfl) fun a kk F=>xA 3 F rfl fun a F=>?_
    rcases vR (decide ((e.1.rels.length:Int)<6)) with am | am
    ·
     replace d:=vX am d;have F:=F.eb 219 rfl am;refine oD zT F rfl rfl rfl fun a F=>oB isAgg27 F rfl rfl (H.b 1 rfl) rfl fun a F=>oL underlying27 F rfl rfl (H.r 4 rfl) fun a kl F=>xA 2 F rfl fun a F=>xJ ?_;exact⟨(decide ((e.2.cons.length:Int)<24)),(zH d),F.su,H⟩
    replace d:=vW am d;have F:=F.eb 219 rfl am;refine xA 5 F rfl fun a F=>xJ ?_;exact⟨false,(zH d),F.su,H⟩
   replace d:=vW al d;have F:=F.eb 213 rfl al;refine xA 11 F rfl fun a F=>?_;refine xJ ?_;exact⟨false,(zH d),F.su,H⟩
  replace d:=vW ak d;have F:=F.eb 208 rfl ak;refine xA 11 F rfl fun a F=>?_;refine xA 5 F rfl fun a F=>xJ ?_;exact⟨false,(zH d),F.su,H⟩
 rintro a w ⟨cc,rfl,F,H⟩
 have d:=xW f3;refine xG ?_;obtain⟨gi,d,df⟩:=xM d;refine oH (fun a w=>gi= .nx ()∧Sk a 391 [(5,oO i),(6,oO j)]∧Sep [] B p w [bx j [xC e.2.vars,f] 29,bx i [xC e.1.size,h] 26,rl 2 oV 66 h e.1.rels,rw B 2 oR 69 f e.2.cons]) ?_ ?_
 ·
  refine qV F rfl (fun bt=>?_) (fun bt=>?_)
  ·
   replace d:=vX bt d;refine xV (dJ isAgg26 sizeOf26 F rfl rfl (H.b 2 rfl) rfl rfl fun a F=>dJ isAgg29 sizeOf29 F rfl rfl (H.b 1 rfl) rfl rfl fun a F=>xA 1 F rfl fun a F=>?_);have H:=H.os;refine eZ (R:=(vQ 2 xU)) (y:=O.1) underlying47 sizeOf32 zeroValue32 rfl rfl F rfl rfl H El.sl (fun a w km H F=>?_);obtain⟨z21,gj,d⟩:=xB d;refine oG F rfl call12 rfl (tB z21 gj _ aA (xH.m D (H.l 3 rfl)) (xK.m K (H.r 4 rfl)) (H.l 0 rfl)) (fun a n w ⟨gk,gl,kn,S,gm,gn,ko⟩ F=>?_);subst n;have H:=H.rk S ⟨n0,⟨n0,trivial⟩⟩ rfl;refine xA 4 F rfl fun a F=>oA zeroValue26 F rfl rfl H fun a w b3 H F=>oA zeroValue29 F rfl rfl H fun a w b4 H F=>cN (vs:=[xC z21.1.size,gk]) sizeOf26 F rfl rfl rfl (H.s [1,0,2,3,4,5,6,7,8] rfl rfl) (oc rfl (oc ((H.s [1,0,2,3,4,5,6,7,8] rfl rfl).l 2 rfl).one on)) rfl rfl fun w H=>cN (vs:=[xC z21.2.1.vars,gl]) sizeOf29 F rfl rfl rfl (H.s [1,0,2,3,4,5,6,7,8] rfl rfl) (oc rfl (oc ((H.s [1,0,2,3,4,5,6,7,8] rfl rfl).l 3 rfl).one on)) rfl rfl fun w H=>xA 1 F rfl fun a F=>xJ ?_;refine xV (dJ isAgg26 sizeOf26 F rfl rfl (H.b 1 rfl) rfl rfl fun a F=>dJ isAgg29 sizeOf29 F rfl rfl (H.b 0 rfl) rfl rfl (fun a F=>?_));obtain⟨cd,gp,d⟩:=xB d;refine oG F rfl call13 rfl (pL cd gp _ aA (xH.m gm (H.l 2 rfl)) (xK.m gn (H.l 3 rfl))) (fun a n w ⟨kp,S,kq,kr⟩ F=>?_);subst n;have H:=H.r0 S;refine xA 5 F rfl fun a F=>vG (dJ isAgg26 sizeOf26 F rfl rfl (H.b 6 rfl) rfl rfl fun a F=>dJ isAgg29 sizeOf29 F rfl rfl (H.b 5 rfl) rfl rfl (fun a F=>?_));obtain⟨ce,gq,d⟩:=xB d;refine oG F rfl call14 rfl (pK ce gq _ aA (xH.m D (H.l 7 rfl)) (xK.m K (H.r 8 rfl))) (fun a n w ⟨ks,S,kt,ku⟩ F=>?_);subst n;have H:=H.r0 S;refine xA 5 F rfl fun a F=>xJ (xF ?_);obtain⟨gr,d,f4⟩:=xM d;refine oH (fun a w=>∃ (cf:Bool),gr= .nx cf∧Sk a 391 [(5,oO i),(6,oO j),(270,.bool cf)]∧Sep [] B p w [bx j [xC e.2.vars,f] 29,bx i [xC e.1.size,h] 26,rl 2 oV 66 h e.1.rels,rw B 2 oR 69 f e.2.cons]) ?_ ?_
   ·
    refine xY (xA 3 F rfl fun a F=>?_)
    rcases vR (z21.2.2 != 0) with an | an
    ·
     replace d:=vX an d;have F:=F.eb 248 rfl an;refine xA 11 F rfl fun a F=>?_;refine xA 11 F rfl fun a F=>?_;refine xJ ?_;exact⟨true,(zH d),F.su,(H.s [5,6,7,8] rfl rfl)⟩
    replace d:=vW an d;have F:=F.eb 248 rfl an;refine oD kG F rfl rfl rfl fun a F=>oB isAgg24 F rfl rfl (H.b 1 rfl) rfl fun a F=>oL underlying24 F rfl rfl (H.l 2 rfl) fun a kv F=>oD kG F rfl rfl rfl fun a F=>oB isAgg24 F rfl rfl (H.b 6 rfl) rfl fun a F=>oL underlying24 F rfl rfl (H.l 7 rfl) (fun a kw F=>?_);obtain⟨gs,gt,d⟩:=xB d;refine cX F rfl rfl rfl gt fun a F=>xA 3 F rfl fun a F=>?_
    rcases vR ((z21.1.rels.length:Int) != gs) with ao | ao
    ·
     replace d:=vX ao d;have F:=F.eb 258 rfl ao;refine xA 11 F rfl fun a F=>?_;refine xA 1 F rfl fun a F=>xJ ?_;exact⟨true,(zH d),F.su,(H.s [5,6,7,8] rfl rfl)⟩
    replace d:=vW ao d;have F:=F.eb 258 rfl ao;refine xA 4 F rfl fun a F=>?_
    rcases vR (cd.2 != 0) with aq | aq
    ·
     replace d:=vX aq d;have F:=F.eb 262 rfl aq;refine xA 8 F rfl fun a F=>xJ ?_;exact⟨true,(zH d),F.su,(H.s [5,6,7,8] rfl rfl)⟩
    replace d:=vW aq d;have F:=F.eb 262 rfl aq;refine xA 4 F rfl fun a F=>?_
    rcases vR (ce.2 != 0) with ar | ar
    ·
     replace d:=vX ar d;have F:=F.eb 266 rfl ar;refine xA 4 F rfl fun a F=>xJ ?_;exact⟨true,(zH d),F.su,(H.s [5,6,7,8] rfl rfl)⟩
    replace d:=vW ar d;have F:=F.eb 266 rfl ar;refine xA 4 F rfl fun a F=>xJ ?_;exact⟨(cd.1 != ce.1),(zH d),F.su,(H.s [5,6,7,8] rfl rfl)⟩
   rintro a w ⟨cf,rfl,F,H⟩
   have d:=xW f4;refine xG (qV F rfl (fun bu=>?_) (fun bu=>?_))
   ·
    replace d:=vX bu d;refine xV (xA 1 F rfl fun a F=>xJ (xR (oQ ?_)));replace d:=zZ d df;refine oQ (xT F rfl (oE F rfl) ?_);obtain rfl:=oj d;exact⟨rfl,H.bl⟩
   replace d:=vW bu d;refine xN (xG ?_);exact⟨(zH d),F.su,H⟩
  replace d:=vW bt d;refine xN (xG ?_);exact⟨(zH d),F.su,(H.s [1,2,3,4] rfl rfl)⟩
 rintro a w ⟨rfl,F,H⟩
 have d:=xW df;refine xG (xV (dJ isAgg26 sizeOf26 F rfl rfl (H.b 1 rfl) rfl rfl fun a F=>dJ isAgg29 sizeOf29 F rfl rfl (H.b 0 rfl) rfl rfl (fun a F=>?_)));obtain⟨t,gu,d⟩:=xB d;refine oG F rfl call15 rfl (rU t gu _ aA (xH.m D (H.l 2 rfl)) (xK.m K (H.r 3 rfl)) (show xS (2000) by decide)) (fun a n w ⟨a6,jb,S,kx⟩ F=>?_);subst n;have H:=H.r1 S n0;refine xA 5 F rfl fun a F=>vG (dJ isAgg26 sizeOf26 F rfl rfl (H.b 2 rfl) rfl rfl fun a F=>dJ isAgg29 sizeOf29 F rfl rfl (H.b 1 rfl) rfl rfl (fun a F=>?_));obtain⟨bd,gv,d⟩:=xB d;refine oG F rfl call16 rfl (pG bd gv _ aA (xH.m D (H.l 3 rfl)) (xK.m K (H.r 4 rfl)) (show xS (2000) by decide)) (fun a n w ⟨ky,jc,S,kz⟩ F=>?_);subst n;have H:=H.r1 S n0;refine xA 5 F rfl fun a F=>vG (dJ isAgg26 sizeOf26 F rfl rfl (H.b 3 rfl) rfl rfl fun a F=>dJ isAgg29 sizeOf29 F rfl rfl (H.b 2 rfl) rfl rfl (fun a F=>?_));obtain⟨P,gw,d⟩:=xB d;refine oG F rfl call17 rfl (pF P gw _ aA (xH.m D (H.l 4 rfl)) (xK.m K (H.r 5 rfl)) (show xS (2000) by decide)) (fun a n w ⟨A,jd,S,l0⟩ F=>?_);subst n;have H:=H.r1 S n0;refine xA 5 F rfl fun a F=>xJ (xF (xF ?_));obtain⟨gx,d,f5⟩:=xM d;refine oH (fun a w=>∃ (cg:Bool),gx= .nx cg∧Sk a 391 [(5,oO i),(6,oO j),(32,a6),(33,xC t.2),(35,xC bd.2),(36,A),(297,.bool cg)]∧Sep [] B p w [rl 1 xI 2 A P.1,rl 1 (vQ 2 xU) 32 a6 t.1,bx j [xC e.2.vars,f] 29,bx i [xC e.1.size,h] 26,rl 2 oV 66 h e.1.rels,rw B 2 oR 69 f e.2.cons]) ?_ ?_
 ·
  refine xY (xA 4 F rfl fun a F=>?_)
  rcases vR (bd.2 != P.2) with au | au
  ·
   replace d:=vX au d;have F:=F.eb 292 rfl au;refine xA 5 F rfl fun a F=>xJ ?_;exact⟨true,(zH d),F.su,(H.s [0,2,3,4,5,6] rfl rfl)⟩
  replace d:=vW au d;have F:=F.eb 292 rfl au;refine xA 2 F rfl fun a F=>?_;obtain⟨du,gy,d⟩:=xB d;refine oK F rfl call18 rfl H (sQ du gy _ aA (H.l 1 rfl) (H.l 0 rfl)) fun a w H F=>xA 2 F rfl fun a F=>xJ ?_;exact⟨(!du),(zH d),F.su,(H.s [0,2,3,4,5,6] rfl rfl)⟩
 rintro a w ⟨cg,rfl,F,H⟩
 have d:=xW f5;refine xG (qV F rfl (fun bv=>?_) (fun bv=>?_))
 ·
  replace d:=vX bv d;refine xV (xA 1 F rfl fun a F=>xJ (xR (oQ (xT F rfl (oE F rfl) ?_))));obtain rfl:=oj d;exact⟨rfl,H.bl⟩
 replace d:=vW bv d;refine xN (xG (xF (xV (xA 2 F rfl fun a F=>xJ (qV F rfl (fun bw=>?_) (fun bw=>?_))))))
 ·
  replace d:=vX bw d;refine xF ?_;obtain⟨gz,d,f6⟩:=xM d;refine oH (fun a w=>∃ (ch:Bool),gz= .nx ch∧Sk a 391 [(4,.bool ch)]∧Sep [] B p w []) ?_ ?_
  ·
   refine xY (xA 3 F rfl fun a F=>?_)
   rcases vR (bd.2==4) with av | av
   ·
    replace d:=vX av d;have F:=F.eb 302 rfl av;refine xA 4 F rfl fun a F=>xJ ?_;exact⟨(t.2==6),(zH d),F.su,(H.s [] rfl rfl)⟩
   replace d:=vW av d;have F:=F.eb 302 rfl av;refine xA 4 F rfl fun a F=>xJ ?_;exact⟨false,(zH d),F.su,(H.s [] rfl rfl)⟩
  rintro a w ⟨ch,rfl,F,H⟩
  have d:=xW f6;refine xG (xR (oQ (xT F rfl (oE F rfl) ?_)));obtain rfl:=oj d;exact⟨rfl,H.bl⟩
 replace d:=vW bw d;refine xN (xG (xF (xV (xA 1 F rfl fun a F=>xJ ?_))));obtain⟨dw,d,dg⟩:=xM d;refine oH (fun a w=>∃ (ci:Int),dw= .nx ci∧Sk a 391 [(5,oO i),(6,oO j),(33,xC t.2),(36,A)]∧Sep [] B p w [rl 1 xI 2 A P.1,bx j [xC e.2.vars,f] 29,bx i [xC e.1.size,h] 26,rl 2 oV 66 h e.1.rels,rw B 2 oR 69 f e.2.cons]∧xS ci) ?_ ?_
 ·
  refine oJ ?_;obtain⟨h0,hf5,d⟩:=bJ d;refine qK (fun g a w=>∃ (a1:Int),fA h0 g a1=some dw∧Sk a 391 [(5,oO i),(6,oO j),(32,a6),(33,xC t.2),(36,A),(38,xC a1)]∧Sep [] B p w [rl 1 xI 2 A P.1,rl 1 (vQ 2 xU) 32 a6 t.1,bx j [xC e.2.vars,f] 29,bx i [xC e.1.size,h] 26,rl 2 oV 66 h e.1.rels,rw B 2 oR 69 f e.2.cons]∧xS a1) N ?_ ?_
  ·
   exact⟨0,d,F.su,H,(show xS (0) by decide)⟩
  intro g7 a w ⟨a1,d,F,H,i36⟩;obtain⟨ck5,t5,hg5,d,cj⟩:=kR d;rw[hf5] at d;refine xF (xF ?_);obtain⟨o20,d,f7⟩:=xM d;refine oH (fun a w=>∃ (cl:Bool),o20= .nx cl∧Sk a 391 [(5,oO i),(6,oO j),(32,a6),(33,xC t.2),(36,A),(38,xC a1),(313,.bool cl)]∧Sep [] B p w [rl 1 xI 2 A P.1,rl 1 (vQ 2 xU) 32 a6 t.1,bx j [xC e.2.vars,f] 29,bx i [xC e.1.size,h] 26,rl 2 oV 66 h e.1.rels,rw B 2 oR 69 f e.2.cons]) ?_ ?_
  ·
   refine xY (xA 2 F rfl fun a F=>oL underlying47 F rfl rfl (H.l 1 rfl) fun a i37 F=>xA 2 F rfl fun a F=>?_)
   rcases vR (decide (a1<(t.1.length:Int))) with aw | aw
   ·
    replace d:=vX aw d;have F:=F.eb 310 rfl aw;refine xA 3 F rfl fun a F=>xJ ?_;exact⟨(decide (a1<8)),(zH d),F.su,H⟩
   replace d:=vW aw d;have F:=F.eb 310 rfl aw;refine xA 3 F rfl fun a F=>xJ ?_;exact⟨false,(zH d),F.su,H⟩
  rintro a w ⟨cl,rfl,F,H⟩
  have d:=xW f7;refine xG (qV F rfl (fun c0=>?_) (fun c0=>?_))
  ·
   replace d:=vX c0 d;refine xN (xG (xF (oJ (xF ?_))));obtain⟨z31,c31,d⟩:=xB d;obtain⟨cm,c32,d⟩:=xB d;obtain⟨w3,rfl⟩:∃ x,x=w:=⟨_,rfl⟩;have l5:=H.sm;obtain⟨X3,N3,g8,e3,H,dx,l6⟩:=(H.s [1,2,3,0,4,5] rfl rfl).mg.mg.fza;have h11:=g8.l.l.ld;have K2:=g8.l.r.bk;have K3:=g8.r.bk;refine xD H (by kernel_rfl) fun w H=>qE 0 rfl (by kernel_rfl) (vBA isAgg26 sizeOf26 F rfl rfl (K3.v H.sm) rfl rfl fun a F=>qE 1 rfl (by kernel_rfl) (vBA isAgg29 sizeOf29 F rfl rfl (K2.v H.sm) rfl rfl fun a F=>qW 2 rfl (by kernel_rfl) (xO F rfl (fun w l=>xL F rfl) fun a F=>qW 3 rfl (by kernel_rfl) (xO F rfl (fun w l=>xL F rfl) fun a F=>qE 4 rfl (by kernel_rfl) (vI underlying47 sizeOf32 F rfl rfl rfl h11 c31 (fun a p7 h12 F=>?_))))));refine qE 5 rfl (by kernel_rfl) (vlS isAgg32 F rfl rfl H.v h12 fun a l7 h13 F=>xE H 6 rfl (by kernel_rfl) (oG F rfl call7 rfl (hG cm c32 _ aA (xH.m D (H.l 1 rfl)) (xK.m K (H.r 2 rfl)) (H.a h13) (show xS (2000) by decide)) (fun a n w ⟨je,S,l8⟩ F=>?_)));subst n;have H:=H.r0 S;refine xJ ⟨⟨_,H⟩,?_⟩;refine qW 7 rfl (by kernel_rfl) (xO F rfl (fun w l=>xL F rfl) fun a F=>qW 8 rfl (by kernel_rfl) (xO F rfl (fun w l=>eV F rfl rfl) fun a F=>qW 9 rfl (by kernel_rfl) (xO F rfl (fun w l=>eV F rfl rfl) fun a F=>qW 10 rfl (by kernel_rfl) (xO F rfl (fun w l=>vK F rfl) fun a F=>qW 11 rfl (by kernel_rfl) (xO F rfl (fun w l=>vK F rfl) fun a F=>vZ (by kernel_rfl) ?_)))));refine xG (xF ?_);obtain⟨o21,d,f8⟩:=xM d;refine oH (fun a w=>∃ (cn:Bool),o21= .nx cn∧Sk a 391 [(5,oO i),(6,oO j),(32,a6),(33,xC t.2),(36,A),(38,xC a1),(331,.bool cn)]∧Sep X3 N3 w3 w [rl 1 xI 2 A P.1,rl 2 oV 66 h e.1.rels,rw B 2 oR 69 f e.2.cons]) ?_ ?_
   ·
    refine xY (xA 3 F rfl fun a F=>?_)
    rcases vR (cm.2 != 0) with ax | ax
    ·
     replace d:=vX ax d;have F:=F.eb 328 rfl ax;refine xA 3 F rfl fun a F=>xJ ?_;exact⟨true,(zH d),F.su,H⟩
    replace d:=vW ax d;have F:=F.eb 328 rfl ax;refine xA 3 F rfl fun a F=>xJ ?_;exact⟨(!cm.1),(zH d),F.su,H⟩
   rintro a w ⟨cn,rfl,F,H⟩
   have d:=xW f8;refine xG (qV F rfl (fun hb36=>?_) (fun hb36=>?_))
   ·
    replace d:=vX hb36 d;refine xV (xA 1 F rfl fun a F=>xJ (xR (vT (oQ (oQ ?_)))));replace d:=kD d cj;refine vT (oQ ?_);replace d:=zZ d dg;refine oQ ?_;have H:=(dx.1 H (Ns.all ⟨n0,⟨n0,⟨n1,trivial⟩⟩⟩)).um.um;refine xT F rfl (oE F rfl) ?_;obtain rfl:=oj d;exact⟨rfl,H.bl⟩
   replace d:=vW hb36 d;refine xN (vH (xG (xY (xA 1 F rfl fun a F=>?_))));obtain⟨ha,dy,d⟩:=xB d;refine cX F rfl rfl rfl dy fun a F=>xA 1 F rfl fun a F=>xJ ?_;replace d:=vU d cj;exact⟨t5,(by omega),ha,d,F.su,((dx.1 H (Ns.all ⟨n0,⟨n0,⟨n1,trivial⟩⟩⟩)).um.um.s [3,0,1,2,4,5] rfl rfl),(kV dy)⟩
  replace d:=vW c0 d;refine qJ (qM (qM ?_));replace d:=gV d cj;refine zQ (xG ?_);exact⟨a1,(zH d),F.su,(H.s [0,2,3,4,5] rfl rfl),i36⟩
 rintro a w ⟨ci,rfl,F,H,l9⟩
 have d:=xW dg;refine xG (xV (dJ isAgg26 sizeOf26 F rfl rfl (H.b 2 rfl) rfl rfl fun a F=>dJ isAgg29 sizeOf29 F rfl rfl (H.b 1 rfl) rfl rfl fun a F=>xA 1 F rfl fun a F=>?_));obtain⟨co,hb,d⟩:=xB d;refine oG F rfl call19 rfl (eQ co hb _ aA (xH.m D (H.l 3 rfl)) (xK.m K (H.r 4 rfl)) (H.l 0 rfl)) (fun a n w ⟨hc,jf,S,he,la⟩ F=>?_);subst n;have H:=H.r1 S n0;refine xA 3 F rfl fun a F=>oA zeroValue29 F rfl rfl H fun a w b5 H F=>cN (vs:=[xC co.1.vars,hc]) sizeOf29 F rfl rfl rfl H (oc rfl (oc (H.l 1 rfl).one on)) rfl rfl fun w H=>xA 1 F rfl fun a F=>vG (dJ isAgg26 sizeOf26 F rfl rfl (H.b 4 rfl) rfl rfl (fun a F=>?_));refine dJ isAgg29 sizeOf29 F rfl rfl (H.b 0 rfl) rfl rfl (fun a F=>?_);obtain⟨dz,hf,d⟩:=xB d;refine oG F rfl call20 rfl (jU dz hf _ aA (xH.m D (H.l 5 rfl)) (xK.m he (H.l 1 rfl))) (fun a n w ⟨lb,jg,S,lc⟩ F=>?_);subst n;have H:=H.r1 S n0;refine xA 5 F rfl fun a F=>xJ (xF (xF ?_));obtain⟨hg,d,f9⟩:=xM d;refine oH (fun a w=>∃ (cp:Bool),hg= .nx cp∧Sk a 391 [(5,oO i),(6,oO j),(33,xC t.2),(36,A),(350,.bool cp)]∧Sep [] B p w [rl 1 xI 2 A P.1,bx j [xC e.2.vars,f] 29,bx i [xC e.1.size,h] 26,rl 2 oV 66 h e.1.rels,rw B 2 oR 69 f e.2.cons]) ?_ ?_
 ·
  refine xY (xA 3 F rfl fun a F=>?_)
  rcases vR (co.2 != 0) with ay | ay
  ·
   replace d:=vX ay d;have F:=F.eb 347 rfl ay;refine xA 3 F rfl fun a F=>xJ ?_;exact⟨true,(zH d),F.su,(H.s [3,4,5,6,7] rfl rfl)⟩
  replace d:=vW ay d;have F:=F.eb 347 rfl ay;refine xA 3 F rfl fun a F=>xJ ?_;exact⟨(dz.2 != 6),(zH d),F.su,(H.s [3,4,5,6,7] rfl rfl)⟩
 rintro a w ⟨cp,rfl,F,H⟩
 have d:=xW f9;refine xG (qV F rfl (fun hb38=>?_) (fun hb38=>?_))
 ·
  replace d:=vX hb38 d;refine xV (xA 1 F rfl fun a F=>xJ (xR (oQ (xT F rfl (oE F rfl) ?_))));obtain rfl:=oj d;exact⟨rfl,H.bl⟩
 replace d:=vW hb38 d;refine xN (xG (xF (xV (xA 1 F rfl fun a F=>xJ ?_))));obtain⟨e0,d,dh⟩:=xM d;refine oH (fun a w=>e0= .nx ()∧Sk a 391 [(33,xC t.2)]∧Sep [] B p w []) ?_ ?_
 ·
  refine oJ ?_;obtain⟨hh,hi,d⟩:=qP d;refine qK (fun g a w=>∃ (U:Nat) (t6:List Int),(U≤P.1.length∧P.1.drop U=t6)∧t6.length=g∧qT hh t6 U ()=some e0∧Sk a 391 [(45,xC (U:Int)),(5,oO i),(6,oO j),(33,xC t.2),(36,A)]∧Sep [] B p w [rl 1 xI 2 A P.1,bx j [xC e.2.vars,f] 29,bx i [xC e.1.size,h] 26,rl 2 oV 66 h e.1.rels,rw B 2 oR 69 f e.2.cons]) P.1.length ?_ ?_
  ·
   exact⟨0,P.1,⟨Nat.zero_le _,rfl⟩,rfl,d,F.su,H⟩
  intro g9 a w ⟨U,t6,Y,hj,d,F,H⟩
  cases t6 with
  | nil=>
   replace d:=qO d;have q4:=qQ Y.1 Y.2;have l4:=vS q4;refine xF (xV (xA 2 F rfl fun a F=>oL underlying41 F rfl rfl (H.l 0 rfl) fun a lg F=>xA 1 F rfl fun a F=>xJ (zD F rfl l4 (qJ ?_))));refine qM (qM (zQ (xG ?_)));exact⟨(zH d),F.su,(H.s [] rfl rfl)⟩
  | cons x5 t6=>
   subst hj;replace Y:=oZ Y.2;have y4:=qX Y.2.1;obtain⟨lh,d,hn6⟩:=qG d;rw[hi] at d;have l4:=vE Y.1;refine xF (xV (xA 2 F rfl fun a F=>oL underlying41 F rfl rfl (H.l 0 rfl) fun a i44 F=>xA 1 F rfl fun a F=>xJ (zC F rfl l4 (xN ?_))));refine xG (xF ?_);have j4:=gP (Nat.le_of_lt Y.1) i44;have m4:=zU Y.1 i44;refine oJ (xF ?_);obtain⟨hk,hl,d⟩:=xB d;obtain⟨li,hm,d⟩:=xB d;obtain⟨z38,hn,d⟩:=xB d;obtain⟨ho,c39,d⟩:=xB d;obtain⟨hp,e5,d⟩:=xB d;obtain⟨a2,e6,d⟩:=xB d;obtain⟨w4,rfl⟩:∃ x,x=w:=⟨_,rfl⟩;have lj:=H.sm;obtain⟨X4,N4,cq,e4,H,e7,lk⟩:=H.mg.mg.fza;have e8:=cq.l.l.ld;have K4:=cq.l.r.bk;have K5:=cq.r.bk;refine xD H (by kernel_rfl) fun w H=>dp (fun G=>∀ (b6:Nat) (be:Value) (a:Act) (w:World),Sk a 391 [(5,oO i),(6,oO j),(33,xC t.2),(36,A),(45,xC (U:Int)),(46,oO b6),(371,(.agg #[xC a2.1.vars,be])),(372,xC a2.2)]→Sep X4 N4 w4 w [bx b6 [xC 0,qD] 29,rl 2 oR 69 be a2.1.cons,rl 2 oV 66 h e.1.rels,rw B 2 oR 69 f e.2.cons]→xS a2.1.vars→xS a2.2→∀ J,J = #[true,true,true,true,true,true,true,true,true,true,true,true,true,true,true,true,true,false,false]→G 2 J a w) ?_ (fun H1=>?_)
   ·
    intro b6 be a w F H hq ll J a7;subst a7;refine xE H 17 rfl (by kernel_rfl) (cN (vs:=[xC a2.1.vars,be]) sizeOf29 F rfl rfl rfl H (oc rfl (oc (H.l 1 rfl).one on)) rfl rfl fun w H=>xJ ⟨⟨_,H⟩,?_⟩);refine qW 18 rfl (by kernel_rfl) (xO F rfl (fun w l=>vK F rfl) fun a F=>vZ (by kernel_rfl) (xG (xV (dJ isAgg26 sizeOf26 F rfl rfl (K5.o H.sm) rfl rfl fun a F=>dJ isAgg29 sizeOf29 F rfl rfl (H.b 0 rfl) rfl rfl (fun a F=>?_)))));obtain⟨e9,hr,d⟩:=xB d;refine oG F rfl call20 rfl (jU e9 hr _ aA (xH.m D (H.l 2 rfl)) (xK.m hq (H.l 1 rfl))) (fun a n w ⟨lm,jh,S,ln⟩ F=>?_);subst n;have H:=H.r1 S n0;refine xA 5 F rfl fun a F=>xJ (xF ?_);obtain⟨hs,d,fa⟩:=xM d;refine oH (fun a w=>∃ (cr:Bool),hs= .nx cr∧Sk a 391 [(5,oO i),(6,oO j),(33,xC t.2),(36,A),(45,xC (U:Int)),(384,.bool cr)]∧Sep X4 N4 w4 w [rl 2 oV 66 h e.1.rels,rw B 2 oR 69 f e.2.cons]) ?_ ?_
    ·
     refine xY (xA 3 F rfl fun a F=>?_)
     rcases vR (a2.2 != 0) with az | az
     ·
      replace d:=vX az d;have F:=F.eb 381 rfl az;refine xA 3 F rfl fun a F=>xJ ?_;exact⟨true,(zH d),F.su,(H.s [3,4] rfl rfl)⟩
     replace d:=vW az d;have F:=F.eb 381 rfl az;refine xA 3 F rfl fun a F=>xJ ?_;exact⟨(e9.2 != 0),(zH d),F.su,(H.s [3,4] rfl rfl)⟩
    rintro a w ⟨cr,rfl,F,H⟩
    have d:=xW fa;refine xG (qV F rfl (fun hb40=>?_) (fun hb40=>?_))
    ·
     replace d:=vX hb40 d;refine xV (xA 1 F rfl fun a F=>xJ (xR (vT (oQ (oQ ?_)))));replace d:=kD d hn6;refine vT (oQ ?_);replace d:=zZ d dh;refine oQ ?_;have H:=(e7.1 H (Ns.all ⟨n0,⟨n1,trivial⟩⟩)).um.um;refine xT F rfl (oE F rfl) ?_;obtain rfl:=oj d;exact⟨rfl,H.bl⟩
    replace d:=vW hb40 d;refine xN (vH (xG (xY (xA 1 F rfl fun a F=>vP F rfl rfl rfl m4 fun a F=>xA 1 F rfl fun a F=>xJ ?_))));replace d:=vU d hn6;exact⟨_,Nat.lt_succ_self _,U+1,t6,⟨Y.1,Y.2.2⟩,rfl,d,F.su,(e7.1 H (Ns.all ⟨n0,⟨n1,trivial⟩⟩)).um.um⟩
   refine dp (fun G=>∀ (b7:Nat) (cs:Value) (a:Act) (w:World),Sk a 391 [(5,oO i),(6,oO j),(33,xC t.2),(36,A),(45,xC (U:Int)),(46,oO b7),(358,(.agg #[xC e.1.size,h])),(359,(.agg #[xC e.2.vars,f])),(369,cs)]→Sep X4 N4 w4 w [bx b7 [xC 0,qD] 29,rl 1 xI 2 cs hp,rl 2 oV 66 h e.1.rels,rw B 2 oR 69 f e.2.cons]→∀ J,J = #[true,true,true,true,true,true,true,true,true,true,true,true,false,false,false,false,true,false,false]→G 6 J a w) ?_ (fun H2=>?_)
   ·
    intro b7 cs a w F H J a7;subst a7;refine xE H 12 rfl (by kernel_rfl) (oG F rfl call19 rfl (eQ a2 e6 _ aA (xH.m D (H.l 2 rfl)) (xK.m K (H.r 3 rfl)) (H.l 1 rfl)) (fun a n w ⟨ht,ji,S,hu,hv⟩ F=>?_));subst n;have H:=H.r1 S n0;refine xJ ⟨⟨_,H⟩,?_⟩;refine qW 13 rfl (by kernel_rfl) (xO F rfl (fun w l=>xL F rfl) fun a F=>qW 14 rfl (by kernel_rfl) (xO F rfl (fun w l=>eV F rfl rfl) fun a F=>qW 15 rfl (by kernel_rfl) (xO F rfl (fun w l=>eV F rfl rfl) (fun a F=>?_))));exact H1 b7 ht _ _ (F.su) (H.s [1,0,3,4] rfl rfl) hu hv _ (by kernel_rfl)
   refine dp (fun G=>∀ (b8:Nat) (ct cu:Value) (a:Act) (w:World),Sk a 391 [(5,oO i),(6,oO j),(33,xC t.2),(36,A),(45,xC (U:Int)),(46,oO b8),(358,(.agg #[xC e.1.size,h])),(359,(.agg #[xC e.2.vars,f])),(364,ct),(368,cu)]→Sep X4 N4 w4 w [bx b8 [xC 0,qD] 29,rl 1 xI 2 ct ho,rl 2 oV 66 h e.1.rels,rw B 2 oR 69 f e.2.cons]→Bo N4 w4 (Sl 1 xI) cu z38→∀ J,J = #[true,true,true,true,true,true,true,true,true,true,true,false,false,false,false,false,true,false,false]→G 7 J a w) ?_ (fun H3=>?_)
   ·
    intro b8 ct cu a w F H hw J a7;subst a7;refine xE H 11 rfl (by kernel_rfl) (oPf (sz:=1) (R:=xI) (z:=(xC 0)) (bytes:=8) underlying41 (by kernel_rfl) rfl rfl F rfl rfl rfl (H.s [1,0,2,3] rfl rfl).lw ((H.s [1,0,2,3] rfl rfl).lw.a hw) e5 (fun a w hx H F=>?_));have H:=H.tl;refine xJ ⟨⟨_,H⟩,?_⟩;exact H2 b8 hx _ _ (F.su) (H.s [1,0,2,3] rfl rfl) _ (by kernel_rfl)
   refine dp (fun G=>∀ (b9:Nat) (cx cy bf:Value) (a:Act) (w:World),Sk a 391 [(5,oO i),(6,oO j),(33,xC t.2),(36,A),(45,xC (U:Int)),(46,oO b9),(358,(.agg #[xC e.1.size,h])),(359,(.agg #[xC e.2.vars,f])),(360,cx),(363,cy),(368,bf)]→Sep X4 N4 w4 w [bx b9 [xC 0,qD] 29,rl 1 xI 2 cx ([]),rl 2 oV 66 h e.1.rels,rw B 2 oR 69 f e.2.cons]→Bo N4 w4 (Sl 1 xI) cy hk→Bo N4 w4 (Sl 1 xI) bf z38→∀ J,J = #[true,true,true,true,true,true,false,true,true,true,true,false,false,false,false,false,true,false,false]→G 8 J a w) ?_ (fun H4=>?_)
   ·
    intro b9 cx cy bf a w F H hy hz J a7;subst a7;refine xE H 6 rfl (by kernel_rfl) (oPf (sz:=1) (R:=xI) (z:=(xC 0)) (bytes:=8) underlying41 (by kernel_rfl) rfl rfl F rfl rfl rfl (H.s [1,0,2,3] rfl rfl).lw ((H.s [1,0,2,3] rfl rfl).lw.a hy) c39 (fun a w hA H F=>?_));have H:=H.tl;refine xJ ⟨⟨_,H⟩,?_⟩;exact H3 b9 hA bf _ _ (F.su) (H.s [1,0,2,3] rfl rfl) hz _ (by kernel_rfl)
   refine qE 0 rfl (by kernel_rfl) (vBA isAgg26 sizeOf26 F rfl rfl (K5.v H.sm) rfl rfl fun a F=>qE 1 rfl (by kernel_rfl) (vBA isAgg29 sizeOf29 F rfl rfl (K4.v H.sm) rfl rfl fun a F=>qW 3 rfl (by kernel_rfl) (xO F rfl (fun w l=>xL F rfl) fun a F=>qW 4 rfl (by kernel_rfl) (xO F rfl (fun w l=>xL F rfl) fun a F=>qE 5 rfl (by kernel_rfl) (vC underlying41 sizeOf2 F rfl rfl rfl rfl e8 hl fun a ea cz F=>qW 7 rfl (by kernel_rfl) ?_)))));refine xO F rfl (fun w l=>xL F rfl) fun a F=>qW 8 rfl (by kernel_rfl) (xO F rfl (fun w l=>xL F rfl) fun a F=>qW 9 rfl (by kernel_rfl) (xO F rfl (fun w l=>rY F rfl rfl hm) fun a F=>qE 10 rfl (by kernel_rfl) (vC underlying41 sizeOf2 F rfl rfl rfl rfl e8 hn fun a d0 bg F=>kP [2,16] (by kernel_rfl) (by simp) ⟨⟨_,rfl,?_⟩,⟨_,rfl,?_⟩,trivial⟩)))
   ·
    refine kJ H (oR0 (R:=xI) underlying41 sizeOf2 F rfl H fun a w hB H F=>xJ ⟨⟨_,H⟩,?_⟩);refine kP [6,16] (by kernel_rfl) (by simp) ⟨⟨_,rfl,?_⟩,⟨_,rfl,?_⟩,trivial⟩
    ·
     refine kJ H (oPf (sz:=1) (R:=xI) (z:=(xC 0)) (bytes:=8) underlying41 (by kernel_rfl) rfl rfl F rfl rfl rfl H.lw (H.lw.a cz) c39 (fun a w hC H F=>?_));have H:=H.tl;refine xJ ⟨⟨_,H⟩,?_⟩;refine kP [11,16] (by kernel_rfl) (by simp) ⟨⟨_,rfl,?_⟩,⟨_,rfl,?_⟩,trivial⟩
     ·
      refine kJ H (oPf (sz:=1) (R:=xI) (z:=(xC 0)) (bytes:=8) underlying41 (by kernel_rfl) rfl rfl F rfl rfl rfl H.lw (H.lw.a bg) e5 (fun a w hD H F=>?_));have H:=H.tl;refine xJ ⟨⟨_,H⟩,?_⟩;refine kP [12,16] (by kernel_rfl) (by simp) ⟨⟨_,rfl,?_⟩,⟨_,rfl,?_⟩,trivial⟩
      ·
       refine kJ H (oG F rfl call19 rfl (eQ a2 e6 _ aA (xH.m D (H.l 1 rfl)) (xK.m K (H.r 2 rfl)) (H.l 0 rfl)) (fun a n w ⟨hE,jj,S,hF,hH⟩ F=>?_));subst n;have H:=H.r1 S n0;refine xJ ⟨⟨_,H⟩,?_⟩;refine qW 13 rfl (by kernel_rfl) (xO F rfl (fun w l=>xL F rfl) fun a F=>qW 14 rfl (by kernel_rfl) (xO F rfl (fun w l=>eV F rfl rfl) fun a F=>qW 15 rfl (by kernel_rfl) (xO F rfl (fun w l=>eV F rfl rfl) fun a F=>xE H 16 rfl (by kernel_rfl) (oA zeroValue29 F rfl rfl H fun a w hI H F=>xJ ⟨⟨_,H⟩,?_⟩))));exact H1 hI hE _ _ (F.su) (H.s [0,1,3,4] rfl rfl) hF hH _ (by kernel_rfl)
      refine kJ H (oA zeroValue29 F rfl rfl H fun a w hJ H F=>xJ ⟨⟨_,H⟩,?_⟩);exact H2 hJ hD _ _ (F.su) H _ (by kernel_rfl)
     refine kJ H (oA zeroValue29 F rfl rfl H fun a w hK H F=>xJ ⟨⟨_,H⟩,?_⟩);exact H3 hK hC d0 _ _ (F.su) H bg _ (by kernel_rfl)
    refine kJ H (oA zeroValue29 F rfl rfl H fun a w hL H F=>xJ ⟨⟨_,H⟩,?_⟩);exact H4 hL hB ea d0 _ _ (F.su) H cz bg _ (by kernel_rfl)
   refine kJ H (oA zeroValue29 F rfl rfl H fun a w hM H F=>xJ ⟨⟨_,H⟩,?_⟩);refine xE H 2 rfl (by kernel_rfl) (oR0 (R:=xI) underlying41 sizeOf2 F rfl H fun a w hO H F=>xJ ⟨⟨_,H⟩,?_⟩);exact H4 hM hO ea d0 _ _ (F.su) (H.s [1,0,2,3] rfl rfl) cz bg _ (by kernel_rfl)
 rintro a w ⟨rfl,F,H⟩
 have d:=xW dh;refine xG (xF ?_);obtain⟨hP,d,fb⟩:=xM d;refine oH (fun a w=>∃ (d1:Bool),hP= .nx d1∧Sk a 391 [(4,.bool d1)]∧Sep [] B p w []) ?_ ?_
 ·
  refine xY (xA 3 F rfl fun a F=>?_)
  rcases vR (t.2==0) with b0 | b0
  ·
   replace d:=vX b0 d;have F:=F.eb 387 rfl b0;refine xA 4 F rfl fun a F=>xJ ?_;exact⟨true,(zH d),F.su,H⟩
  replace d:=vW b0 d;have F:=F.eb 387 rfl b0;refine xA 4 F rfl fun a F=>xJ ?_;exact⟨(t.2==3),(zH d),F.su,H⟩
 rintro a w ⟨d1,rfl,F,H⟩
 have d:=xW fb;refine xG (xR (xT F rfl (oE F rfl) ?_));obtain rfl:=oj d;exact⟨rfl,H.bl⟩
end Go.Proofs.YtncganhbpbehaaaGreat
