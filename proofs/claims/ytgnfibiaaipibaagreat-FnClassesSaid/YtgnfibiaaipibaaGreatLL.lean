import Derived.Test.YtgnfibiaaipibaaGreatP3
import Derived.Test.YtgnfibiaaipibaaGreatQ2
namespace Go.Proofs.YtgnfibiaaipibaaGreat
open Go.Proofs.Tryz
set_option maxHeartbeats 1000000
set_option linter.unusedVariables false
set_option linter.unusedSimpArgs false
set_option maxRecDepth 100000
open Go.RowKit
def laws_f6big (c:List UInt8):Option Bool:=
 some ((decide (4096<(c.length:Int))))
theorem laws_f6big_c {B:Nat→Prop} {f:List UInt8} (r:Bool) (h:laws_f6big f=some r) {e:Value} (d:World) (i:∀ c,B c→c<d.heap.size) (j:Bo B d (Sl 1 cL) e f):Calls Tryz.prog 4 #[e] d (zO (.bool r) d):=by
 unfold laws_f6big at h
 refine xV (L:=[(0,e)]) func4 rfl rfl rfl (sc rfl sn) (fun a F=>?_);have H:=Sep.start i;refine xP (xA 1 F rfl fun a F=>qO (xA 1 F rfl fun a F=>oL underlying22 F rfl rfl j fun a n F=>xA 2 F rfl fun a F=>?_));refine xJ (xT (xS F rfl (oD F rfl) ?_));obtain rfl:=oj h;exact⟨rfl,H.bl⟩
def laws_FnClasses (N:Nat) (A B:List UInt8):Option Bool:=
 vT (σ:=Bool) (
  xY (laws_f6big A) fun z1=>
  if z1 then  some (.nx true) else  xY (laws_f6big B) fun z2=>
   some (.nx z2)) fun s1=>
 if s1 then
  some true
 else
  xY (spec_P6Pick A 6) fun z3=>
  xY (ck (1+z3)) fun e=>
  xY (dB e) fun p=>
  xY (iJ N B 2 (Op.mk p.arity p.table)) fun c=>
  xY (dE N A (Template.mk c.size c.rels) 5) fun h=>
  xY (eJ N (Template.mk c.size c.rels)) fun C=>
  xY (gA N (Template.mk c.size c.rels) e) fun J=>
  xY (iV e) fun t=>
  vT (σ:=Bool) (
   if (C.2 != 0) then  some (.nx true) else  xY (cV C.1 e) fun M=>
    if (!M) then  some (.nx true) else  if (J.2 != 0) then  some (.nx true) else  if (!J.1) then  some (.nx true) else  if (t.2 != 0) then  some (.nx true) else  xY (iK (Op.mk t.1.arity t.1.table) (Op.mk p.arity p.table)) fun O=>
        some (.nx (!O))) fun s2=>
  if s2 then
   some false
  else
   vT (σ:=Int) (
    cF (σ:=Int) (ρ:=Bool) (fun(i:Int)=>
     if (decide (i≤6)) then
      xY (gO N (Template.mk c.size c.rels) i) fun f=>
      xY (cV C.1 i) fun P=>
      if P then
       if (f.2.2.2 != 6) then
        some (.ret false)
       else
        xY (ck (i+1)) fun Q=>
        some (.go Q)
      else
       vT (σ:=Bool) (
        if (f.2.2.2 != 0) then  some (.nx true) else  if (decide (f.1<0)) then  some (.nx true) else  some (.nx (decide ((c.rels.length:Int)≤f.1)))) fun s4=>
       if s4 then
        some (.ret false)
       else
        xY (dB i) fun D=>
        xY (eW N 2 (Op.mk D.arity D.table) f.2.1) fun E=>
        xY (ix c.rels f.1) fun R=>
        xY (cN 2 R f.2.2.1) fun F=>
        vT (σ:=Bool) (
         if (E.2 != 0) then  some (.nx true) else  xY (bL E.1 f.2.2.1) fun S=>
          if (!S) then  some (.nx true) else  if (F.2 != 0) then  some (.nx true) else  some (.nx F.1)) fun s5=>
        if s5 then
         some (.ret false)
        else
         xY (ck (i+1)) fun T=>
         some (.go T)
     else
      some (.brk i)) N 1) fun s6=>
   xY (bZ N (Template.mk c.size c.rels) (Instance.mk h.vars h.cons) e) fun j=>
   xY (bW N (Template.mk c.size c.rels) (Instance.mk h.vars h.cons) e) fun x=>
   xY (bN N (Template.mk c.size c.rels) (Instance.mk h.vars h.cons)) fun U=>
   vT (σ:=Bool) (
    if (j.2 != x.2) then  some (.nx true) else  xY (bL j.1 x.1) fun V=>
     some (.nx (!V))) fun s7=>
   if s7 then
    some false
   else
    if (j.2==4) then
     some ((decide (e≤2)))
    else
     if (j.2 != U.2) then
      some false
     else
      vT (σ:=Unit) (
       if (j.2==0) then
        xY (cD N (Template.mk c.size c.rels) (Instance.mk h.vars h.cons) x.1) fun G=>
        vT (σ:=Bool) (
         if (G.2 != 0) then  some (.nx true) else  some (.nx (!G.1))) fun s8=>
        if s8 then
         some (.ret false)
        else
         some (.nx ())
       else
        some (.nx ())) fun _=>
      xY (ix c.rels 0) fun d=>
      xY (bJ N (Rel.mk d.arity d.tuples)) fun H=>
      xY (bM N (Rel.mk d.arity d.tuples)) fun y=>
      vT (σ:=Bool) (
       if (H.2 != y.2) then  some (.nx true) else  xY (gF H.1 y.1) fun W=>
        some (.nx (!W))) fun s9=>
      if s9 then
       some false
      else
       xY (jA B 2 d.arity) fun I=>
       xY (cN 2 (Rel.mk d.arity d.tuples) I) fun n=>
       vT (σ:=Bool) (
        qJ (σ:=Bool) (ρ:=Bool) (fun (k1:Nat) (K:(List Int)) (X:Bool)=>
         xY (ix K d.arity) fun Y=>
         vT (σ:=Int) (
          zH (σ:=Int) (ρ:=(Ctl (Bool) Bool)) (fun (L:Nat) (Z:Int)=>
           xY (ix K (L:Int)) fun a0=>
           xY (ix I (L:Int)) fun a1=>
           xY (ck (a0*a1)) fun a2=>
           xY (ck (Z+a2)) fun a3=>
           some (.go a3)) d.arity.toNat 0 Y) fun a4=>
         vT (σ:=Bool) (
          if X then  xY (rm a4 2) fun a5=>
           some (.nx (a5==0)) else  some (.nx false)) fun a6=>
         some (.go a6)) y.1 0 true) fun z=>
       vT (σ:=Bool) (
        if (n.2==0) then  if (!n.1) then  if (e != 6) then  some (.nx true) else  some (.nx (n.1==z)) else  if z then  if (e != 6) then  some (.nx true) else  some (.nx (n.1==z)) else  some (.nx false) else  some (.nx false)) fun a7=>
       some a7
theorem laws_FnClasses_c {B:Nat→Prop} {N:Nat} {x0 x1:List UInt8} (r:Bool) (d:laws_FnClasses N x0 x1=some r) {v0:Value} {p:Value} (C:World) (hN:∀ c,B c→c<C.heap.size) (A0:Bo B C (Sl 1 cL) v0 x0) (A1:Bo B C (Sl 1 cL) p x1):Calls Tryz.prog 3 #[v0,p] C (zO (.bool r) C):=by
 unfold laws_FnClasses at d
 refine xV (L:=[(0,v0),(1,p)]) func3 rfl rfl rfl (sc rfl (sc rfl sn)) (fun a F=>?_);have H:=Sep.start hN;refine xP (xA 1 F rfl fun a F=>xJ (xC (xC ?_)));obtain⟨d6,d,d7⟩:=xK d;refine xX (fun a w=>∃ (s1:Bool),d6= .nx s1∧Sk a 307 [(0,v0),(1,p),(49,.bool s1)]∧Sep [] B C w []) ?_ ?_
 ·
  refine xU (xA 1 F rfl fun a F=>?_);obtain⟨z1,c1,d⟩:=xB d;refine oK F rfl call4 rfl H (laws_f6big_c z1 c1 _ aA (H.a A0)) fun a w H F=>xA 1 F rfl fun a F=>?_
  rcases qU z1 with aj | aj
  ·
   replace d:=vR aj d;have F:=F.eb 46 rfl aj;refine xA 3 F rfl fun a F=>xJ ?_;exact⟨true,(vE d),F.su,H⟩
  replace d:=vQ aj d;have F:=F.eb 46 rfl aj;refine xA 1 F rfl fun a F=>?_;obtain⟨z2,c2,d⟩:=xB d;refine oK F rfl call4 rfl H (laws_f6big_c z2 c2 _ aA (H.a A1)) fun a w H F=>xA 1 F rfl fun a F=>xJ ?_;exact⟨z2,(vE d),F.su,H⟩
 rintro a w ⟨s1,rfl,F,H⟩
 have d:=xN d7;refine xF (qP F rfl (fun be=>?_) (fun be=>?_))
 ·
  replace d:=vR be d;refine xP (xA 1 F rfl fun a F=>xJ (xT (oE (xS F rfl (oD F rfl) ?_))));obtain rfl:=oj d;exact⟨rfl,H.bl⟩
 replace d:=vQ be d;refine xL (xF (xP (xA 1 F rfl fun a F=>?_)));obtain⟨z3,c3,d⟩:=xB d;refine oKI F rfl call5 rfl H (spec_P6Pick_c z3 c3 _ aA (H.a A0) (show xZ (6) by decide)) (fun a w H g8 F=>?_);obtain⟨f,W,d⟩:=xB d;refine kI F rfl rfl rfl W fun a F=>xA 1 F rfl fun a F=>qO (xA 1 F rfl fun a F=>?_);obtain⟨z5,c5,d⟩:=xB d;refine oG F rfl call6 rfl (spec_P6ClassOp_c z5 c5 _ aA (kG W)) (fun a e w ⟨v2,g9,S,i32⟩ F=>?_);subst e;have H:=H.r1 S n0;refine oA zeroValue27 F rfl rfl H fun a w b1 H F=>oWA (vs:=[xG z5.arity,v2]) sizeOf27 F rfl rfl rfl H (oc rfl (oc (H.l 1 rfl).one on)) rfl rfl fun w H=>qO (xA 1 F rfl fun a F=>fU isAgg27 sizeOf27 F rfl rfl (H.b 0 rfl) rfl rfl (fun a F=>?_));obtain⟨h,c6,d⟩:=xB d;refine oG F rfl call7 rfl (spec_P6Kept_c h c6 _ aA (H.a A1) (show xZ (2) by decide) (cS.m i32 (H.l 1 rfl))) (fun a e w ⟨n,ga,S,Q⟩ F=>?_);subst e;have H:=H.r1 S n0;refine oA zeroValue31 F rfl rfl H fun a w i H F=>oWA (vs:=[xG h.size,n]) sizeOf31 F rfl rfl rfl H (oc rfl (oc (H.l 1 rfl).one on)) rfl rfl fun w H=>qO (xA 1 F rfl fun a F=>fU isAgg31 sizeOf31 F rfl rfl (H.b 0 rfl) rfl rfl (fun a F=>?_));obtain⟨t,c7,d⟩:=xB d;refine oG F rfl call8 rfl (spec_P6Instance_c t c7 _ aA (H.a A0) (xI.m Q (H.l 1 rfl)) (show xZ (5) by decide)) (fun a e w ⟨y,gb,S,i2⟩ F=>?_);subst e;have H:=H.r1 S n0;refine oA zeroValue35 F rfl rfl H fun a w z H F=>oWA (vs:=[xG t.vars,y]) sizeOf35 F rfl rfl rfl H (oc rfl (oc (H.l 1 rfl).one on)) rfl rfl fun w H=>qO (fU isAgg31 sizeOf31 F rfl rfl (H.b 2 rfl) rfl rfl (fun a F=>?_));obtain⟨z8,c8,d⟩:=xB d;refine oG F rfl call9 rfl (impl_ClassesOf_c z8 c8 _ aA (xI.m Q (H.l 3 rfl))) (fun a e w ⟨R,gc,S,i3⟩ F=>?_);subst e;have H:=H.r1 S n0;refine xA 5 F rfl fun a F=>qO (fU isAgg31 sizeOf31 F rfl rfl (H.b 3 rfl) rfl rfl fun a F=>xA 1 F rfl fun a F=>?_);obtain⟨z9,c9,d⟩:=xB d;refine oG F rfl call10 rfl (impl_IsOfClass_c z9 c9 _ aA (xI.m Q (H.l 4 rfl)) (kG W)) (fun a e w ⟨gd,S,i4⟩ F=>?_);subst e;have H:=H.r0 S;refine xA 5 F rfl fun a F=>qO (xA 1 F rfl fun a F=>?_);obtain⟨bf,d8,d⟩:=xB d;refine oG F rfl call11 rfl (impl_ClassOp_c bf d8 _ aA (kG W)) (fun a e w ⟨d9,ge,S,i5,i6⟩ F=>?_);subst e;have H:=H.r1 S n0;refine xA 3 F rfl fun a F=>oA zeroValue27 F rfl rfl H fun a w b4 H F=>oWA (vs:=[xG bf.1.arity,d9]) sizeOf27 F rfl rfl rfl H (oc rfl (oc (H.l 1 rfl).one on)) rfl rfl fun w H=>xA 1 F rfl fun a F=>xJ (xC (xC ?_));obtain⟨o1,d,da⟩:=xK d;refine xX (fun a w=>∃ (s2:Bool),o1= .nx s2∧Sk a 307 [(1,p),(5,xG f),(7,vK i),(8,vK z),(9,R),(102,.bool s2)]∧Sep [] B C w [rl 1 xH 2 R z8.1,bx z [xG t.vars,y] 35,rl 2 vU 119 y t.cons,bx i [xG h.size,n] 31,rl 2 qD 51 n h.rels]) ?_ ?_
 ·
  refine xU (xA 3 F rfl fun a F=>?_)
  rcases qU (z8.2 != 0) with ak | ak
  ·
   replace d:=vR ak d;have F:=F.eb 79 rfl ak;refine xA 11 F rfl fun a F=>?_;refine xA 11 F rfl fun a F=>?_;refine xA 1 F rfl fun a F=>xJ ?_;exact⟨true,(vE d),F.su,(H.s [2,3,4,5,6] rfl rfl)⟩
  replace d:=vQ ak d;have F:=F.eb 79 rfl ak;refine xA 2 F rfl fun a F=>?_;obtain⟨z11,db,d⟩:=xB d;refine oK F rfl call12 rfl H (spec_HasNumber_c z11 db _ aA (H.l 2 rfl) (kG W)) fun a w H F=>xA 3 F rfl fun a F=>?_
  rcases qU (!z11) with al | al
  ·
   replace d:=vR al d;have F:=F.eb 85 rfl al;refine xA 11 F rfl fun a F=>?_;refine xA 6 F rfl fun a F=>xJ ?_;exact⟨true,(vE d),F.su,(H.s [2,3,4,5,6] rfl rfl)⟩
  replace d:=vQ al d;have F:=F.eb 85 rfl al;refine xA 4 F rfl fun a F=>?_
  rcases qU (z9.2 != 0) with am | am
  ·
   replace d:=vR am d;have F:=F.eb 89 rfl am;refine xA 11 F rfl fun a F=>?_;refine xA 2 F rfl fun a F=>xJ ?_;exact⟨true,(vE d),F.su,(H.s [2,3,4,5,6] rfl rfl)⟩
  replace d:=vQ am d;have F:=F.eb 89 rfl am;refine xA 4 F rfl fun a F=>?_
  rcases qU (!z9.1) with an | an
  ·
   replace d:=vR an d;have F:=F.eb 93 rfl an;refine xA 9 F rfl fun a F=>xJ ?_;exact⟨true,(vE d),F.su,(H.s [2,3,4,5,6] rfl rfl)⟩
  replace d:=vQ an d;have F:=F.eb 93 rfl an;refine xA 4 F rfl fun a F=>?_
  rcases qU (bf.2 != 0) with ao | ao
  ·
   replace d:=vR ao d;have F:=F.eb 97 rfl ao;refine xA 5 F rfl fun a F=>xJ ?_;exact⟨true,(vE d),F.su,(H.s [2,3,4,5,6] rfl rfl)⟩
  replace d:=vQ ao d;have F:=F.eb 97 rfl ao;refine fU isAgg27 sizeOf27 F rfl rfl (H.b 0 rfl) rfl rfl fun a F=>fU isAgg27 sizeOf27 F rfl rfl (H.b 7 rfl) rfl rfl (fun a F=>?_);obtain⟨ca,dc,d⟩:=xB d;refine oK F rfl call13 rfl H (spec_SameOp_c ca dc _ aA (cS.m i5 (H.l 1 rfl)) (cS.m i32 (H.l 8 rfl))) fun a w H F=>xA 2 F rfl fun a F=>xJ ?_;exact⟨(!ca),(vE d),F.su,(H.s [2,3,4,5,6] rfl rfl)⟩
 rintro a w ⟨s2,rfl,F,H⟩
 have d:=xN da;refine xF (qP F rfl (fun bg=>?_) (fun bg=>?_))
 ·
  replace d:=vR bg d;refine xP (xA 1 F rfl fun a F=>xJ (xT (oE (xS F rfl (oD F rfl) ?_))));obtain rfl:=oj d;exact⟨rfl,H.bl⟩
 replace d:=vQ bg d;refine xL (xF (xC (xP (xA 1 F rfl fun a F=>xJ ?_))));obtain⟨o2,d,av⟩:=xK d;refine xX (fun a w=>∃ (s3:Int),o2= .nx s3∧Sk a 307 [(1,p),(5,xG f),(7,vK i),(8,vK z)]∧Sep [] B C w [bx z [xG t.vars,y] 35,rl 2 vU 119 y t.cons,bx i [xG h.size,n] 31,rl 2 qD 51 n h.rels]∧xZ s3) ?_ ?_
 ·
  refine xW ?_;obtain⟨dd,de,d⟩:=kU d;refine oU (fun g a w=>∃ (X:Int),cF dd g X=some o2∧Sk a 307 [(1,p),(5,xG f),(7,vK i),(8,vK z),(9,R),(15,xG X)]∧Sep [] B C w [rl 1 xH 2 R z8.1,bx z [xG t.vars,y] 35,rl 2 vU 119 y t.cons,bx i [xG h.size,n] 31,rl 2 qD 51 n h.rels]∧xZ X) N ?_ ?_
  ·
   exact⟨1,d,F.su,H,(show xZ (1) by decide)⟩
  intro g1 a w ⟨X,d,F,H,i7⟩;obtain⟨gf,t1,gg,d,Z⟩:=zK d;rw[de] at d;refine xC (xP (xA 2 F rfl fun a F=>xJ (qP F rfl (fun bh=>?_) (fun bh=>?_))))
  ·
   replace d:=vR bh d;refine xL (xF (xC (xW (xP (fU isAgg31 sizeOf31 F rfl rfl (H.b 3 rfl) rfl rfl fun a F=>xA 1 F rfl fun a F=>?_)))));obtain⟨T,df,d⟩:=xB d;refine oG F rfl call14 rfl (impl_WhyNotClass_c T df _ aA (xI.m Q (H.l 4 rfl)) i7) (fun a e w ⟨v6,v7,gh,S,i8,i9⟩ F=>?_);subst e;have H:=H.rk S ⟨n0,⟨n0,trivial⟩⟩ rfl;refine xA 9 F rfl fun a F=>xJ ?_;refine xC (xP (xA 2 F rfl fun a F=>?_));obtain⟨dg,dh,d⟩:=xB d;refine oK F rfl call12 rfl H (spec_HasNumber_c dg dh _ aA (H.l 2 rfl) i7) fun a w H F=>xJ (qP F rfl (fun hb10=>?_) (fun hb10=>?_))
   ·
    replace d:=vR hb10 d;refine xC (xP (xA 2 F rfl fun a F=>xJ (qP F rfl (fun b5=>?_) (fun b5=>?_))))
    ·
     replace d:=vR b5 d;refine xP (xA 1 F rfl fun a F=>xJ (xT (oE (oE (vJ (oE (oE ?_)))))));replace d:=zR d Z;refine vJ (oE ?_);replace d:=zQ d av;refine oE (xS F rfl (oD F rfl) ?_);obtain rfl:=oj d;exact⟨rfl,H.bl⟩
    replace d:=vQ b5 d;refine xL (xF (oM (oR (vH (xF (xU (xA 1 F rfl fun a F=>?_)))))));obtain⟨di,cb,d⟩:=xB d;refine kI F rfl rfl rfl cb fun a F=>xA 1 F rfl fun a F=>xJ ?_;replace d:=qX d Z;exact⟨t1,(by omega),di,d,F.su,(H.s [2,3,4,5,6] rfl rfl),(kG cb)⟩
   replace d:=vQ hb10 d;refine xL (xF (xC (xC ?_)));obtain⟨o3,d,dj⟩:=xK d;refine xX (fun a w=>∃ (s5:Bool),o3= .nx s5∧Sk a 307 [(1,p),(5,xG f),(7,vK i),(8,vK z),(9,R),(15,xG X),(16,xG T.1),(17,v6),(18,v7),(132,.bool s5)]∧Sep [] B C w [rl 1 (vO 1 xH) 25 v6 T.2.1,rl 1 xH 2 v7 T.2.2.1,rl 1 xH 2 R z8.1,bx z [xG t.vars,y] 35,rl 2 vU 119 y t.cons,bx i [xG h.size,n] 31,rl 2 qD 51 n h.rels]) ?_ ?_
   ·
    refine xU (xA 3 F rfl fun a F=>?_)
    rcases qU (T.2.2.2 != 0) with a5 | a5
    ·
     replace d:=vR a5 d;have F:=F.eb 122 rfl a5;refine xA 10 F rfl fun a F=>oY ?_;refine xF ?_;exact⟨true,(vE d),F.su,H⟩
    replace d:=vQ a5 d;have F:=F.eb 122 rfl a5;refine xA 4 F rfl fun a F=>?_
    rcases qU (decide (T.1<0)) with a6 | a6
    ·
     replace d:=vR a6 d;have F:=F.eb 126 rfl a6;refine xA 6 F rfl fun a F=>xJ ?_;exact⟨true,(vE d),F.su,H⟩
    replace d:=vQ a6 d;have F:=F.eb 126 rfl a6;refine xA 1 F rfl fun a F=>oH kR F rfl rfl rfl fun a F=>oB isAgg29 F rfl rfl (H.b 5 rfl) rfl fun a F=>oL underlying29 F rfl rfl (H.l 6 rfl) fun a gi F=>xA 2 F rfl fun a F=>xJ ?_;exact⟨(decide ((h.rels.length:Int)≤T.1)),(vE d),F.su,H⟩
   rintro a w ⟨s5,rfl,F,H⟩
   have d:=xN dj;refine xF (qP F rfl (fun b6=>?_) (fun b6=>?_))
   ·
    replace d:=vR b6 d;refine xP (xA 1 F rfl fun a F=>xJ (xT (oE (vJ (oE (oE ?_))))));replace d:=zR d Z;refine vJ (oE ?_);replace d:=zQ d av;refine oE (xS F rfl (oD F rfl) ?_);obtain rfl:=oj d;exact⟨rfl,H.bl⟩
   replace d:=vQ b6 d;refine xL (xF (xP (xA 1 F rfl fun a F=>?_)));obtain⟨dk,dl,d⟩:=xB d;refine oG F rfl call6 rfl (spec_P6ClassOp_c dk dl _ aA i7) (fun a e w ⟨v8,gj,S,dm⟩ F=>?_);subst e;have H:=H.r1 S n0;refine xA 1 F rfl fun a F=>?_;obtain⟨cc,dq,d⟩:=xB d;refine oG F rfl call15 rfl (spec_ApplyToTuples_c cc dq _ aA (show xZ (2) by decide) (cS.m dm (H.l 0 rfl)) (H.l 1 rfl)) (fun a e w ⟨v9,gk,S,gl⟩ F=>?_);subst e;have H:=H.r1 S n0;refine xA 5 F rfl fun a F=>qO (oH kR F rfl rfl rfl fun a F=>oB isAgg29 F rfl rfl (H.b 7 rfl) rfl (fun a F=>?_));refine xA 1 F rfl fun a F=>?_;obtain⟨gm,dr,d⟩:=xB d;refine oI underlying29 sizeOf51 F rfl rfl rfl (H.l 8 rfl) dr fun a p1 h1 F=>olA isAgg51 sizeOf51 F rfl rfl (Sm.refl _ _) h1 fun a gn h2 F=>xA 1 F rfl fun a F=>?_;obtain⟨bi,ds,d⟩:=xB d;refine oG F rfl call16 rfl (spec_HasTuple_c bi ds _ aA (show xZ (2) by decide) h2 (H.l 3 rfl)) (fun a e w ⟨fy,S,gp⟩ F=>?_);subst e;have H:=H.r0 S;refine xA 5 F rfl fun a F=>xJ (xC ?_);obtain⟨o4,d,du⟩:=xK d;refine xX (fun a w=>∃ (s6:Bool),o4= .nx s6∧Sk a 307 [(1,p),(5,xG f),(7,vK i),(8,vK z),(9,R),(15,xG X),(164,.bool s6)]∧Sep [] B C w [rl 1 xH 2 R z8.1,bx z [xG t.vars,y] 35,rl 2 vU 119 y t.cons,bx i [xG h.size,n] 31,rl 2 qD 51 n h.rels]) ?_ ?_
   ·
    refine xU (xA 3 F rfl fun a F=>?_)
    rcases qU (cc.2 != 0) with a7 | a7
    ·
     replace d:=vR a7 d;have F:=F.eb 152 rfl a7;refine xA 11 F rfl fun a F=>?_;refine xA 1 F rfl fun a F=>xJ ?_;exact⟨true,(vE d),F.su,(H.s [4,5,6,7,8] rfl rfl)⟩
    replace d:=vQ a7 d;have F:=F.eb 152 rfl a7;refine xA 2 F rfl fun a F=>?_;obtain⟨cd,dw,d⟩:=xB d;refine oK F rfl call17 rfl H (spec_SameNumbers_c cd dw _ aA (H.l 0 rfl) (H.l 3 rfl)) fun a w H F=>xA 3 F rfl fun a F=>?_
    rcases qU (!cd) with a8 | a8
    ·
     replace d:=vR a8 d;have F:=F.eb 158 rfl a8;refine xA 6 F rfl fun a F=>xJ ?_;exact⟨true,(vE d),F.su,(H.s [4,5,6,7,8] rfl rfl)⟩
    replace d:=vQ a8 d;have F:=F.eb 158 rfl a8;refine xA 4 F rfl fun a F=>?_
    rcases qU (bi.2 != 0) with a9 | a9
    ·
     replace d:=vR a9 d;have F:=F.eb 162 rfl a9;refine xA 2 F rfl fun a F=>xJ ?_;exact⟨true,(vE d),F.su,(H.s [4,5,6,7,8] rfl rfl)⟩
    replace d:=vQ a9 d;have F:=F.eb 162 rfl a9;refine xA 2 F rfl fun a F=>xJ ?_;exact⟨bi.1,(vE d),F.su,(H.s [4,5,6,7,8] rfl rfl)⟩
   rintro a w ⟨s6,rfl,F,H⟩
   have d:=xN du;refine xF (qP F rfl (fun b7=>?_) (fun b7=>?_))
   ·
    replace d:=vR b7 d;refine xP (xA 1 F rfl fun a F=>xJ (xT (vJ (oE (oE ?_)))));replace d:=zR d Z;refine vJ (oE ?_);replace d:=zQ d av;refine oE (xS F rfl (oD F rfl) ?_);obtain rfl:=oj d;exact⟨rfl,H.bl⟩
   replace d:=vQ b7 d;refine xL (qS (xF (xU (xA 1 F rfl fun a F=>?_))));obtain⟨dx,ce,d⟩:=xB d;refine kI F rfl rfl rfl ce fun a F=>xA 1 F rfl fun a F=>xJ ?_;replace d:=qX d Z;exact⟨t1,(by omega),dx,d,F.su,H,(kG ce)⟩
  replace d:=vQ bh d;refine oM (oR (oR ?_));replace d:=eL d Z;refine vH (xF ?_);exact⟨X,(vE d),F.su,(H.s [1,2,3,4] rfl rfl),i7⟩
 rintro a w ⟨s3,rfl,F,H,gq⟩
 have d:=xN av;refine xF (xP (fU isAgg31 sizeOf31 F rfl rfl (H.b 2 rfl) rfl rfl fun a F=>fU isAgg35 sizeOf35 F rfl rfl (H.b 0 rfl) rfl rfl fun a F=>xA 1 F rfl fun a F=>?_));obtain⟨bj,dy,d⟩:=xB d;refine oG F rfl call18 rfl (impl_SolveByClass_c bj dy _ aA (xI.m Q (H.l 3 rfl)) (xO.m i2 (H.l 1 rfl)) (kG W)) (fun a e w ⟨gr,g0,S,gs⟩ F=>?_);subst e;have H:=H.r1 S n0;refine xA 5 F rfl fun a F=>qO (fU isAgg31 sizeOf31 F rfl rfl (H.b 3 rfl) rfl rfl fun a F=>fU isAgg35 sizeOf35 F rfl rfl (H.b 1 rfl) rfl rfl (fun a F=>?_));refine xA 1 F rfl fun a F=>?_;obtain⟨I,rfl⟩:∃ x,x=w:=⟨_,rfl⟩;have gt:=H.sm;obtain⟨J,D,g2,e1,H,a0,gu⟩:=(H.s [4,2,0,1,3] rfl rfl).mg.fza;have h3:=g2.l.ld;have h4:=g2.r.ld;obtain⟨bm,dz,d⟩:=xB d;refine oG F rfl call19 rfl (spec_SolveByClass_c bm dz _ H.hN (xI.m Q (H.u h3)) (xO.m i2 (H.u h4)) (kG W)) (fun a e w ⟨cf,hv12,S,gv⟩ F=>?_);subst e;have H:=H.r1 S n1;refine xA 5 F rfl fun a F=>qO (fU isAgg31 sizeOf31 F rfl rfl (H.b 3 rfl) rfl rfl fun a F=>fU isAgg35 sizeOf35 F rfl rfl (H.b 2 rfl) rfl rfl (fun a F=>?_));obtain⟨cg,e0,d⟩:=xB d;refine oG F rfl call20 rfl (spec_FirstSolution_c cg e0 _ H.hN (xI.m Q (H.u h3)) (xO.m i2 (H.u h4))) (fun a e w ⟨gw,hv13,S,gx⟩ F=>?_);subst e;have H:=H.r1 S n1;refine xA 5 F rfl fun a F=>xJ (xC (xC ?_));obtain⟨o5,d,hk6⟩:=xK d;refine xX (fun a w=>∃ (s7:Bool),o5= .nx s7∧Sk a 307 [(1,p),(5,xG f),(7,vK i),(8,vK z),(25,xG bj.2),(26,cf),(29,xG cg.2),(193,.bool s7)]∧Sep J D I w [ro D (V:=(Sl 1 xH)) cf bm.1,bx z [xG t.vars,y] 35,bx i [xG h.size,n] 31]) ?_ ?_
 ·
  refine xU (xA 4 F rfl fun a F=>?_)
  rcases qU (bj.2 != bm.2) with aa | aa
  ·
   replace d:=vR aa d;have F:=F.eb 188 rfl aa;refine xA 5 F rfl fun a F=>xJ ?_;exact⟨true,(vE d),F.su,(H.s [1,3,4] rfl rfl)⟩
  replace d:=vQ aa d;have F:=F.eb 188 rfl aa;refine xA 2 F rfl fun a F=>?_;obtain⟨ch,e2,d⟩:=xB d;refine oK F rfl call17 rfl H (spec_SameNumbers_c ch e2 _ aA (H.l 2 rfl) (H.ro 1 rfl)) fun a w H F=>xA 2 F rfl fun a F=>xJ ?_;exact⟨(!ch),(vE d),F.su,(H.s [1,3,4] rfl rfl)⟩
 rintro a w ⟨s7,rfl,F,H⟩
 have d:=xN hk6;refine xF (qP F rfl (fun b8=>?_) (fun b8=>?_))
 ·
  replace d:=vR b8 d;refine xP (xA 1 F rfl fun a F=>xJ (xT (oE ?_)));have H:=(a0.1 (H.s [1,2] rfl rfl) (Ns.all ⟨n0,⟨n0,trivial⟩⟩)).um;refine xS F rfl (oD F rfl) ?_;obtain rfl:=oj d;exact⟨rfl,H.bl⟩
 replace d:=vQ b8 d;refine xL (xF (xC (xP (xA 2 F rfl fun a F=>xJ (qP F rfl (fun b9=>?_) (fun b9=>?_))))))
 ·
  replace d:=vR b9 d;refine xP (xA 3 F rfl fun a F=>xJ (xT (oE ?_)));have H:=(a0.1 (H.s [1,2] rfl rfl) (Ns.all ⟨n0,⟨n0,trivial⟩⟩)).um;refine xS F rfl (oD F rfl) ?_;obtain rfl:=oj d;exact⟨rfl,H.bl⟩
 replace d:=vQ b9 d;refine xL (xF (xC (xP (xA 3 F rfl fun a F=>xJ (qP F rfl (fun ba=>?_) (fun ba=>?_))))))
 ·
  replace d:=vR ba d;refine xP (xA 1 F rfl fun a F=>xJ (xT (oE ?_)));have H:=(a0.1 (H.s [1,2] rfl rfl) (Ns.all ⟨n0,⟨n0,trivial⟩⟩)).um;refine xS F rfl (oD F rfl) ?_;obtain rfl:=oj d;exact⟨rfl,H.bl⟩
 replace d:=vQ ba d;refine xL (xF (xC (xP (xA 2 F rfl fun a F=>xJ ?_))));obtain⟨o6,d,ci⟩:=xK d;refine xX (fun a w=>o6= .nx ()∧Sk a 307 [(1,p),(5,xG f),(7,vK i)]∧Sep J D I w [bx i [xG h.size,n] 31]) ?_ ?_
 ·
  refine qP F rfl (fun bb=>?_) (fun bb=>?_)
  ·
   replace d:=vR bb d;refine xP (fU isAgg31 sizeOf31 F rfl rfl (H.b 2 rfl) rfl rfl fun a F=>fU isAgg35 sizeOf35 F rfl rfl (H.b 1 rfl) rfl rfl fun a F=>xA 1 F rfl fun a F=>?_);obtain⟨bn,e3,d⟩:=xB d;refine oG F rfl call21 rfl (impl_IsSolution_c bn e3 _ aA (xI.m Q (H.a h3)) (xO.m i2 (H.a h4)) (H.ro 0 rfl)) (fun a e w ⟨hv14,S,gy⟩ F=>?_);subst e;have H:=H.r0 S;refine xA 5 F rfl fun a F=>xJ (xC ?_);obtain⟨o7,d,e4⟩:=xK d;refine xX (fun a w=>∃ (s8:Bool),o7= .nx s8∧Sk a 307 [(1,p),(5,xG f),(7,vK i),(215,.bool s8)]∧Sep J D I w [bx i [xG h.size,n] 31]) ?_ ?_
   ·
    refine xU (xA 3 F rfl fun a F=>?_)
    rcases qU (bn.2 != 0) with ab | ab
    ·
     replace d:=vR ab d;have F:=F.eb 212 rfl ab;refine xA 3 F rfl fun a F=>xJ ?_;exact⟨true,(vE d),F.su,(H.s [2] rfl rfl)⟩
    replace d:=vQ ab d;have F:=F.eb 212 rfl ab;refine xA 3 F rfl fun a F=>xJ ?_;exact⟨(!bn.1),(vE d),F.su,(H.s [2] rfl rfl)⟩
   rintro a w ⟨s8,rfl,F,H⟩
   have d:=xN e4;refine xF (qP F rfl (fun bc=>?_) (fun bc=>?_))
   ·
    replace d:=vR bc d;refine xP (xA 1 F rfl fun a F=>xJ (xT (oE ?_)));replace d:=zQ d ci;refine oE ?_;have H:=(a0.1 H (Ns.all ⟨n0,trivial⟩)).um;refine xS F rfl (oD F rfl) ?_;obtain rfl:=oj d;exact⟨rfl,H.bl⟩
   replace d:=vQ bc d;refine xL (xF ?_);exact⟨(vE d),F.su,H⟩
  replace d:=vQ bb d;refine xL (xF ?_);exact⟨(vE d),F.su,(H.s [2] rfl rfl)⟩
 rintro a w ⟨rfl,F,H⟩
 have d:=xN ci;refine xF (xP (oH kR F rfl rfl rfl fun a F=>oB isAgg29 F rfl rfl (H.b 0 rfl) rfl (fun a F=>?_)));obtain⟨O,e5,d⟩:=xB d;refine oI underlying29 sizeOf51 F rfl rfl rfl h3 e5 fun a p2 h5 F=>olA isAgg51 sizeOf51 F rfl rfl H.sm h5 fun a gz h6 F=>oA zeroValue51 F rfl rfl H (fun a w K H F=>?_);obtain⟨a1,rfl,a2,h7⟩:=qD.o h6;refine oWA (vs:=[xG O.arity,a1]) sizeOf51 F rfl rfl rfl H (oc rfl (oc (H.a h7).one on)) rfl rfl fun w H=>qO (fU isAgg51 sizeOf51 F rfl rfl (H.b 0 rfl) rfl rfl (fun a F=>?_));obtain⟨cj,e6,d⟩:=xB d;refine oG F rfl call22 rfl (impl_EquationsOver_c cj e6 _ aA (qD.m a2 (H.a h7))) (fun a e w ⟨h0,hv15,S,i20⟩ F=>?_);subst e;have H:=H.r1 S n0;refine xA 5 F rfl fun a F=>qO (fU isAgg51 sizeOf51 F rfl rfl (H.b 1 rfl) rfl rfl (fun a F=>?_));obtain⟨A,e7,d⟩:=xB d;refine oG F rfl call23 rfl (spec_EquationsOver_c A e7 _ aA (qD.m a2 (H.a h7))) (fun a e w ⟨E,g5,S,i21⟩ F=>?_);subst e;have H:=H.r1 S n0;refine xA 5 F rfl fun a F=>xJ (xC (xC ?_));obtain⟨o8,d,e8⟩:=xK d;refine xX (fun a w=>∃ (s9:Bool),o8= .nx s9∧Sk a 307 [(1,p),(5,xG f),(32,vK K),(35,E),(238,.bool s9)]∧Sep J D I w [rl 1 (vO 1 xH) 25 E A.1,bx K [xG O.arity,a1] 51]) ?_ ?_
 ·
  refine xU (xA 4 F rfl fun a F=>?_)
  rcases qU (cj.2 != A.2) with ac | ac
  ·
   replace d:=vR ac d;have F:=F.eb 233 rfl ac;refine xA 5 F rfl fun a F=>xJ ?_;exact⟨true,(vE d),F.su,(H.s [0,2] rfl rfl)⟩
  replace d:=vQ ac d;have F:=F.eb 233 rfl ac;refine xA 2 F rfl fun a F=>?_;obtain⟨cl,e9,d⟩:=xB d;refine oK F rfl call24 rfl H (spec_SameLists_c cl e9 _ aA (H.l 1 rfl) (H.l 0 rfl)) fun a w H F=>xA 2 F rfl fun a F=>xJ ?_;exact⟨(!cl),(vE d),F.su,(H.s [0,2] rfl rfl)⟩
 rintro a w ⟨s9,rfl,F,H⟩
 have d:=xN e8;refine xF (qP F rfl (fun bd=>?_) (fun bd=>?_))
 ·
  replace d:=vR bd d;refine xP (xA 1 F rfl fun a F=>xJ (xT (oE ?_)));have H:=(a0.1 H (Ns.all ⟨n0,⟨n0,trivial⟩⟩)).um;refine xS F rfl (oD F rfl) ?_;obtain rfl:=oj d;exact⟨rfl,H.bl⟩
 replace d:=vQ bd d;refine xL (xF (xP (xA 1 F rfl fun a F=>oH cB F rfl rfl rfl fun a F=>oB isAgg2 F rfl rfl (H.b 1 rfl) rfl (fun a F=>?_))));obtain⟨aq,ea,d⟩:=xB d;refine oG F rfl call25 rfl (spec_P6Tuple_c aq ea _ aA (H.a (e1 A1)) (show xZ (2) by decide) a2) (fun a e w ⟨P,g6,S⟩ F=>?_);subst e;have H:=H.r1 S n0;refine xA 1 F rfl fun a F=>qO (fU isAgg51 sizeOf51 F rfl rfl (H.b 2 rfl) rfl rfl fun a F=>xA 1 F rfl fun a F=>?_);obtain⟨j,ec,d⟩:=xB d;refine oG F rfl call16 rfl (spec_HasTuple_c j ec _ aA (show xZ (2) by decide) (qD.m a2 (H.a h7)) (H.l 0 rfl)) (fun a e w ⟨g7,S,i22⟩ F=>?_);subst e;have H:=H.r0 S;refine xA 5 F rfl fun a F=>qO (xA 1 F rfl fun a F=>oY ?_);refine xF (xC (xP (xA 1 F rfl fun a F=>xJ ?_)));obtain⟨o9,d,d2⟩:=xK d;refine xX (fun a w=>∃ (a3:Bool),o9= .nx a3∧Sk a 307 [(5,xG f),(38,.bool j.1),(39,xG j.2),(40,.bool a3)]∧Sep J D I w []) ?_ ?_
 ·
  refine xW ?_;obtain⟨ed,ee,d⟩:=qE d;refine oU (fun g a w=>∃ (M:Nat) (Y:List (List Int)) (U:Bool),(M≤A.1.length∧A.1.drop M=Y)∧Y.length=g∧qJ ed Y M U=some o9∧Sk a 307 [(41,xG (M:Int)),(5,xG f),(32,vK K),(35,E),(37,P),(38,.bool j.1),(39,xG j.2),(40,.bool U)]∧Sep J D I w [rl 1 xH 2 P aq,rl 1 (vO 1 xH) 25 E A.1,bx K [xG O.arity,a1] 51]) A.1.length ?_ ?_
  ·
   exact⟨0,A.1,true,⟨Nat.zero_le _,rfl⟩,rfl,d,F.su,H⟩
  intro g3 a w ⟨M,Y,U,G,ef,d,F,H⟩
  cases Y with
  | nil=>
   replace d:=qH d;have q1:=qG G.1 G.2;have l1:=vA q1;refine xC (xP (xA 2 F rfl fun a F=>oL underlying45 F rfl rfl (H.l 1 rfl) fun a i23 F=>xA 1 F rfl fun a F=>xJ (qT F rfl l1 (oM ?_))));refine oR (oR (vH (xF ?_)));exact⟨U,(vE d),F.su,(H.s [] rfl rfl)⟩
  | cons x2 Y=>
   subst ef;replace G:=oO G.2;have y1:=oZ G.2.1;obtain⟨ck2,d,eg⟩:=oV d;rw[ee] at d;have l1:=qM G.1;refine xC (xP (xA 2 F rfl fun a F=>oL underlying45 F rfl rfl (H.l 1 rfl) fun a cm F=>xA 1 F rfl fun a F=>xJ (qV F rfl l1 (xL ?_))));refine xF (xC ?_);have j1:=fE (Nat.le_of_lt G.1) cm;have m1:=zC G.1 cm;refine xW (xC (xQ H (by kernel_rfl) (by kernel_rfl) (xR F rfl (fun w l=>xM F rfl) fun a F=>xR F rfl (fun w l=>xM F rfl) fun a F=>qI underlying45 sizeOf25 F rfl rfl rfl (H.l 1 rfl) y1 fun a p3 h8 F=>qlS isAgg25 F rfl rfl qA h8 fun a v19 h9 F=>xR F rfl (fun w l=>vG cB F rfl rfl) fun a F=>qB isAgg2 F rfl rfl (H.qb 2 rfl) rfl (fun a F=>?_))));obtain⟨eh,ei,d⟩:=xB d;refine qI underlying25 sizeOf2 F rfl rfl rfl h9 ei fun a p4 ej F=>iB isAgg2 F rfl rfl qA ej fun a ek F=>xR F rfl (fun w l=>zM F rfl) fun a F=>kA fun w H=>xF (xC (xP (xA 1 F rfl fun a F=>xJ ?_)));obtain⟨cn,d,d3⟩:=xK d;refine xX (fun a w=>∃ (aw:Int),cn= .nx aw∧Sk a 307 [(5,xG f),(32,vK K),(35,E),(37,P),(38,.bool j.1),(39,xG j.2),(40,.bool U),(41,xG (M:Int)),(42,xG aw)]∧Sep J D I w [rl 1 xH 2 P aq,rl 1 (vO 1 xH) 25 E A.1,bx K [xG O.arity,a1] 51]∧xZ aw) ?_ ?_
   ·
    refine xW ?_;obtain⟨el,em,d⟩:=zG d;refine oU (fun g a w=>∃ (k2:Nat) (ar:Int),k2+g=O.arity.toNat∧zH el g k2 ar=some cn∧Sk a 307 [(43,xG (k2:Int)),(5,xG f),(32,vK K),(35,E),(37,P),(38,.bool j.1),(39,xG j.2),(40,.bool U),(41,xG (M:Int)),(42,xG ar)]∧Sep J D I w [rl 1 xH 2 P aq,rl 1 (vO 1 xH) 25 E A.1,bx K [xG O.arity,a1] 51]∧xZ ar) O.arity.toNat ?_ ?_
    ·
     exact⟨0,eh,(Nat.zero_add _),d,F.su,H,ek⟩
    intro g4 a w ⟨k2,ar,ax,d,F,H,en⟩
    cases g4 with
    | zero=>
     replace d:=vY d;have l2:=kT ax;refine xC (xP (xA 1 F rfl fun a F=>oH cB F rfl rfl rfl fun a F=>oB isAgg2 F rfl rfl (H.b 2 rfl) rfl fun a F=>xA 1 F rfl fun a F=>xJ (qT F rfl l2 (oM ?_))));refine oR (oR (vH (xF ?_)));exact⟨ar,(vE d),F.su,H,en⟩
    | succ g4=>
     obtain⟨ck3,d,eo⟩:=vX d;rw[em] at d;have l2:=zW ax;refine xC (xP (xA 1 F rfl fun a F=>oH cB F rfl rfl rfl fun a F=>oB isAgg2 F rfl rfl (H.b 2 rfl) rfl fun a F=>xA 1 F rfl fun a F=>xJ (qV F rfl l2 (xL ?_))));refine xF (xC ?_);have j2:=k64I ax a2;have m2:=bC ax a2;refine xW (xQ H (by kernel_rfl) (by kernel_rfl) (xR F rfl (fun w l=>xM F rfl) fun a F=>xR F rfl (fun w l=>xM F rfl) fun a F=>xR F rfl (fun w l=>xM F rfl) fun a F=>qI underlying45 sizeOf25 F rfl rfl rfl (H.l 1 rfl) y1 fun a p5 ep F=>qlS isAgg25 F rfl rfl qA ep fun a v20 er F=>xR F rfl (fun w l=>xM F rfl) (fun a F=>?_)));obtain⟨z40,es,d⟩:=xB d;refine qI underlying25 sizeOf2 F rfl rfl rfl er es fun a p6 et F=>iB isAgg2 F rfl rfl qA et fun a ha F=>xR F rfl (fun w l=>xM F rfl) fun a F=>xR F rfl (fun w l=>xM F rfl) (fun a F=>?_);obtain⟨hb,eu,d⟩:=xB d;refine qI underlying25 sizeOf2 F rfl rfl rfl (H.l 0 rfl) eu fun a p7 ew F=>iB isAgg2 F rfl rfl qA ew (fun a hc F=>?_);obtain⟨he,ex,d⟩:=xB d;refine xR F rfl (fun w l=>r_mul F rfl rfl ex) (fun a F=>?_);obtain⟨ey,co,d⟩:=xB d;refine xR F rfl (fun w l=>r_add F rfl rfl co) fun a F=>xR F rfl (fun w l=>zM F rfl) fun a F=>kA fun w H=>qS (xF (xU (xA 1 F rfl fun a F=>qQ F rfl rfl rfl m2 fun a F=>xA 1 F rfl fun a F=>xJ ?_)));replace d:=qX d eo;exact⟨_,Nat.lt_succ_self _,k2+1,ey,(by omega),d,F.su,H,(kG co)⟩
   rintro a w ⟨aw,rfl,F,H,hf⟩
   have d:=xN d3;refine xF ?_;obtain⟨ez,d,d4⟩:=xK d;refine xX (fun a w=>∃ (ay:Bool),ez= .nx ay∧Sk a 307 [(5,xG f),(32,vK K),(35,E),(37,P),(38,.bool j.1),(39,xG j.2),(40,.bool ay),(41,xG (M:Int))]∧Sep J D I w [rl 1 xH 2 P aq,rl 1 (vO 1 xH) 25 E A.1,bx K [xG O.arity,a1] 51]) ?_ ?_
   ·
    refine xU (xA 2 F rfl fun a F=>?_)
    rcases qU U with ad | ad
    ·
     replace d:=vR ad d;have F:=F.eb 284 rfl ad;refine xA 1 F rfl fun a F=>?_;obtain⟨eI,eS,d⟩:=xB d;refine o_rem F rfl rfl rfl eS fun a F=>xA 3 F rfl fun a F=>xJ ?_;exact⟨(eI==0),(vE d),F.su,H⟩
    replace d:=vQ ad d;have F:=F.eb 284 rfl ad;refine xA 5 F rfl fun a F=>xJ ?_;exact⟨false,(vE d),F.su,H⟩
   rintro a w ⟨ay,rfl,F,H⟩
   have d:=xN d4;refine qS (xF (xU (xA 1 F rfl fun a F=>qQ F rfl rfl rfl m1 fun a F=>xA 1 F rfl fun a F=>xJ ?_)));replace d:=qX d eg;exact⟨_,Nat.lt_succ_self _,M+1,Y,ay,⟨G.1,G.2.2⟩,rfl,d,F.su,H⟩
 rintro a w ⟨a3,rfl,F,H⟩
 have d:=xN d2;refine xF (xC ?_);obtain⟨f3,d,d5⟩:=xK d;refine xX (fun a w=>∃ (bp:Bool),f3= .nx bp∧Sk a 307 [(4,.bool bp)]∧Sep J D I w []) ?_ ?_
 ·
  refine xU (xA 3 F rfl fun a F=>?_)
  rcases qU (j.2==0) with ae | ae
  ·
   replace d:=vR ae d;have F:=F.eb 291 rfl ae;refine xA 3 F rfl fun a F=>?_
   rcases qU (!j.1) with af | af
   ·
    replace d:=vR af d;have F:=F.eb 294 rfl af;refine xA 7 F rfl fun a F=>?_
    rcases qU (f != 6) with ag | ag
    ·
     replace d:=vR ag d;have F:=F.eb 301 rfl ag;refine xA 6 F rfl fun a F=>xJ ?_;exact⟨true,(vE d),F.su,H⟩
    replace d:=vQ ag d;have F:=F.eb 301 rfl ag;refine xA 2 F rfl fun a F=>o_eqlB underlying4 F rfl rfl rfl fun a F=>xA 3 F rfl fun a F=>xJ ?_;exact⟨(j.1==a3),(vE d),F.su,H⟩
   replace d:=vQ af d;have F:=F.eb 294 rfl af;refine xA 4 F rfl fun a F=>?_
   rcases qU a3 with ah | ah
   ·
    replace d:=vR ah d;have F:=F.eb 298 rfl ah;refine xA 3 F rfl fun a F=>?_
    rcases qU (f != 6) with ai | ai
    ·
     replace d:=vR ai d;have F:=F.eb 301 rfl ai;refine xA 6 F rfl fun a F=>xJ ?_;exact⟨true,(vE d),F.su,H⟩
    replace d:=vQ ai d;have F:=F.eb 301 rfl ai;refine xA 2 F rfl fun a F=>o_eqlB underlying4 F rfl rfl rfl fun a F=>xA 3 F rfl fun a F=>xJ ?_;exact⟨(j.1==a3),(vE d),F.su,H⟩
   replace d:=vQ ah d;have F:=F.eb 298 rfl ah;refine xA 9 F rfl fun a F=>xJ ?_;exact⟨false,(vE d),F.su,H⟩
  replace d:=vQ ae d;have F:=F.eb 291 rfl ae;refine xA 11 F rfl fun a F=>?_;refine xA 5 F rfl fun a F=>xJ ?_;exact⟨false,(vE d),F.su,H⟩
 rintro a w ⟨bp,rfl,F,H⟩
 have d:=xN d5;refine xF (xT ?_);have H:=(a0.1 H (Ns.all trivial)).um;refine xS F rfl (oD F rfl) ?_;obtain rfl:=oj d;exact⟨rfl,H.bl⟩
end Go.Proofs.YtgnfibiaaipibaaGreat
