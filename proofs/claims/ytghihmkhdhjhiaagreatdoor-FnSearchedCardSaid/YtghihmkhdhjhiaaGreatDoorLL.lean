import Derived.Test.YtghihmkhdhjhiaaGreatDoorP2
import Derived.Test.YtghihmkhdhjhiaaGreatDoorPC
import Derived.Test.YtghihmkhdhjhiaaGreatDoorQ1
import Derived.Test.YtghihmkhdhjhiaaGreatDoorQ2
namespace Go.Proofs.YtghihmkhdhjhiaaGreatDoor
open Go.Proofs.Tryz
set_option maxHeartbeats 1000000
set_option linter.unusedVariables false
set_option linter.unusedSimpArgs false
set_option maxRecDepth 100000
open Go.RowKit
def laws_f6big (c:List UInt8):Option Bool:=
 some ((decide (4096<(c.length:Int))))
theorem laws_f6big_c {B:Nat→Prop} {f:List UInt8} (r:Bool) (h:laws_f6big f=some r) {e:Value} (d:World) (i:∀ c,B c→c<d.heap.size) (j:Bo B d (Sl 1 cD) e f):Calls Tryz.prog 4 #[e] d (kU (.bool r) d):=by
 unfold laws_f6big at h
 refine xW (L:=[(0,e)]) func4 rfl rfl rfl (sc rfl sn) (fun a F=>?_);have H:=Sep.start i;refine xV (xA 1 F rfl fun a F=>vE (xA 1 F rfl fun a F=>oL underlying22 F rfl rfl j fun a n F=>xA 2 F rfl fun a F=>?_));refine xG (xP (xR F rfl (xX F rfl) ?_));obtain rfl:=oj h;exact⟨rfl,H.bl⟩
def laws_FnSearched (N:Nat) (p E:List UInt8):Option Bool:=
 zW (σ:=Bool) (
  xZ (laws_f6big p) fun F=>
  if F then  some (.nx true) else  xZ (laws_f6big E) fun G=>
   some (.nx G)) fun H=>
 if H then
  some true
 else
  xZ (iM N p) fun c=>
  xZ (zV N (Template.mk c.1.size c.1.rels) (Instance.mk c.2.vars c.2.cons) 2000) fun d=>
  xZ (dL N (Template.mk c.1.size c.1.rels) (Instance.mk c.2.vars c.2.cons) 2000) fun e=>
  xZ (aO N (Template.mk c.1.size c.1.rels) (Instance.mk c.2.vars c.2.cons) 2000) fun h=>
  xZ (aR N (Template.mk c.1.size c.1.rels) (Instance.mk c.2.vars c.2.cons) 2000) fun f=>
  xZ (cB N (Template.mk c.1.size c.1.rels) (Instance.mk c.2.vars c.2.cons)) fun I=>
  zW (σ:=Bool) (
   if (d.2.2 != e.2.2) then  some (.nx true) else  if (d.2.2 != I.2) then  some (.nx true) else  xZ (dO d.1 e.1) fun J=>
     if (!J) then  some (.nx true) else  if (d.2.1 != e.2.1) then  some (.nx true) else  if (h.2 != f.2) then  some (.nx true) else  xZ (dJ h.1 f.1) fun t=>
        if (!t) then  some (.nx true) else  some (.nx (decide (e.2.1<1)))) fun K=>
  if K then
   some false
  else
   xZ (ck (e.2.1 - 1)) fun x=>
   xZ (zV N (Template.mk c.1.size c.1.rels) (Instance.mk c.2.vars c.2.cons) x) fun y=>
   xZ (zV N (Template.mk c.1.size c.1.rels) (Instance.mk c.2.vars c.2.cons) e.2.1) fun A=>
   zW (σ:=Bool) (
    if (y.2.2 != 7) then  some (.nx true) else  some (.nx (A.2.2 != d.2.2))) fun L=>
   if L then
    some false
   else
    if (d.2.2==0) then
     xZ (dZ N (Template.mk c.1.size c.1.rels) (Instance.mk c.2.vars c.2.cons) e.1) fun i=>
     xZ (zZ N (Template.mk c.1.size c.1.rels) (Instance.mk c.2.vars c.2.cons) ([])) fun B=>
     zW (σ:=Bool) (
      if (i.2==0) then  if i.1 then  if (h.2==6) then  some (.nx (B.2==8)) else  some (.nx false) else  some (.nx false) else  some (.nx false)) fun M=>
     some M
    else
     xZ (zZ N (Template.mk c.1.size c.1.rels) (Instance.mk c.2.vars c.2.cons) f.1) fun j=>
     xZ (aP f.1) fun C=>
     xZ (bN C) fun n=>
     zW (σ:=Bool) (
      if (d.2.2 == 6) then  if (h.2 == 0) then  if (j.2 == 0) then  if (j.1 == (f.1.length : Int)) then  if (n.2 == 0) then  xZ (dJ n.1 f.1) fun D =>
           some (.nx D) else  some (.nx false) else  some (.nx false) else  some (.nx false) else  some (.nx false) else  some (.nx false)) fun O=>
     some O
theorem laws_FnSearched_c {B:Nat→Prop} {N:Nat} {x0 x1:List UInt8} (r:Bool) (d:laws_FnSearched N x0 x1=some r) {v0:Value} {v1:Value} (j:World) (hN:∀ c,B c→c<j.heap.size) (hG:GloE j) (A0:Bo B j (Sl 1 cD) v0 x0) (A1:Bo B j (Sl 1 cD) v1 x1):Calls Tryz.prog 3 #[v0,v1] j (kU (.bool r) j):=by
 unfold laws_FnSearched at d
 refine xW (L:=[(0,v0),(1,v1)]) func3 rfl rfl rfl (sc rfl (sc rfl sn)) (fun a F=>?_);have H:=Sep.start hN;refine xV (xA 1 F rfl fun a F=>xG (xF (xF ?_)));obtain⟨b4,d,b5⟩:=xT d;refine oR (fun a w=>∃ (s1:Bool),b4= .nx s1∧Sk a 201 [(0,v0),(38,.bool s1)]∧Sep [] B j w []) ?_ ?_
 ·
  refine oM (xA 1 F rfl fun a F=>?_);obtain⟨z1,c1,d⟩:=xB d;refine oK F rfl call4 rfl H (laws_f6big_c z1 c1 _ aA (H.a A0)) fun a w H F=>xA 1 F rfl fun a F=>?_
  rcases vJ z1 with Q | Q
  ·
   replace d:=vY Q d;have F:=F.eb 35 rfl Q;refine xA 3 F rfl fun a F=>xG ?_;exact⟨true,(zL d),F.su,H⟩
  replace d:=vX Q d;have F:=F.eb 35 rfl Q;refine xA 1 F rfl fun a F=>?_;obtain⟨z2,c2,d⟩:=xB d;refine oK F rfl call4 rfl H (laws_f6big_c z2 c2 _ aA (H.a A1)) fun a w H F=>xA 1 F rfl fun a F=>xG ?_;exact⟨z2,(zL d),F.su,H⟩
 rintro a w ⟨s1,rfl,F,H⟩
 have d:=xY b5;refine xH (qS F rfl (fun aa=>?_) (fun aa=>?_))
 ·
  replace d:=vY aa d;refine xV (xA 1 F rfl fun a F=>xG (xP (oJ (xR F rfl (xX F rfl) ?_))));obtain rfl:=oj d;exact⟨rfl,H.bl⟩
 replace d:=vX aa d;refine xS (xH (xV (xA 1 F rfl fun a F=>?_)));obtain⟨n,c3,d⟩:=xB d;refine oG F rfl call5 rfl (yQ n c3 _ H.hN (H.u A0)) (fun a e w ⟨v2,ab,ce,S,f,h⟩ F=>?_);subst e;have H:=H.rk S ⟨n0,⟨n1,trivial⟩⟩ rfl;refine xA 3 F rfl fun a F=>oA zeroValue26 F rfl rfl H fun a w b1 H F=>oA zeroValue29 F rfl rfl H fun a w b2 H F=>eX (vs:=[xC n.1.size,v2]) sizeOf26 F rfl rfl rfl (H.s [1,0,2,3] rfl rfl) (oc rfl (oc ((H.s [1,0,2,3] rfl rfl).l 2 rfl).one on)) rfl rfl fun w H=>eX (vs:=[xC n.2.vars,ab]) sizeOf29 F rfl rfl rfl (H.s [1,0,2,3] rfl rfl) (oc rfl (oc ((H.s [1,0,2,3] rfl rfl).r 3 rfl).one on)) rfl rfl fun w H=>vE ?_;refine fJ isAgg26 sizeOf26 F rfl rfl (H.b 1 rfl) rfl rfl fun a F=>fJ isAgg29 sizeOf29 F rfl rfl (H.b 0 rfl) rfl rfl (fun a F=>?_);obtain⟨i,c4,d⟩:=xB d;refine oG F rfl call6 rfl (iE i c4 _ aA (xJ.m f (H.l 2 rfl)) (xK.m h (H.r 3 rfl)) (show xO (2000) by decide)) (fun a e w ⟨v3,cf,S,i3,i4⟩ F=>?_);subst e;have H:=H.r1 S n0;refine xA 7 F rfl fun a F=>vE ?_;refine fJ isAgg26 sizeOf26 F rfl rfl (H.b 2 rfl) rfl rfl fun a F=>fJ isAgg29 sizeOf29 F rfl rfl (H.b 1 rfl) rfl rfl (fun a F=>?_);obtain⟨p,c5,d⟩:=xB d;refine oG F rfl call7 rfl (sT p c5 _ aA (xJ.m f (H.l 3 rfl)) (xK.m h (H.r 4 rfl)) (show xO (2000) by decide)) (fun a e w ⟨v4,cg,S,i5,i6⟩ F=>?_);subst e;have H:=H.r1 S n0;refine xA 7 F rfl fun a F=>vE ?_;refine fJ isAgg26 sizeOf26 F rfl rfl (H.b 3 rfl) rfl rfl fun a F=>fJ isAgg29 sizeOf29 F rfl rfl (H.b 2 rfl) rfl rfl (fun a F=>?_);obtain⟨y,c6,d⟩:=xB d;refine oG F rfl call8 rfl (nC y c6 _ aA (xJ.m f (H.l 4 rfl)) (xK.m h (H.r 5 rfl)) (show xO (2000) by decide)) (fun a e w ⟨v5,ch,S,i7⟩ F=>?_);subst e;have H:=H.r1 S n0;refine xA 5 F rfl fun a F=>vE (fJ isAgg26 sizeOf26 F rfl rfl (H.b 4 rfl) rfl rfl fun a F=>fJ isAgg29 sizeOf29 F rfl rfl (H.b 3 rfl) rfl rfl (fun a F=>?_));obtain⟨Z,c7,d⟩:=xB d;refine oG F rfl call9 rfl (nB Z c7 _ aA (xJ.m f (H.l 5 rfl)) (xK.m h (H.r 6 rfl)) (show xO (2000) by decide)) (fun a e w ⟨v6,ci,S,i8⟩ F=>?_);subst e;have H:=H.r1 S n0;refine xA 5 F rfl fun a F=>vE (fJ isAgg26 sizeOf26 F rfl rfl (H.b 5 rfl) rfl rfl fun a F=>fJ isAgg29 sizeOf29 F rfl rfl (H.b 4 rfl) rfl rfl (fun a F=>?_));obtain⟨w1,rfl⟩:∃ x,x=w:=⟨_,rfl⟩;have cj:=H.sm;obtain⟨X1,a0,g1,e1,H,t,cl⟩:=(H.s [6,7,0,1,2,3,4,5] rfl rfl).mg.fza;have A:=g1.l.ld;have C:=g1.r.rd;obtain⟨z8,c8,d⟩:=xB d;refine oG F rfl call10 rfl (nP z8 c8 _ H.hN (xJ.m f (H.u A)) (xK.m h (H.u C))) (fun a e w ⟨v7,cm,S,i9⟩ F=>?_);subst e;have H:=H.r1 S n1;refine xA 5 F rfl fun a F=>xG (xF (xF ?_));obtain⟨o1,d,b6⟩:=xT d;refine oR (fun a w=>∃ (s2:Bool),o1= .nx s2∧Sk a 201 [(5,qC b1),(6,qC b2),(9,xC i.2.2),(10,v4),(11,xC p.2.1),(14,xC y.2),(15,v6),(109,.bool s2)]∧Sep X1 a0 w1 w [rl 4 oP 77 v6 Z.1,rl 1 xI 2 v4 p.1,bx b2 [xC n.2.vars,ab] 29,bx b1 [xC n.1.size,v2] 26]) ?_ ?_
 ·
  refine oM (xA 4 F rfl fun a F=>?_)
  rcases vJ (i.2.2 != p.2.2) with T | T
  ·
   replace d:=vY T d;have F:=F.eb 79 rfl T;refine xA 11 F rfl fun a F=>?_;refine xA 11 F rfl fun a F=>?_;refine xA 8 F rfl fun a F=>xG ?_;exact⟨true,(zL d),F.su,(H.s [1,3,5,6] rfl rfl)⟩
  replace d:=vX T d;have F:=F.eb 79 rfl T;refine xA 5 F rfl fun a F=>?_
  rcases vJ (i.2.2 != z8.2) with U | U
  ·
   replace d:=vY U d;have F:=F.eb 84 rfl U;refine xA 11 F rfl fun a F=>?_;refine xA 11 F rfl fun a F=>?_;refine xA 3 F rfl fun a F=>xG ?_;exact⟨true,(zL d),F.su,(H.s [1,3,5,6] rfl rfl)⟩
  replace d:=vX U d;have F:=F.eb 84 rfl U;refine xA 2 F rfl fun a F=>?_;obtain⟨z9,c9,d⟩:=xB d;refine oK F rfl call11 rfl H (rG z9 c9 _ aA (H.l 4 rfl) (H.l 3 rfl)) fun a w H F=>xA 3 F rfl fun a F=>?_
  rcases vJ (!z9) with V | V
  ·
   replace d:=vY V d;have F:=F.eb 90 rfl V;refine xA 11 F rfl fun a F=>?_;refine xA 8 F rfl fun a F=>xG ?_;exact⟨true,(zL d),F.su,(H.s [1,3,5,6] rfl rfl)⟩
  replace d:=vX V d;have F:=F.eb 90 rfl V;refine xA 5 F rfl fun a F=>?_
  rcases vJ (i.2.1 != p.2.1) with W | W
  ·
   replace d:=vY W d;have F:=F.eb 95 rfl W;refine xA 11 F rfl fun a F=>?_;refine xA 3 F rfl fun a F=>xG ?_;exact⟨true,(zL d),F.su,(H.s [1,3,5,6] rfl rfl)⟩
  replace d:=vX W d;have F:=F.eb 95 rfl W;refine xA 5 F rfl fun a F=>?_
  rcases vJ (y.2 != Z.2) with X | X
  ·
   replace d:=vY X d;have F:=F.eb 100 rfl X;refine xA 9 F rfl fun a F=>xG ?_;exact⟨true,(zL d),F.su,(H.s [1,3,5,6] rfl rfl)⟩
  replace d:=vX X d;have F:=F.eb 100 rfl X;refine xA 2 F rfl fun a F=>?_;obtain⟨am,b7,d⟩:=xB d;refine oK F rfl call12 rfl H (lW am b7 _ aA (H.l 2 rfl) (H.l 1 rfl)) fun a w H F=>xA 3 F rfl fun a F=>?_
  rcases vJ (!am) with Y | Y
  ·
   replace d:=vY Y d;have F:=F.eb 106 rfl Y;refine xA 3 F rfl fun a F=>xG ?_;exact⟨true,(zL d),F.su,(H.s [1,3,5,6] rfl rfl)⟩
  replace d:=vX Y d;have F:=F.eb 106 rfl Y;refine xA 3 F rfl fun a F=>xG ?_;exact⟨(decide (p.2.1<1)),(zL d),F.su,(H.s [1,3,5,6] rfl rfl)⟩
 rintro a w ⟨s2,rfl,F,H⟩
 have d:=xY b6;refine xH (qS F rfl (fun ac=>?_) (fun ac=>?_))
 ·
  replace d:=vY ac d;refine xV (xA 1 F rfl fun a F=>xG (xP (oJ ?_)));have H:=(t.1 H (Ns.all ⟨n0,⟨n0,⟨n0,⟨n0,trivial⟩⟩⟩⟩)).um;refine xR F rfl (xX F rfl) ?_;obtain rfl:=oj d;exact⟨rfl,H.bl⟩
 replace d:=vX ac d;refine xS (xH (xV (fJ isAgg26 sizeOf26 F rfl rfl (H.b 3 rfl) rfl rfl fun a F=>fJ isAgg29 sizeOf29 F rfl rfl (H.b 2 rfl) rfl rfl fun a F=>xA 1 F rfl fun a F=>?_)));obtain⟨cn,an,d⟩:=xB d;refine fL F rfl rfl rfl an (fun a F=>?_);obtain⟨ao,b8,d⟩:=xB d;refine oG F rfl call6 rfl (iE ao b8 _ aA (xJ.m f (H.a A)) (xK.m h (H.a C)) (kQ an)) (fun a e w ⟨v8,co,S,cp,cq⟩ F=>?_);subst e;have H:=H.r1 S n0;refine xA 7 F rfl fun a F=>vE ?_;refine fJ isAgg26 sizeOf26 F rfl rfl (H.b 4 rfl) rfl rfl fun a F=>fJ isAgg29 sizeOf29 F rfl rfl (H.b 3 rfl) rfl rfl fun a F=>xA 1 F rfl fun a F=>?_;obtain⟨aq,b9,d⟩:=xB d;refine oG F rfl call6 rfl (iE aq b9 _ aA (xJ.m f (H.a A)) (xK.m h (H.a C)) i5) (fun a e w ⟨v9,cr,S,cs,ct⟩ F=>?_);subst e;have H:=H.r1 S n0;refine xA 7 F rfl fun a F=>xG (xF (xF ?_));obtain⟨o2,d,ba⟩:=xT d;refine oR (fun a w=>∃ (s3:Bool),o2= .nx s3∧Sk a 201 [(5,qC b1),(6,qC b2),(9,xC i.2.2),(10,v4),(14,xC y.2),(15,v6),(133,.bool s3)]∧Sep X1 a0 w1 w [rl 4 oP 77 v6 Z.1,rl 1 xI 2 v4 p.1,bx b2 [xC n.2.vars,ab] 29,bx b1 [xC n.1.size,v2] 26]) ?_ ?_
 ·
  refine oM (xA 3 F rfl fun a F=>?_)
  rcases vJ (ao.2.2 != 7) with D | D
  ·
   replace d:=vY D d;have F:=F.eb 129 rfl D;refine xA 4 F rfl fun a F=>xG ?_;exact⟨true,(zL d),F.su,(H.s [2,3,4,5] rfl rfl)⟩
  replace d:=vX D d;have F:=F.eb 129 rfl D;refine xA 4 F rfl fun a F=>xG ?_;exact⟨(aq.2.2 != i.2.2),(zL d),F.su,(H.s [2,3,4,5] rfl rfl)⟩
 rintro a w ⟨s3,rfl,F,H⟩
 have d:=xY ba;refine xH (qS F rfl (fun a8=>?_) (fun a8=>?_))
 ·
  replace d:=vY a8 d;refine xV (xA 1 F rfl fun a F=>xG (xP (oJ ?_)));have H:=(t.1 H (Ns.all ⟨n0,⟨n0,⟨n0,⟨n0,trivial⟩⟩⟩⟩)).um;refine xR F rfl (xX F rfl) ?_;obtain rfl:=oj d;exact⟨rfl,H.bl⟩
 replace d:=vX a8 d;refine xS (xH (xF (xV (xA 2 F rfl fun a F=>xG (qS F rfl (fun a9=>?_) (fun a9=>?_))))))
 ·
  replace d:=vY a9 d;refine xV (fJ isAgg26 sizeOf26 F rfl rfl (H.b 3 rfl) rfl rfl fun a F=>fJ isAgg29 sizeOf29 F rfl rfl (H.b 2 rfl) rfl rfl fun a F=>xA 1 F rfl fun a F=>?_);obtain⟨ad,bb,d⟩:=xB d;refine oG F rfl call13 rfl (rW ad bb _ aA (xJ.m f (H.a A)) (xK.m h (H.a C)) (H.l 1 rfl)) (fun a e w ⟨cu,S,cx⟩ F=>?_);subst e;have H:=H.r0 S;refine xA 5 F rfl fun a F=>vE (fJ isAgg26 sizeOf26 F rfl rfl (H.b 3 rfl) rfl rfl fun a F=>fJ isAgg29 sizeOf29 F rfl rfl (H.b 2 rfl) rfl rfl (fun a F=>?_));refine oR0 (R:=oP) underlying35 sizeOf77 F rfl H (fun a w cy H F=>?_);obtain⟨ar,bc,d⟩:=xB d;refine oG F rfl call14 rfl (gQ ar bc _ aA (xJ.m f (H.a A)) (xK.m h (H.a C)) (H.l 0 rfl)) (fun a e w ⟨ca,S,cz,d0⟩ F=>?_);subst e;have H:=H.r0 S;refine xA 5 F rfl fun a F=>xG (xF ?_);obtain⟨o3,d,be⟩:=xT d;refine oR (fun a w=>∃ (s4:Bool),o3= .nx s4∧Sk a 201 [(4,.bool s4)]∧Sep X1 a0 w1 w []) ?_ ?_
  ·
   refine oM (xA 3 F rfl fun a F=>?_)
   rcases vJ (ad.2==0) with E | E
   ·
    replace d:=vY E d;have F:=F.eb 152 rfl E;refine xA 3 F rfl fun a F=>?_
    rcases vJ ad.1 with G | G
    ·
     replace d:=vY G d;have F:=F.eb 155 rfl G;refine xA 4 F rfl fun a F=>?_
     rcases vJ (y.2==6) with I | I
     ·
      replace d:=vY I d;have F:=F.eb 159 rfl I;refine xA 4 F rfl fun a F=>xG ?_;exact⟨(ar.2==8),(zL d),F.su,(H.s [] rfl rfl)⟩
     replace d:=vX I d;have F:=F.eb 159 rfl I;refine xA 4 F rfl fun a F=>xG ?_;exact⟨false,(zL d),F.su,(H.s [] rfl rfl)⟩
    replace d:=vX G d;have F:=F.eb 155 rfl G;refine xA 8 F rfl fun a F=>xG ?_;exact⟨false,(zL d),F.su,(H.s [] rfl rfl)⟩
   replace d:=vX E d;have F:=F.eb 152 rfl E;refine xA 11 F rfl fun a F=>?_;refine xG ?_;exact⟨false,(zL d),F.su,(H.s [] rfl rfl)⟩
  rintro a w ⟨s4,rfl,F,H⟩
  have d:=xY be;refine xH (xP (oJ ?_));have H:=(t.1 H (Ns.all trivial)).um;refine xR F rfl (xX F rfl) ?_;obtain rfl:=oj d;exact⟨rfl,H.bl⟩
 replace d:=vX a9 d;refine xS (xH (xV (fJ isAgg26 sizeOf26 F rfl rfl (H.b 3 rfl) rfl rfl fun a F=>fJ isAgg29 sizeOf29 F rfl rfl (H.b 2 rfl) rfl rfl fun a F=>xA 1 F rfl fun a F=>?_)));obtain⟨ae,bf,d⟩:=xB d;refine oG F rfl call14 rfl (gQ ae bf _ aA (xJ.m f (H.a A)) (xK.m h (H.a C)) (H.l 0 rfl)) (fun a e w ⟨cb,S,d1,d2⟩ F=>?_);subst e;have H:=H.r0 S;refine xA 5 F rfl fun a F=>vE (xA 1 F rfl fun a F=>?_);obtain⟨bg,bh,d⟩:=xB d;refine oG F rfl call16 rfl (mY bg bh _ aA (hG.go (t.1 H (Ns.all ⟨n0,⟨n0,⟨n0,⟨n0,trivial⟩⟩⟩⟩)).um.bl).toGlo (H.l 0 rfl)) (fun a e w ⟨cc,S,bi⟩ F=>?_);subst e;have H:=H.r0 S;obtain⟨au,bj,d⟩:=xB d;refine oG F rfl call15 rfl (nD au bj _ aA (hG.go (t.1 H (Ns.all ⟨n0,⟨n0,⟨n0,⟨n0,trivial⟩⟩⟩⟩)).um.bl) bi) (fun a e w ⟨d3,cd,S,d4⟩ F=>?_);subst e;have H:=H.r1 S n0;refine xA 5 F rfl fun a F=>xG (xF ?_);obtain⟨o4,d,bm⟩:=xT d;refine oR (fun a w=>∃ (s5:Bool),o4= .nx s5∧Sk a 201 [(4,.bool s5)]∧Sep X1 a0 w1 w []) ?_ ?_
 ·
  refine oM (xA 3 F rfl fun a F=>?_)
  rcases vJ (i.2.2==6) with J | J
  ·
   replace d:=vY J d;have F:=F.eb 178 rfl J;refine xA 4 F rfl fun a F=>?_
   rcases vJ (y.2==0) with K | K
   ·
    replace d:=vY K d;have F:=F.eb 182 rfl K;refine xA 4 F rfl fun a F=>?_
    rcases vJ (ae.2==0) with M | M
    ·
     replace d:=vY M d;have F:=F.eb 186 rfl M;refine xA 2 F rfl fun a F=>oL underlying35 F rfl rfl (H.l 1 rfl) fun a d5 F=>xA 3 F rfl fun a F=>?_
     rcases vJ (ae.1==(Z.1.length:Int)) with O | O
     ·
      replace d:=vY O d;have F:=F.eb 192 rfl O;refine xA 4 F rfl fun a F=>?_
      rcases vJ (au.2==0) with P | P
      ·
       replace d:=vY P d;have F:=F.eb 196 rfl P;refine xA 2 F rfl fun a F=>?_;obtain⟨av,bn,d⟩:=xB d;refine oK F rfl call12 rfl H (lW av bn _ aA (H.l 0 rfl) (H.l 1 rfl)) fun a w H F=>xA 2 F rfl fun a F=>xG ?_;exact⟨av,(zL d),F.su,(H.s [] rfl rfl)⟩
      replace d:=vX P d;have F:=F.eb 196 rfl P;refine xA 5 F rfl fun a F=>xG ?_;exact⟨false,(zL d),F.su,(H.s [] rfl rfl)⟩
     replace d:=vX O d;have F:=F.eb 192 rfl O;refine xA 9 F rfl fun a F=>xG ?_;exact⟨false,(zL d),F.su,(H.s [] rfl rfl)⟩
    replace d:=vX M d;have F:=F.eb 186 rfl M;refine xA 11 F rfl fun a F=>?_;refine xA 4 F rfl fun a F=>xG ?_;exact⟨false,(zL d),F.su,(H.s [] rfl rfl)⟩
   replace d:=vX K d;have F:=F.eb 182 rfl K;refine xA 11 F rfl fun a F=>?_;refine xA 8 F rfl fun a F=>xG ?_;exact⟨false,(zL d),F.su,(H.s [] rfl rfl)⟩
  replace d:=vX J d;have F:=F.eb 178 rfl J;refine xA 11 F rfl fun a F=>?_;refine xA 11 F rfl fun a F=>?_;refine xA 1 F rfl fun a F=>xG ?_;exact⟨false,(zL d),F.su,(H.s [] rfl rfl)⟩
 rintro a w ⟨s5,rfl,F,H⟩
 have d:=xY bm;refine xH (xP ?_);have H:=(t.1 H (Ns.all trivial)).um;refine xR F rfl (xX F rfl) ?_;obtain rfl:=oj d;exact⟨rfl,H.bl⟩
end Go.Proofs.YtghihmkhdhjhiaaGreatDoor
