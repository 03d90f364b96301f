import Derived.Test.YtfmnjkpddljdcaaGreatDoorP2
import Derived.Test.YtfmnjkpddljdcaaGreatDoorPC
import Derived.Test.YtfmnjkpddljdcaaGreatDoorQ2
namespace Go.Proofs.YtfmnjkpddljdcaaGreatDoor
open Go.Proofs.Tryz
set_option maxHeartbeats 1000000
set_option linter.unusedVariables false
set_option linter.unusedSimpArgs false
set_option maxRecDepth 100000
open Go.RowKit
def laws_f6big (c:List UInt8):Option Bool:=
 some ((decide (4096<(c.length:Int))))
theorem laws_f6big_c {B:Nat→Prop} {f:List UInt8} (r:Bool) (h:laws_f6big f=some r) {e:Value} (d:World) (i:∀ c,B c→c<d.heap.size) (j:Bo B d (Sl 1 eQ) e f):Calls Tryz.prog 4 #[e] d (bK (.bool r) d):=by
 unfold laws_f6big at h
 refine xW (L:=[(0,e)]) func4 rfl rfl rfl (sc rfl sn) (fun a F=>?_);have H:=Sep.start i;refine xX (xA 1 F rfl fun a F=>zR (xA 1 F rfl fun a F=>oL mQ F rfl rfl j fun a n F=>xA 2 F rfl fun a F=>?_));refine xJ (xP (xR F rfl (xZ F rfl) ?_));obtain rfl:=oj h;exact⟨rfl,H.bl⟩
def laws_FnRefuted (N:Nat) (C D:List UInt8):Option Bool:=
 kY (σ:=Bool) (
  xY (laws_f6big C) fun R=>
  if R then  some (.nx true) else  xY (laws_f6big D) fun S=>
   some (.nx S)) fun T=>
 if T then
  some true
 else
  xY (nK N C) fun c=>
  xY (eE N (Template.mk c.1.size c.1.rels) (Instance.mk c.2.vars c.2.cons) 2000) fun e=>
  if (e.2 != 0) then
   some ((e.2==6))
  else
   xY (nI D (e.1.length:Int)) fun E=>
   xY (sl e.1 0 E) fun t=>
   xY (zO N (Template.mk c.1.size c.1.rels) (Instance.mk c.2.vars c.2.cons) t) fun F=>
   xY (bY N (Template.mk c.1.size c.1.rels) (Instance.mk c.2.vars c.2.cons) t) fun f=>
   xY (fT N (Template.mk c.1.size c.1.rels) (Instance.mk c.2.vars c.2.cons) t) fun i=>
   xY (lV e.1) fun y=>
   kY (σ:=Bool) (
    if (F.2 != 8) then  some (.nx true) else  if (F.1 != E) then  some (.nx true) else  if (f.2.2 != i.2.2) then  some (.nx true) else  if (f.2.2 != 0) then  some (.nx true) else  xY (iT f.1 i.1) fun G=>
        if (!G) then  some (.nx true) else  if (f.2.1 != i.2.1) then  some (.nx true) else  if (y.2 != 0) then  some (.nx true) else  if (decide (y.1<f.2.1)) then  some (.nx true) else  xY (fO (Template.mk c.1.size c.1.rels) (Instance.mk c.2.vars c.2.cons) i.1) fun H=>
            some (.nx (!H))) fun U=>
   if U then
    some false
   else
    xY (bY N (Template.mk c.1.size c.1.rels) (Instance.mk c.2.vars c.2.cons) e.1) fun I=>
    xY (ap ([]) e.1) fun J=>
    xY (ap J ([(Line.mk 3 0 0 0)])) fun K=>
    xY (zO N (Template.mk c.1.size c.1.rels) (Instance.mk c.2.vars c.2.cons) K) fun A=>
    kY (σ:=Bool) (
     if (I.2.2 != 4) then  some (.nx true) else  if (A.2 != 8) then  some (.nx true) else  some (.nx (A.1 != (e.1.length:Int)))) fun V=>
    if V then
     some false
    else
     xY (dE N (Template.mk c.1.size c.1.rels) (Instance.mk c.2.vars c.2.cons) e.1) fun B=>
     xY (dF N (Template.mk c.1.size c.1.rels) (Instance.mk c.2.vars c.2.cons) e.1) fun j=>
     xY (bB (Template.mk c.1.size c.1.rels) (Instance.mk c.2.vars c.2.cons) j.1) fun n=>
     xY (dL N (Template.mk c.1.size c.1.rels) (Instance.mk n.1.vars n.1.cons)) fun L=>
     kY (σ:=Bool) (
      if (B.2 != j.2) then  some (.nx true) else  xY (gC B.1 j.1) fun M=>
       if (!M) then  some (.nx true) else  if (n.2 != 0) then  some (.nx true) else  some (.nx (L.2 != 6))) fun W=>
     if W then
      some false
     else
      kY (σ:=Unit) (
       qW (σ:=Unit) (ρ:=Bool) (fun (Z:Nat) (h:Line) (s:Unit)=>
         match s with
         | _=>
         xY (eT h) fun O=>
         xY (iL O) fun d=>
         kY (σ:=Bool) (
          if (d.2 != 0) then  some (.nx true) else  if (!((Line.mk d.1.kind d.1.var d.1.value d.1.con).kind==h.kind && (Line.mk d.1.kind d.1.var d.1.value d.1.con).var==h.var && (Line.mk d.1.kind d.1.var d.1.value d.1.con).value==h.value && (Line.mk d.1.kind d.1.var d.1.value d.1.con).con==h.con)) then  some (.nx true) else  xY (fC (Line.mk d.1.kind d.1.var d.1.value d.1.con)) fun P=>
            some (.nx (!P))) fun X=>
         if X then
          some (.ret false)
         else
          some (.go ())) e.1 0 ()) fun _=>
      xY (bB (Template.mk c.1.size c.1.rels) (Instance.mk c.2.vars c.2.cons) ([])) fun p=>
      xY (zO N (Template.mk c.1.size c.1.rels) (Instance.mk p.1.vars p.1.cons) e.1) fun Q=>
      kY (σ:=Bool) (
       if (p.2==0) then  some (.nx (Q.2==8)) else  some (.nx false)) fun Y=>
      some Y
theorem laws_FnRefuted_c {B:Nat→Prop} {N:Nat} {x0 x1:List UInt8} (r:Bool) (d:laws_FnRefuted N x0 x1=some r) {v0:Value} {v1:Value} (I:World) (hN:∀ c,B c→c<I.heap.size) (hG:GloE I) (A0:Bo B I (Sl 1 eQ) v0 x0) (A1:Bo B I (Sl 1 eQ) v1 x1):Calls Tryz.prog 3 #[v0,v1] I (bK (.bool r) I):=by
 unfold laws_FnRefuted at d
 refine xW (L:=[(0,v0),(1,v1)]) func3 rfl rfl rfl (sc rfl (sc rfl sn)) (fun a F=>?_);have H:=Sep.start hN;refine xX (xA 1 F rfl fun a F=>xJ (xG (xG ?_)));obtain⟨o16,d,hk1⟩:=xV d;refine qG (fun a w=>∃ (s1:Bool),o16= .nx s1∧Sk a 270 [(0,v0),(1,v1),(46,.bool s1)]∧Sep [] B I w []) ?_ ?_
 ·
  refine oO (xA 1 F rfl fun a F=>?_);obtain⟨z1,c1,d⟩:=xB d;refine oK F rfl call4 rfl H (laws_f6big_c z1 c1 _ aA (H.a A0)) fun a w H F=>xA 1 F rfl fun a F=>?_
  rcases zC z1 with a7 | a7
  ·
   replace d:=zW a7 d;have F:=F.eb 43 rfl a7;refine xA 3 F rfl fun a F=>xJ ?_;exact⟨true,(kQ d),F.su,H⟩
  replace d:=zV a7 d;have F:=F.eb 43 rfl a7;refine xA 1 F rfl fun a F=>?_;obtain⟨z2,c2,d⟩:=xB d;refine oK F rfl call4 rfl H (laws_f6big_c z2 c2 _ aA (H.a A1)) fun a w H F=>xA 1 F rfl fun a F=>xJ ?_;exact⟨z2,(kQ d),F.su,H⟩
 rintro a w ⟨s1,rfl,F,H⟩
 have d:=oJ hk1;refine xH (vK F rfl (fun am=>?_) (fun am=>?_))
 ·
  replace d:=zW am d;refine xX (xA 1 F rfl fun a F=>xJ (xP (qH (xR F rfl (xZ F rfl) ?_))));obtain rfl:=oj d;exact⟨rfl,H.bl⟩
 replace d:=zV am d;refine xT (xH (xX (xA 1 F rfl fun a F=>?_)));obtain⟨z3,c3,d⟩:=xB d;refine oG F rfl call5 rfl (xFg z3 c3 _ H.hN (H.u A0)) (fun a e w ⟨v2,v32,e9,S,n,t⟩ F=>?_);subst e;have H:=H.rk S ⟨n0,⟨n1,trivial⟩⟩ rfl;refine xA 3 F rfl fun a F=>oA aG F rfl rfl H fun a w T H F=>oA kH F rfl rfl H fun a w U H F=>gN (vs:=[xF z3.1.size,v2]) oH F rfl rfl rfl (H.s [1,0,2,3] rfl rfl) (oc rfl (oc ((H.s [1,0,2,3] rfl rfl).l 2 rfl).one on)) rfl rfl fun w H=>gN (vs:=[xF z3.2.vars,v32]) oZ F rfl rfl rfl (H.s [1,0,2,3] rfl rfl) (oc rfl (oc ((H.s [1,0,2,3] rfl rfl).r 3 rfl).one on)) rfl rfl fun w H=>zR ?_;refine lT qU oH F rfl rfl (H.b 1 rfl) rfl rfl fun a F=>lT vO oZ F rfl rfl (H.b 0 rfl) rfl rfl (fun a F=>?_);obtain⟨V,c4,d⟩:=xB d;refine oG F rfl call6 rfl (tK V c4 _ aA (xL.m n (H.l 2 rfl)) (xO.m t (H.r 3 rfl)) (show xS (2000) by decide)) (fun a e w ⟨W,ea,S,i3⟩ F=>?_);subst e;have H:=H.r1 S n0;refine xA 5 F rfl fun a F=>xJ (xG (xX (xA 1 F rfl fun a F=>?_)));refine xA 1 F rfl fun a F=>xJ (vK F rfl (fun an=>?_) (fun an=>?_))
 ·
  replace d:=zW an d;refine xX (xA 3 F rfl fun a F=>xJ (xP (qH (xR F rfl (xZ F rfl) ?_))));obtain rfl:=oj d;exact⟨rfl,H.bl⟩
 replace d:=zV an d;refine xT (xH (xX (xA 2 F rfl fun a F=>oL qD F rfl rfl (H.l 0 rfl) (fun a i4 F=>?_))));obtain⟨z5,c5,d⟩:=xB d;refine oKI F rfl call7 rfl H (xFb z5 c5 _ aA (H.a A1) i4) fun a w H ec F=>xA 1 F rfl fun a F=>xJ (xG ?_);obtain⟨z6,c6,d⟩:=xB d;obtain⟨z7,c7,d⟩:=xB d;obtain⟨w1,rfl⟩:∃ x,x=w:=⟨_,rfl⟩;have ed:=H.sm;obtain⟨X1,N1,g1,e1,H,G,ee⟩:=H.mg.mg.fza;have j:=g1.l.l.ld;have K1:=g1.l.r.bk;have p:=g1.r.bk;refine lU H fun w H=>qJ 0 rfl (vBA qU oH F rfl rfl (p.v H.sm) rfl rfl fun a F=>qJ 1 rfl (vBA vO oZ F rfl rfl (K1.v H.sm) rfl rfl fun a F=>qV 2 rfl (qO F rfl rfl fun a F=>qV 3 rfl (qO F rfl rfl fun a F=>qJ 4 rfl (vC qD vD F rfl rfl rfl rfl j c6 (fun a v4 h1 F=>?_))))));refine kT H 5 rfl (oG F rfl call8 rfl (eL z7 c7 _ aA (xL.m n (H.l 0 rfl)) (xO.m t (H.r 1 rfl)) (H.a h1)) (fun a e w ⟨ef,S,i5,i6⟩ F=>?_));subst e;have H:=H.r0 S;refine xJ ⟨⟨_,H⟩,?_⟩;refine qV 6 rfl (qO F rfl rfl fun a F=>qV 7 rfl (qT F rfl (fun w l=>iI F rfl rfl) fun a F=>qV 8 rfl (qT F rfl (fun w l=>iI F rfl rfl) fun a F=>qV 9 rfl (kA F rfl rfl fun a F=>qV 10 rfl (kA F rfl rfl fun a F=>zN ?_)))));refine xH (xG ?_);obtain⟨z8,c8,d⟩:=xB d;refine lU H fun w H=>qJ 0 rfl (vBA qU oH F rfl rfl (p.v H.sm) rfl rfl fun a F=>qJ 1 rfl (vBA vO oZ F rfl rfl (K1.v H.sm) rfl rfl fun a F=>qV 2 rfl (qO F rfl rfl fun a F=>qV 3 rfl (qO F rfl rfl fun a F=>qJ 4 rfl (vC qD vD F rfl rfl rfl rfl j c6 (fun a v5 h2 F=>?_))))));refine kT H 5 rfl (oG F rfl call9 rfl (nV z8 c8 _ aA (xL.m n (H.l 0 rfl)) (xO.m t (H.r 1 rfl)) (H.a h2)) (fun a e w ⟨v6,eg,S,i7,i8⟩ F=>?_));subst e;have H:=H.r1 S n0;refine xJ ⟨⟨_,H⟩,?_⟩;refine qV 6 rfl (qO F rfl rfl fun a F=>qV 7 rfl (qT F rfl (fun w l=>iI F rfl rfl) fun a F=>qV 8 rfl (qT F rfl (fun w l=>iI F rfl rfl) fun a F=>qV 9 rfl (qT F rfl (fun w l=>iI F rfl rfl) fun a F=>qV 10 rfl (kA F rfl rfl fun a F=>qV 11 rfl ?_)))));refine kA F rfl rfl fun a F=>qV 12 rfl (kA F rfl rfl fun a F=>zN (xH (xG ?_)));obtain⟨J,rfl⟩:∃ x,x=w:=⟨_,rfl⟩;have b7:=H.sm;obtain⟨K,O,g2,f,H,D,eh⟩:=(H.s [1,2,0] rfl rfl).mg.fza;have C:=g2.l.ld;have E:=g2.r.rd;obtain⟨z9,c9,d⟩:=xB d;refine lU H fun w H=>qJ 0 rfl (vBA qU oH F rfl rfl ((p.lf f).v H.sm) rfl rfl fun a F=>qJ 1 rfl (vBA vO oZ F rfl rfl ((K1.lf f).v H.sm) rfl rfl fun a F=>qV 2 rfl (qO F rfl rfl fun a F=>qV 3 rfl (qO F rfl rfl fun a F=>qJ 4 rfl (vC qD vD F rfl rfl rfl rfl j c6 (fun a v7 h5 F=>?_))))));refine kT H 5 rfl (oG F rfl call10 rfl (uU z9 c9 _ H.hN (xL.m n (H.u C)) (xO.m t (H.u E)) (H.u (f h5))) (fun a e w ⟨v8,ei,S,i9,ej⟩ F=>?_));subst e;have H:=H.r1 S n1;refine xJ ⟨⟨_,H⟩,?_⟩;refine qV 6 rfl (qO F rfl rfl fun a F=>qV 7 rfl (qT F rfl (fun w l=>iI F rfl rfl) fun a F=>qV 8 rfl (qT F rfl (fun w l=>iI F rfl rfl) fun a F=>qV 9 rfl (qT F rfl (fun w l=>iI F rfl rfl) fun a F=>qV 10 rfl (kA F rfl rfl fun a F=>qV 11 rfl ?_)))));refine kA F rfl rfl fun a F=>qV 12 rfl (kA F rfl rfl fun a F=>zN (xH (xX (xA 1 F rfl fun a F=>?_))));obtain⟨ao,ca,d⟩:=xB d;refine oG F rfl call11 rfl (xEm ao ca _ aA (H.a (f j))) (fun a e w ⟨ek,S,el,em⟩ F=>?_)
 subst e;have H:=H.r0 S;refine xA 5 F rfl fun a F=>xJ (xG (xG ?_));obtain⟨o1,d,cb⟩:=xV d;refine qG (fun a w=>∃ (s2:Bool),o1= .nx s2∧Sk a 270 [(5,vA T),(6,vA U),(7,W),(142,.bool s2)]∧Sep K O J w []) ?_ ?_
 ·
  refine oO (xA 3 F rfl fun a F=>?_)
  rcases zC (z7.2 != 8) with a8 | a8
  ·
   replace d:=zW a8 d;have F:=F.eb 102 rfl a8;refine xA 11 F rfl fun a F=>?_;refine xA 11 F rfl fun a F=>?_;refine xA 11 F rfl fun a F=>?_;refine xA 7 F rfl fun a F=>xJ ?_;exact⟨true,(kQ d),F.su,(H.s [] rfl rfl)⟩
  replace d:=zV a8 d;have F:=F.eb 102 rfl a8;refine xA 5 F rfl fun a F=>?_
  rcases zC (z7.1 != z5) with a9 | a9
  ·
   replace d:=zW a9 d;have F:=F.eb 107 rfl a9;refine xA 11 F rfl fun a F=>?_;refine xA 11 F rfl fun a F=>?_;refine xA 11 F rfl fun a F=>?_;refine xA 2 F rfl fun a F=>xJ ?_;exact⟨true,(kQ d),F.su,(H.s [] rfl rfl)⟩
  replace d:=zV a9 d;have F:=F.eb 107 rfl a9;refine xA 5 F rfl fun a F=>?_
  rcases zC (z8.2.2 != z9.2.2) with aa | aa
  ·
   replace d:=zW aa d;have F:=F.eb 112 rfl aa;refine xA 11 F rfl fun a F=>?_;refine xA 11 F rfl fun a F=>?_;refine xA 8 F rfl fun a F=>xJ ?_;exact⟨true,(kQ d),F.su,(H.s [] rfl rfl)⟩
  replace d:=zV aa d;have F:=F.eb 112 rfl aa;refine xA 4 F rfl fun a F=>?_
  rcases zC (z8.2.2 != 0) with ab | ab
  ·
   replace d:=zW ab d;have F:=F.eb 116 rfl ab;refine xA 11 F rfl fun a F=>?_;refine xA 11 F rfl fun a F=>?_;refine xA 4 F rfl fun a F=>xJ ?_;exact⟨true,(kQ d),F.su,(H.s [] rfl rfl)⟩
  replace d:=zV ab d;have F:=F.eb 116 rfl ab;refine xA 2 F rfl fun a F=>?_;obtain⟨b8,cc,d⟩:=xB d;refine oK F rfl call12 rfl H (xAj b8 cc _ aA (H.l 1 rfl) (H.ro 0 rfl)) fun a w H F=>xA 3 F rfl fun a F=>?_
  rcases zC (!b8) with ac | ac
  ·
   replace d:=zW ac d;have F:=F.eb 122 rfl ac;refine xA 11 F rfl fun a F=>?_;refine xA 9 F rfl fun a F=>xJ ?_;exact⟨true,(kQ d),F.su,(H.s [] rfl rfl)⟩
  replace d:=zV ac d;have F:=F.eb 122 rfl ac;refine xA 5 F rfl fun a F=>?_
  rcases zC (z8.2.1 != z9.2.1) with ad | ad
  ·
   replace d:=zW ad d;have F:=F.eb 127 rfl ad;refine xA 11 F rfl fun a F=>?_;refine xA 4 F rfl fun a F=>xJ ?_;exact⟨true,(kQ d),F.su,(H.s [] rfl rfl)⟩
  replace d:=zV ad d;have F:=F.eb 127 rfl ad;refine xA 4 F rfl fun a F=>?_
  rcases zC (ao.2 != 0) with X | X
  ·
   replace d:=zW X d;have F:=F.eb 131 rfl X;refine xA 11 F rfl fun a F=>?_;refine xJ ?_;exact⟨true,(kQ d),F.su,(H.s [] rfl rfl)⟩
  replace d:=zV X d;have F:=F.eb 131 rfl X;refine xA 5 F rfl fun a F=>?_
  rcases zC (decide (ao.1<z8.2.1)) with Y | Y
  ·
   replace d:=zW Y d;have F:=F.eb 136 rfl Y;refine xA 6 F rfl fun a F=>xJ ?_;exact⟨true,(kQ d),F.su,(H.s [] rfl rfl)⟩
  replace d:=zV Y d;have F:=F.eb 136 rfl Y;refine lT qU oH F rfl rfl ((p.lf f).o H.sm) rfl rfl fun a F=>lT vO oZ F rfl rfl ((K1.lf f).o H.sm) rfl rfl fun a F=>xA 1 F rfl fun a F=>?_;obtain⟨b9,cd,d⟩:=xB d;refine oK F rfl call13 rfl H (wB b9 cd _ aA (xL.m n (H.a C)) (xO.m t (H.a E)) (H.ro 0 rfl)) fun a w H F=>xA 2 F rfl fun a F=>xJ ?_;exact⟨(!b9),(kQ d),F.su,(H.s [] rfl rfl)⟩
 rintro a w ⟨s2,rfl,F,H⟩
 have d:=oJ cb;refine xH (vK F rfl (fun ai=>?_) (fun ai=>?_))
 ·
  replace d:=zW ai d;refine xX (xA 1 F rfl fun a F=>xJ (xP (qH ?_)));have H:=(G.1 (D.1 H (Ns.all trivial)).um (Ns.all ⟨n0,⟨n1,trivial⟩⟩)).um.um;refine xR F rfl (xZ F rfl) ?_;obtain rfl:=oj d;exact⟨rfl,H.bl⟩
 replace d:=zV ai d;refine xT (xH (xX (lT qU oH F rfl rfl ((p.lf f).o H.sm) rfl rfl fun a F=>lT vO oZ F rfl rfl ((K1.lf f).o H.sm) rfl rfl fun a F=>xA 1 F rfl fun a F=>?_)));obtain⟨ba,ce,d⟩:=xB d;refine oG F rfl call9 rfl (nV ba ce _ aA (xL.m n (H.a C)) (xO.m t (H.a E)) (H.a (f j))) (fun a e w ⟨v9,en,S,eo,ep⟩ F=>?_);subst e;have H:=H.r1 S n0;refine xA 7 F rfl fun a F=>zR ?_;refine oR0 (R:=qS) qD vD F rfl H fun a w er H F=>xA 1 F rfl fun a F=>?_;obtain⟨es,cf,d⟩:=xB d;refine oPf (sz:=4) (R:=qS) (z:=(.agg #[xF 0,xF 0,xF 0,xF 0])) (bytes:=32) qD (by kernel_rfl) rfl rfl F rfl rfl rfl H.lw (H.lw.a (f j)) cf (fun a w et H F=>?_);have H:=H.tl;refine aX fB kC (fun w=>by simp [xI];rfl) F rfl rfl rfl rfl rfl (oc rfl on) rfl rfl fun a F=>iN (R:=qS) (y:=(Line.mk 3 0 0 0)) qD vD kC rfl rfl F rfl rfl H (Eo.agg (qS.m (show xS (3) by decide) (show xS 0 by decide) (show xS 0 by decide) (show xS 0 by decide))) (fun a w eu H F=>?_);obtain⟨ew,cg,d⟩:=xB d;refine oPL (sz:=4) (R:=qS) (z:=(.agg #[xF 0,xF 0,xF 0,xF 0])) (bytes:=32) qD (by kernel_rfl) rfl rfl F rfl rfl rfl (H.s [1,0,2] rfl rfl) cg fun a w ex H F=>xA 1 F rfl fun a F=>zR (lT qU oH F rfl rfl ((p.lf f).o H.sm) rfl rfl fun a F=>lT vO oZ F rfl rfl ((K1.lf f).o H.sm) rfl rfl fun a F=>xA 1 F rfl fun a F=>?_);obtain⟨aq,ch,d⟩:=xB d;refine oG F rfl call8 rfl (eL aq ch _ aA (xL.m n (H.a C)) (xO.m t (H.a E)) (H.l 0 rfl)) (fun a e w ⟨ey,S,ez,f4⟩ F=>?_);subst e;have H:=H.r0 S;refine xA 5 F rfl fun a F=>xJ (xG (xG ?_));obtain⟨o2,d,ci⟩:=xV d;refine qG (fun a w=>∃ (s3:Bool),o2= .nx s3∧Sk a 270 [(5,vA T),(6,vA U),(7,W),(175,.bool s3)]∧Sep K O J w []) ?_ ?_
 ·
  refine oO (xA 3 F rfl fun a F=>?_)
  rcases zC (ba.2.2 != 4) with Z | Z
  ·
   replace d:=zW Z d;have F:=F.eb 166 rfl Z;refine xA 9 F rfl fun a F=>xJ ?_;exact⟨true,(kQ d),F.su,(H.s [] rfl rfl)⟩
  replace d:=zV Z d;have F:=F.eb 166 rfl Z;refine xA 4 F rfl fun a F=>?_
  rcases zC (aq.2 != 8) with a0 | a0
  ·
   replace d:=zW a0 d;have F:=F.eb 170 rfl a0;refine xA 5 F rfl fun a F=>xJ ?_;exact⟨true,(kQ d),F.su,(H.s [] rfl rfl)⟩
  replace d:=zV a0 d;have F:=F.eb 170 rfl a0;refine xA 2 F rfl fun a F=>oL qD F rfl rfl j fun a f5 F=>xA 2 F rfl fun a F=>xJ ?_;exact⟨(aq.1 != (V.1.length:Int)),(kQ d),F.su,(H.s [] rfl rfl)⟩
 rintro a w ⟨s3,rfl,F,H⟩
 have d:=oJ ci;refine xH (vK F rfl (fun aj=>?_) (fun aj=>?_))
 ·
  replace d:=zW aj d;refine xX (xA 1 F rfl fun a F=>xJ (xP (qH ?_)));have H:=(G.1 (D.1 H (Ns.all trivial)).um (Ns.all ⟨n0,⟨n1,trivial⟩⟩)).um.um;refine xR F rfl (xZ F rfl) ?_;obtain rfl:=oj d;exact⟨rfl,H.bl⟩
 replace d:=zV aj d;refine xT (xH (xX (lT qU oH F rfl rfl ((p.lf f).o H.sm) rfl rfl fun a F=>lT vO oZ F rfl rfl ((K1.lf f).o H.sm) rfl rfl fun a F=>xA 1 F rfl fun a F=>?_)));obtain⟨bb,cj,d⟩:=xB d;refine oG F rfl call14 rfl (sE bb cj _ aA (xL.m n (H.a C)) (xO.m t (H.a E)) (H.a (f j))) (fun a e w ⟨f6,f7,S,f8⟩ F=>?_);subst e;have H:=H.r1 S n0;refine xA 5 F rfl fun a F=>zR (lT qU oH F rfl rfl ((p.lf f).o H.sm) rfl rfl fun a F=>lT vO oZ F rfl rfl ((K1.lf f).o H.sm) rfl rfl (fun a F=>?_));refine xA 1 F rfl fun a F=>?_;obtain⟨bc,cl,d⟩:=xB d;refine oG F rfl call15 rfl (rU bc cl _ aA (xL.m n (H.a C)) (xO.m t (H.a E)) (H.a (f j))) (fun a e w ⟨f9,e2,S,fa⟩ F=>?_);subst e;have H:=H.r1 S n0;refine xA 5 F rfl fun a F=>zR (lT qU oH F rfl rfl ((p.lf f).o H.sm) rfl rfl fun a F=>lT vO oZ F rfl rfl ((K1.lf f).o H.sm) rfl rfl (fun a F=>?_));refine xA 1 F rfl fun a F=>?_;obtain⟨ar,cm,d⟩:=xB d;refine oG F rfl call16 rfl (lQ ar cm _ aA (xL.m n (H.a C)) (xO.m t (H.a E)) (H.l 0 rfl)) (fun a e w ⟨cn,e3,S,co,fb⟩ F=>?_);subst e;have H:=H.r1 S n0;refine xA 3 F rfl fun a F=>oA kH F rfl rfl H fun a w b3 H F=>gN (vs:=[xF ar.1.vars,cn]) oZ F rfl rfl rfl H (oc rfl (oc (H.l 1 rfl).one on)) rfl rfl fun w H=>xA 1 F rfl fun a F=>zR (lT qU oH F rfl rfl ((p.lf f).o H.sm) rfl rfl (fun a F=>?_));refine lT vO oZ F rfl rfl (H.b 0 rfl) rfl rfl (fun a F=>?_);obtain⟨be,cp,d⟩:=xB d;refine oG F rfl call17 rfl (uF be cp _ aA (xL.m n (H.a C)) (xO.m co (H.l 1 rfl))) (fun a e w ⟨fc,e4,S,fd⟩ F=>?_);subst e;have H:=H.r1 S n0;refine xA 5 F rfl fun a F=>xJ (xG (xG ?_));obtain⟨o3,d,cq⟩:=xV d;refine qG (fun a w=>∃ (s4:Bool),o3= .nx s4∧Sk a 270 [(5,vA T),(6,vA U),(7,W),(219,.bool s4)]∧Sep K O J w []) ?_ ?_
 ·
  refine oO (xA 4 F rfl fun a F=>?_)
  rcases zC (bb.2 != bc.2) with a1 | a1
  ·
   replace d:=zW a1 d;have F:=F.eb 206 rfl a1;refine xA 11 F rfl fun a F=>?_;refine xA 2 F rfl fun a F=>xJ ?_;exact⟨true,(kQ d),F.su,(H.s [] rfl rfl)⟩
  replace d:=zV a1 d;have F:=F.eb 206 rfl a1;refine xA 2 F rfl fun a F=>?_;obtain⟨bf,cr,d⟩:=xB d;refine oK F rfl call18 rfl H (wP bf cr _ aA (H.l 4 rfl) (H.l 3 rfl)) fun a w H F=>xA 3 F rfl fun a F=>?_
  rcases zC (!bf) with a2 | a2
  ·
   replace d:=zW a2 d;have F:=F.eb 212 rfl a2;refine xA 7 F rfl fun a F=>xJ ?_;exact⟨true,(kQ d),F.su,(H.s [] rfl rfl)⟩
  replace d:=zV a2 d;have F:=F.eb 212 rfl a2;refine xA 4 F rfl fun a F=>?_
  rcases zC (ar.2 != 0) with a3 | a3
  ·
   replace d:=zW a3 d;have F:=F.eb 216 rfl a3;refine xA 3 F rfl fun a F=>xJ ?_;exact⟨true,(kQ d),F.su,(H.s [] rfl rfl)⟩
  replace d:=zV a3 d;have F:=F.eb 216 rfl a3;refine xA 3 F rfl fun a F=>xJ ?_;exact⟨(be.2 != 6),(kQ d),F.su,(H.s [] rfl rfl)⟩
 rintro a w ⟨s4,rfl,F,H⟩
 have d:=oJ cq;refine xH (vK F rfl (fun ak=>?_) (fun ak=>?_))
 ·
  replace d:=zW ak d;refine xX (xA 1 F rfl fun a F=>xJ (xP (qH ?_)));have H:=(G.1 (D.1 H (Ns.all trivial)).um (Ns.all ⟨n0,⟨n1,trivial⟩⟩)).um.um;refine xR F rfl (xZ F rfl) ?_;obtain rfl:=oj d;exact⟨rfl,H.bl⟩
 replace d:=zV ak d;refine xT (xH (xG (xX (xA 1 F rfl fun a F=>xJ ?_))));obtain⟨o4,d,bg⟩:=xV d;refine qG (fun a w=>o4= .nx ()∧Sk a 270 [(5,vA T),(6,vA U),(7,W)]∧Sep K O J w []) ?_ ?_
 ·
  refine qM ?_;obtain⟨cs,ct,d⟩:=vY d;refine vT (fun g a w=>∃ (P:Nat) (Q:List Line),(P≤V.1.length∧V.1.drop P=Q)∧Q.length=g∧qW cs Q P ()=some o4∧Sk a 270 [(34,xF (P:Int)),(5,vA T),(6,vA U),(7,W)]∧Sep K O J w []) V.1.length ?_ ?_
  ·
   exact⟨0,V.1,⟨Nat.zero_le _,rfl⟩,rfl,d,F.su,H⟩
  intro g3 a w ⟨P,Q,A,cu,d,F,H⟩
  cases Q with
  | nil=>
   replace d:=vX d;have q1:=vZ A.1 A.2;have l1:=kW q1;refine xG (xX (xA 2 F rfl fun a F=>oL qD F rfl rfl j fun a fe F=>xA 1 F rfl fun a F=>xJ (aC F rfl l1 (vU ?_))));refine vV (vV (bC (xH ?_)));exact⟨(kQ d),F.su,H⟩
  | cons x2 Q=>
   subst cu;replace A:=qY A.2;have y1:=zI A.2.1;obtain⟨ff,d,bh⟩:=vE d;rw[ct] at d;have l1:=zT A.1;refine xG (xX (xA 2 F rfl fun a F=>oL qD F rfl rfl j fun a bi F=>xA 1 F rfl fun a F=>xJ (aD F rfl l1 (xT ?_))));refine xH (xG ?_);have j1:=k64 (Nat.le_of_lt A.1) bi;have m1:=bG A.1 bi;refine qM (xX (xA 2 F rfl fun a F=>oI qD vD F rfl rfl rfl j y1 fun a p1 h6 F=>olA dI vD F rfl rfl (b7.trans (Sm.mono H.sm D.2.2)) h6 (fun a fg h7 F=>?_)));obtain⟨cx,cy,d⟩:=xB d;refine oG F rfl call20 rfl (tE cx cy _ aA (hG.go (G.1 (D.1 H (Ns.all trivial)).um (Ns.all ⟨n0,⟨n1,trivial⟩⟩)).um.um.bl).toGlo (H.a (f h7))) (fun a e w ⟨e5,S,cz⟩ F=>?_);subst e;have H:=H.r0 S;obtain⟨i,d0,d⟩:=xB d;refine oG F rfl call19 rfl (xCf i d0 _ aA (hG.go (G.1 (D.1 H (Ns.all trivial)).um (Ns.all ⟨n0,⟨n1,trivial⟩⟩)).um.um.bl) cz) (fun a e w ⟨e6,S,bj,bm,bn,bp,fh⟩ F=>?_);subst e;have H:=H.r0 S;refine xA 3 F rfl fun a F=>oA kC F rfl rfl H fun a w b4 H F=>gN (vs:=[xF i.1.kind,xF i.1.var,xF i.1.value,xF i.1.con]) vD F rfl rfl rfl H (oc rfl (oc rfl (oc rfl (oc rfl on)))) rfl rfl fun w H=>xA 1 F rfl fun a F=>xJ (xG ?_);obtain⟨o5,d,d1⟩:=xV d;refine qG (fun a w=>∃ (s5:Bool),o5= .nx s5∧Sk a 270 [(5,vA T),(6,vA U),(7,W),(34,xF (P:Int)),(249,.bool s5)]∧Sep K O J w []) ?_ ?_
   ·
    refine xQa H (oM F rfl rfl fun a F=>zH F rfl (fun w l=>uN F rfl rfl) fun a F=>oM F rfl rfl (fun a F=>?_))
    rcases zC (i.2 != 0) with a4 | a4
    ·
     replace d:=zW a4 d;have F:=F.eb 237 rfl a4;refine oV F rfl rfl fun a F=>oV F rfl rfl fun a F=>oV F rfl rfl fun a F=>oV F rfl rfl fun a F=>oV F rfl rfl fun a F=>oV F rfl rfl fun a F=>bH F rfl rfl rfl fun a F=>oM F rfl rfl fun a F=>oV F rfl rfl fun a F=>oV F rfl rfl fun a F=>oV F rfl rfl (fun a F=>?_);refine bH F rfl rfl rfl fun a F=>aF fun w H=>xH ?_;exact⟨true,(kQ d),F.su,(H.s [] rfl rfl)⟩
    replace d:=zV a4 d;have F:=F.eb 237 rfl a4;refine qBA dI vD F rfl rfl (H.qb 0 rfl) rfl rfl fun a F=>oM F rfl rfl fun a F=>oM F rfl rfl fun a F=>qI qD vD F rfl rfl rfl j y1 fun a p2 h8 F=>qlA dI vD F rfl rfl (fun w l=>(b7.trans (Sm.mono (H.q w l) D.2.2))) h8 fun a fi h9 F=>zH F rfl (fun w l=>xPm (wa:=w) (M:=N0) F rfl rfl (qS.m bj bm bn bp) h9) fun a F=>cG F rfl rfl rfl fun a F=>oM F rfl rfl (fun a F=>?_)
    rcases zC (!((Line.mk i.1.kind i.1.var i.1.value i.1.con).kind==x2.kind && (Line.mk i.1.kind i.1.var i.1.value i.1.con).var==x2.var && (Line.mk i.1.kind i.1.var i.1.value i.1.con).value==x2.value && (Line.mk i.1.kind i.1.var i.1.value i.1.con).con==x2.con)) with a5 | a5
    ·
     replace d:=zW a5 d;have F:=F.eb 245 rfl a5;refine oV F rfl rfl fun a F=>oV F rfl rfl fun a F=>oV F rfl rfl fun a F=>bH F rfl rfl rfl fun a F=>aF fun w H=>xH ?_;exact⟨true,(kQ d),F.su,(H.s [] rfl rfl)⟩
    replace d:=zV a5 d;have F:=F.eb 245 rfl a5;refine qBA dI vD F rfl rfl (H.qb 0 rfl) rfl rfl (fun a F=>?_);obtain⟨bq,d2,d⟩:=xB d;refine dQ F rfl call21 rfl (fun w w' h l=>l.through h) (fun w l=>rX bq d2 w aA (qS.m bj bm bn bp)) fun a F=>gU F rfl rfl fun a F=>cG F rfl rfl rfl fun a F=>aF fun w H=>xH ?_;exact⟨(!bq),(kQ d),F.su,(H.s [] rfl rfl)⟩
   rintro a w ⟨s5,rfl,F,H⟩
   have d:=oJ d1;refine xH (vK F rfl (fun al=>?_) (fun al=>?_))
   ·
    replace d:=zW al d;refine xX (xA 1 F rfl fun a F=>xJ (xP (zZ (qH (qH ?_)))));replace d:=bQ d bh;refine zZ (qH ?_);replace d:=bR d bg;refine qH ?_;have H:=(G.1 (D.1 H (Ns.all trivial)).um (Ns.all ⟨n0,⟨n1,trivial⟩⟩)).um.um;refine xR F rfl (xZ F rfl) ?_;obtain rfl:=oj d;exact⟨rfl,H.bl⟩
   replace d:=zV al d;refine xT (zG (xH (oO (xA 1 F rfl fun a F=>kO F rfl rfl rfl m1 fun a F=>xA 1 F rfl fun a F=>xJ ?_))));replace d:=aB d bh;exact⟨_,Nat.lt_succ_self _,P+1,Q,⟨A.1,A.2.2⟩,rfl,d,F.su,H⟩
 rintro a w ⟨rfl,F,H⟩
 have d:=oJ bg;refine xH (xX (lT qU oH F rfl rfl ((p.lf f).o H.sm) rfl rfl fun a F=>lT vO oZ F rfl rfl ((K1.lf f).o H.sm) rfl rfl fun a F=>oR0 (R:=xM) xC xI F rfl H (fun a w fj H F=>?_)));obtain⟨au,d3,d⟩:=xB d;refine oG F rfl call16 rfl (lQ au d3 _ aA (xL.m n (H.a C)) (xO.m t (H.a E)) (H.l 0 rfl)) (fun a e w ⟨d4,e7,S,d5,fk⟩ F=>?_);subst e;have H:=H.r1 S n0;refine xA 3 F rfl fun a F=>oA kH F rfl rfl H fun a w b5 H F=>gN (vs:=[xF au.1.vars,d4]) oZ F rfl rfl rfl H (oc rfl (oc (H.l 1 rfl).one on)) rfl rfl fun w H=>xA 1 F rfl fun a F=>zR (lT qU oH F rfl rfl ((p.lf f).o H.sm) rfl rfl (fun a F=>?_));refine lT vO oZ F rfl rfl (H.b 0 rfl) rfl rfl fun a F=>xA 1 F rfl fun a F=>?_;obtain⟨br,d6,d⟩:=xB d;refine oG F rfl call8 rfl (eL br d6 _ aA (xL.m n (H.a C)) (xO.m d5 (H.l 1 rfl)) (H.a (f j))) (fun a e w ⟨e8,S,fl,fm⟩ F=>?_);subst e;have H:=H.r0 S;refine xA 5 F rfl fun a F=>xJ (xG ?_);obtain⟨o6,d,d7⟩:=xV d;refine qG (fun a w=>∃ (s6:Bool),o6= .nx s6∧Sk a 270 [(4,.bool s6)]∧Sep K O J w []) ?_ ?_
 ·
  refine oO (xA 3 F rfl fun a F=>?_)
  rcases zC (au.2==0) with a6 | a6
  ·
   replace d:=zW a6 d;have F:=F.eb 266 rfl a6;refine xA 4 F rfl fun a F=>xJ ?_;exact⟨(br.2==8),(kQ d),F.su,(H.s [] rfl rfl)⟩
  replace d:=zV a6 d;have F:=F.eb 266 rfl a6;refine xA 4 F rfl fun a F=>xJ ?_;exact⟨false,(kQ d),F.su,(H.s [] rfl rfl)⟩
 rintro a w ⟨s6,rfl,F,H⟩
 have d:=oJ d7;refine xH (xP ?_);have H:=(G.1 (D.1 H (Ns.all trivial)).um (Ns.all ⟨n0,⟨n1,trivial⟩⟩)).um.um;refine xR F rfl (xZ F rfl) ?_;obtain rfl:=oj d;exact⟨rfl,H.bl⟩
end Go.Proofs.YtfmnjkpddljdcaaGreatDoor
