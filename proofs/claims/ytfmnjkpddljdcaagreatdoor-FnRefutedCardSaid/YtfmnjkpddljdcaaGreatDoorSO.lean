import Derived.Test.YtfmnjkpddljdcaaGreatDoorSV
import Derived.Test.YtfmnjkpddljdcaaGreatDoorRR
namespace Go.Proofs.YtfmnjkpddljdcaaGreatDoor
set_option linter.unusedVariables false
set_option linter.unusedSimpArgs false
set_option maxRecDepth 100000
open Go.RowKit
def iA (d:Template) (c:Int) (e:List Atom):Option solver:=
 xY (mkz ([]:List Atom) c) fun z=>
 kY (σ:=List (List Atom)) (
  qW (σ:=List (List Atom)) (ρ:=solver) (fun (k:Nat) (a:Atom) (s:List (List Atom))=>
   xY (aZ a.args) fun m=>
   xY (ix s m) fun y=>
   xY (ap y [a]) fun u=>
   some (.go (s.set m.toNat u))) e 0 z) fun s=>
 some (solver.mk d c s)
set_option maxHeartbeats 1000000 in
theorem xBv {B:Nat→Prop} {f:Template} {e:Int} {G:List Atom} (r:solver) (d:iA f e G=some r) {O K:Value} (t:World) (hN:∀ c,B c→c<t.heap.size) (A0:Bo B t (aY 2 xL) O f) (a2:xS e) (P:Bo B t (Sl 2 kU) K G) :
    Calls Tryz.prog 78 #[O,xF e,K] t (Gv (fun v w'=>∃ (N:Value),v=N∧Sep [] B t w' [ro B (V:=Pt 4 aU) N r])):=by
  unfold iA at d
  obtain⟨C,rfl,is,hr⟩:=xL.o A0;refine xW (L:=[(0,.agg #[xF f.size,C]),(1,xF e),(2,K)]) Tryz.func78 rfl rfl rfl (sc rfl (sc rfl (sc rfl sn))) (fun a F=>?_);have H:=Sep.start hN;refine xG ?_;refine oO ?_;refine oX F rfl rfl (cs:=[xF f.size,C]) rfl H (fun a w b3 H F=>?_);refine xA 1 F rfl fun a F=>?_;refine vP ?_;refine xH ?_;refine xG ?_;obtain⟨z,cz,d⟩:=xB d
  obtain⟨n0,a3,rfl⟩:∃ n:Nat,mkz (Value.slice none 0 0) e=some (List.replicate n vH)∧z=List.replicate n []:=by
    obtain⟨q1,q2,q3⟩:=xIf cz;exact⟨e.toNat,by unfold mkz;rw[if_pos ⟨q1,q2⟩],q3⟩
  refine qG (fun a w=>∃ (i:Nat) (vd:Value),Sk a 44 [(7,vA i),(2,K)]∧Sep [] B t w (rl 1 wC 138 vd (List.replicate n0 vH)::bx i [xF f.size,C,xF e,vd] 178::[])) ?_ ?_
  · obtain⟨w1,rfl⟩:∃ x,x=w:=⟨_,rfl⟩
    obtain⟨Q,N1,E,S,H,th⟩:=H.fz;have K3:=E.bk;refine lU H (fun w H=>?_);refine qJ 0 rfl ?_;refine vBA qU oH F rfl rfl (K3.v H.sm) rfl rfl (fun a F=>?_);refine qV 1 rfl ?_;refine qO F rfl rfl (fun a F=>?_);refine qV 2 rfl ?_;refine qO F rfl rfl (fun a F=>?_);refine kT H 3 rfl ?_;refine oRM (sz:=1) (R:=wC) (z:=.slice none 0 0) (bytes:=24) lA (by kernel_rfl) rfl (by decide) (by decide) (fun w=>⟨rfl,rfl,rfl⟩) F rfl rfl rfl a3 H (fun a w vd H F=>?_);refine vP ?_;refine xH ?_;refine⟨⟨_,H⟩,?_⟩;refine kT H 4 rfl ?_;refine uA (cs:=#[xF f.size,C,xF e,vd]) (qs:=[(0,[xF f.size,C]),(2,[xF e]),(3,[vd])]) Tryz.underlying178 Tryz.zeroValue178 (fun w=>by simp [xI,oH,Tryz.sizeOf176];rfl) F rfl rfl rfl rfl rfl ⟨rfl,rfl,Nat.le_of_ble_eq_true rfl,⟨rfl,rfl,Nat.le_of_ble_eq_true rfl,⟨(jM (H.l 0 rfl).one),rfl,Nat.le_of_ble_eq_true rfl,trivial⟩⟩⟩ rfl (fun a F=>?_);refine vP ?_;refine xH ?_;refine⟨⟨_,H⟩,?_⟩;refine kT H 5 rfl ?_;refine oX F rfl rfl (cs:=[xF f.size,C,xF e,vd]) rfl H (fun a w i H F=>?_);refine vP ?_;refine xH ?_;refine⟨⟨_,H⟩,?_⟩;refine kT H 6 rfl ?_;refine xA 1 F rfl fun a F=>?_;refine vP ?_;refine xH ?_;refine⟨⟨_,H⟩,?_⟩;refine zN ?_;exact⟨i,vd,F.su,(th.1 H (Ns.all ⟨Go.Proofs.YtfmnjkpddljdcaaGreatDoor.n0,Go.Proofs.YtfmnjkpddljdcaaGreatDoor.n0,trivial⟩)).s [2,1] rfl rfl⟩
  · intro a w ⟨i,vd,F,H⟩
    refine xH ?_;have H:Sep [] B t w (rl 1 wC 138 vd (List.replicate n0 vH)::bx i [xF f.size,C,xF e,vd] 178::mU B 2 kU 140 (List.replicate n0 vH) (List.replicate n0 [])):=(H.nils 2 kU 140 n0).comm;refine xG ?_;refine xG ?_;refine oO ?_;refine xA 1 F rfl fun a F=>?_;refine oL cJ F rfl rfl P (fun a T F=>?_);refine xA 1 F rfl fun a F=>?_;refine vP ?_;refine xH ?_;obtain⟨U,d,a1⟩:=xV d;refine qG (fun a w=>∃ (s:List (List Atom)) (us:List Value),U= .nx s∧us.length=s.length∧Sk a 44 [(7,vA i)]∧Sep [] B t w (rl 1 wC 138 vd us::bx i [xF f.size,C,xF e,vd] 178::mU B 2 kU 140 us s)) ?_ ?_
    · refine qM ?_
      obtain⟨a4,a5,d⟩:=vY d;refine vT (fun g a w=>∃ (I:Nat) (J:List Atom) (s:List (List Atom)) (us:List Value),(I≤G.length∧G.drop I=J)∧J.length=g∧qW a4 J I s=some U∧us.length=s.length∧Sk a 44 [(19,xF (I:Int)),(7,vA i),(17,K),(18,xF (G.length:Int))]∧Sep [] B t w (rl 1 wC 138 vd us::bx i [xF f.size,C,xF e,vd] 178::mU B 2 kU 140 us s)) G.length ?_ ?_
      · exact⟨0,G,_,_,⟨Nat.zero_le _,rfl⟩,rfl,d,by simp,F.su,H⟩
      intro g2 a w ⟨I,J,s,us,j,a6,d,hus,F,H⟩
      cases J with
      | nil=>
        replace d:=vX d;have q4:=vZ j.1 j.2;have l1:=kW q4;refine xG ?_;refine oO ?_;refine xA 1 F rfl fun a F=>?_;refine vP ?_;refine xH ?_;refine xG ?_;refine aC F rfl l1 ?_;refine vU ?_;refine vV ?_;refine vV ?_;refine bC ?_;refine xH ?_;exact⟨s,us,(kQ d),hus,F.su,H⟩
      | cons W J=>
        subst a6;replace j:=qY j.2;have y4:=zI j.2.1;obtain⟨aq,d,a7⟩:=vE d;rw[a5] at d;have l1:=zT j.1;refine xG ?_;refine oO ?_;refine xA 1 F rfl fun a F=>?_;refine vP ?_;refine xH ?_;refine xG ?_;refine aD F rfl l1 ?_;refine xT ?_;refine xH ?_;refine xG ?_;have j1:=k64 (Nat.le_of_lt j.1) T;have m1:=bG j.1 T;refine qM ?_;refine xG ?_;refine oO ?_;refine oI cJ eR F rfl rfl rfl P y4 (fun a p1 h1 F=>?_);refine olA Tryz.isAgg140 eR F rfl rfl H.sm h1 (fun a va ha F=>?_);obtain⟨va1,rfl,ia,hargs⟩:=kU.o ha;refine oA mK F rfl rfl H (fun a w b9 H F=>?_);refine gN (vs:=[xF W.rel,va1]) eR F rfl rfl rfl H (oc rfl (oc hargs.one on)) rfl rfl (fun w H=>?_);refine vP ?_;refine xH ?_;refine xG ?_;refine oO ?_;refine oQ xLu F rfl rfl rfl (fun a F=>?_);refine oB qE F rfl rfl (H.b 0 rfl) rfl (fun a F=>?_);obtain⟨m,cm,d⟩:=xB d;refine oKI F rfl Tryz.call113 rfl H (pU m cm _ aA (H.a hargs)) (fun a w H im F=>?_);refine xA 1 F rfl fun a F=>?_;refine vP ?_;refine xH ?_;obtain⟨y,cy,d⟩:=xB d;obtain⟨u',cu,d⟩:=xB d;obtain⟨hm0,hy⟩:=sL cy
        have hml:m.toNat<us.length:=by rw[hus];exact(List.getElem?_eq_some_iff.1 hy).1
        obtain⟨u,hu⟩:∃ u,us[m.toNat]?=some u:=⟨_,List.getElem?_eq_getElem hml⟩
        have hix:ix us m=some u:=by unfold ix;rw[if_pos hm0];exact hu
        obtain⟨S,e2⟩:=xKw (M:=B) (sz:=2) (R:=kU) (E2:=140) hu hy;have SB:=H.sm;obtain⟨w1,rfl⟩:∃ x,x=w:=⟨_,rfl⟩;obtain⟨Q,N1,E,ee,H,th⟩:=H.mg.mg.fz;have K9:=E.l.l.bk;have hvd:=E.l.r.ld;have X:=E.r.bk;rw[S] at H;have H:=H.comm;refine qG (fun a w=>Sk a 44 [(19,xF (I:Int)),(7,vA i),(17,K),(18,xF (G.length:Int))]∧∃ us',us'.length=(s.set m.toNat u').length∧Sep [] B t w (rl 1 wC 138 vd us'::bx i [xF f.size,C,xF e,vd] 178::mU B 2 kU 140 us' (s.set m.toNat u'))) ?_ ?_
        · refine lU H (fun w H=>?_)
          refine qV 0 rfl ?_;refine qO F rfl rfl (fun a F=>?_);refine qJ 1 rfl ?_;refine kK F rfl rfl (fun a F=>?_);refine qJ 2 rfl ?_;refine qT F rfl (fun w l=>oD xHc F rfl rfl) (fun a F=>?_);refine qJ 3 rfl ?_;refine vB Tryz.isAgg176 F rfl rfl (X.v H.sm) rfl (fun a F=>?_);refine qV 4 rfl ?_;refine qO F rfl rfl (fun a F=>?_);refine qV 5 rfl ?_;refine qO F rfl rfl (fun a F=>?_);refine qJ 6 rfl ?_;refine kK F rfl rfl (fun a F=>?_);refine qJ 7 rfl ?_;refine qT F rfl (fun w l=>oD xHc F rfl rfl) (fun a F=>?_);refine qJ 8 rfl ?_;refine vB Tryz.isAgg176 F rfl rfl (X.v H.sm) rfl (fun a F=>?_);refine qV 9 rfl ?_;refine qO F rfl rfl (fun a F=>?_);refine qJ 10 rfl ?_;refine vI lA rG F rfl rfl rfl hvd hix (fun a p hp F=>?_);refine qJ 11 rfl ?_;refine qT F rfl (fun w' l=>xUe Tryz.isAgg138 F rfl hp w' (H.sm.trans l)) (fun a F=>?_);refine qJ 12 rfl ?_;refine vBA Tryz.isAgg140 eR F rfl rfl (K9.v H.sm) rfl rfl (fun a F=>?_);refine kT H 13 rfl ?_;refine oR1 (R:=kU) (y:=W) (N1:=B) cJ eR mK rfl rfl F rfl rfl H th.2.2 (Eo.agg (kU.m ia (hargs.to (SB.trans (H.sm.mono th.2.2))))) (fun a w v' H F=>?_);refine vP ?_;refine xH ?_;refine⟨⟨_,H⟩,?_⟩;refine kT H 14 rfl ?_;refine oP (sz:=2) (R:=kU) (z:=(.agg #[xF 0,.slice none 0 0])) (bytes:=32) cJ (by kernel_rfl) rfl rfl F rfl rfl rfl H.sw cu (fun a w v'' H F=>?_);refine vP ?_;refine xH ?_;refine⟨⟨_,H⟩,?_⟩;refine kT H 15 rfl ?_;obtain⟨Y,⟨Ya,Yb,⟨Yc,Yd,_,⟨rb,ib,r1,_,r2,r3⟩,_,y1,Z⟩,_,_,y3,_⟩,hY,_⟩:=E;have a8:=r1.keep (fun c hc=>H.sm.blk c (hY c (y3 c (Z c (r2 c hc))))) (fun c hc=>H.sm.blk c (hY c (y3 c (Z c (r3 c hc))))) H.fr.size;refine xDl lA rG F rfl rfl rfl a8 hix (fun a p2 bi _ _ a9 F=>?_);refine vP ?_;refine xH ?_;refine⟨⟨_,H⟩,?_⟩;refine b_e 16 rfl (by kernel_rfl) ?_;have hone:=(H.r 0 rfl).one;have hev:=Eo.val (H.r 0 rfl)
          have H:=th.1 H (fun A hA c hc=>by
            rcases List.mem_cons.1 hA with rfl | hA
            · exact hc
            · rcases List.mem_append.1 hA with hA | hA
              · exact xPa A hA c hc
              · exact xPa A hA c hc)
          have H:=H.um.um.sw.lw;refine oS (N1:=N0) rG F rfl rfl rfl H a9 hml hev hone rfl (fun w H=>?_);refine vP ?_;refine xH ?_;refine⟨.inr (by kernel_rfl),?_⟩;refine zN ?_;have H:=H.tl.sw.dp;refine⟨F.su,us.set m.toNat v'',by simp [hus],?_⟩;rw[e2];exact Sep.back (D:=[_,_]) H
        · intro a w ⟨F,us',hus',H⟩
          refine zG ?_;refine xH ?_;refine oO ?_;refine kO F rfl rfl rfl m1 (fun a F=>?_);refine xA 1 F rfl fun a F=>?_;refine vP ?_;refine xH ?_;replace d:=aB d a7;exact⟨_,Nat.lt_succ_self _,I+1,J,_,us',⟨j.1,j.2.2⟩,rfl,d,hus',F.su,H⟩
    · rintro a w ⟨s,us,rfl,hus,F,H⟩
      have d:=oJ a1;refine xH ?_;refine xG ?_;refine oO ?_;refine xA 1 F rfl fun a F=>?_;refine xA 1 F rfl fun a F=>?_;refine vP ?_;refine xH ?_;refine xP ?_;refine xR F rfl (xZ F rfl) ?_;obtain rfl:=oj d;have H:=Sep.zrow (D:=[_]) hus (fun _ h=>h) (H.sw.comm (L1:=[_]));obtain⟨Q,N1,E,ee,H,th⟩:=H.mg.fz;have H:=H.rob (aU.b E.r.bk is (ee hr) a2 E.l.rd);exact⟨_,rfl,_,rfl,th.2.1 H (Ns.all trivial)⟩
end Go.Proofs.YtfmnjkpddljdcaaGreatDoor
