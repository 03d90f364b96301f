import Derived.Test.YtncganhbpbehaaaGreatSW
import Derived.Test.YtncganhbpbehaaaGreatRR
namespace Go.Proofs.YtncganhbpbehaaaGreat
open Go.Proofs.Tryz
set_option linter.unusedVariables false
set_option linter.unusedSimpArgs false
set_option maxRecDepth 100000
open Go.RowKit
def fL (d:Template) (c:Int) (e:List Atom):Option solver:=
 xZ (mkz ([]:List Atom) c) fun z=>
 zR (σ:=List (List Atom)) (
  qT (σ:=List (List Atom)) (ρ:=solver) (fun (k:Nat) (a:Atom) (s:List (List Atom))=>
   xZ (kY a.args) fun m=>
   xZ (ix s m) fun y=>
   xZ (ap y [a]) fun u=>
   some (.go (s.set m.toNat u))) e 0 z) fun s=>
 some (solver.mk d c s)
set_option maxHeartbeats 1000000 in
theorem wK {B:Nat→Prop} {f:Template} {e:Int} {G:List Atom} (r:solver) (d:fL f e G=some r) {P K:Value} (t:World) (hN:∀ c,B c→c<t.heap.size) (A0:Bo B t (kK 2 xH) P f) (a3:xS e) (Q:Bo B t (Sl 2 zW) K G) :
    Calls Tryz.prog 89 #[P,xC e,K] t (Gv (fun v w'=>∃ (O:Value),v=O∧Sep [] B t w' [ro B (V:=Pt 4 kU) O r])):=by
  unfold fL at d
  obtain⟨C,rfl,is,hr⟩:=xH.o A0;refine xX (L:=[(0,.agg #[xC f.size,C]),(1,xC e),(2,K)]) func89 rfl rfl rfl (sc rfl (sc rfl (sc rfl sn))) (fun a F=>?_);have H:=Sep.start hN;refine xF ?_;refine xY ?_;refine oX F rfl rfl (cs:=[xC f.size,C]) rfl H (fun a w b3 H F=>?_);refine xA 1 F rfl fun a F=>?_;refine qU ?_;refine xG ?_;refine xF ?_;obtain⟨z,cz,d⟩:=xB d
  obtain⟨n0,a4,rfl⟩:∃ n:Nat,mkz (Value.slice none 0 0) e=some (List.replicate n qD)∧z=List.replicate n []:=by
    obtain⟨q1,q2,q3⟩:=xDy cz;exact⟨e.toNat,by unfold mkz;rw[if_pos ⟨q1,q2⟩],q3⟩
  refine oH (fun a w=>∃ (i:Nat) (vd:Value),Sk a 44 [(7,oO i),(2,K)]∧Sep [] B t w (rl 1 rK 139 vd (List.replicate n0 qD)::bx i [xC f.size,C,xC e,vd] 145::[])) ?_ ?_
  · obtain⟨w1,rfl⟩:∃ x,x=w:=⟨_,rfl⟩
    obtain⟨S,N1,E,T,H,th⟩:=H.fz;have K3:=E.bk;refine xD H (by kernel_rfl) (fun w H=>?_);refine qE 0 rfl (by kernel_rfl) ?_;refine vBA isAgg26 sizeOf26 F rfl rfl (K3.v H.sm) rfl rfl (fun a F=>?_);refine qW 1 rfl (by kernel_rfl) ?_;refine xO F rfl (fun w l=>xL F rfl) (fun a F=>?_);refine qW 2 rfl (by kernel_rfl) ?_;refine xO F rfl (fun w l=>xL F rfl) (fun a F=>?_);refine xE H 3 rfl (by kernel_rfl) ?_;refine oRM (sz:=1) (R:=rK) (z:=.slice none 0 0) (bytes:=24) underlying143 (by kernel_rfl) rfl (by decide) (by decide) (fun w=>⟨rfl,rfl,rfl⟩) F rfl rfl rfl a4 H (fun a w vd H F=>?_);refine qU ?_;refine xG ?_;refine⟨⟨_,H⟩,?_⟩;refine xE H 4 rfl (by kernel_rfl) ?_;refine xEj (cs:=#[xC f.size,C,xC e,vd]) (qs:=[(0,[xC f.size,C]),(2,[xC e]),(3,[vd])]) underlying145 zeroValue145 (fun w=>by simp [sizeOf2,sizeOf26,sizeOf143];rfl) F rfl rfl rfl rfl rfl ⟨rfl,rfl,Nat.le_of_ble_eq_true rfl,⟨rfl,rfl,Nat.le_of_ble_eq_true rfl,⟨(nJ (H.l 0 rfl).one),rfl,Nat.le_of_ble_eq_true rfl,trivial⟩⟩⟩ rfl (fun a F=>?_);refine qU ?_;refine xG ?_;refine⟨⟨_,H⟩,?_⟩;refine xE H 5 rfl (by kernel_rfl) ?_;refine oX F rfl rfl (cs:=[xC f.size,C,xC e,vd]) rfl H (fun a w i H F=>?_);refine qU ?_;refine xG ?_;refine⟨⟨_,H⟩,?_⟩;refine xE H 6 rfl (by kernel_rfl) ?_;refine xA 1 F rfl fun a F=>?_;refine qU ?_;refine xG ?_;refine⟨⟨_,H⟩,?_⟩;refine vZ (by kernel_rfl) ?_;exact⟨i,vd,F.su,(th.1 H (Ns.all ⟨Go.Proofs.YtncganhbpbehaaaGreat.n0,Go.Proofs.YtncganhbpbehaaaGreat.n0,trivial⟩)).s [2,1] rfl rfl⟩
  · intro a w ⟨i,vd,F,H⟩
    refine xG ?_;have H:Sep [] B t w (rl 1 rK 139 vd (List.replicate n0 qD)::bx i [xC f.size,C,xC e,vd] 145::jD B 2 zW 141 (List.replicate n0 qD) (List.replicate n0 [])):=(H.nils 2 zW 141 n0).comm;refine xF ?_;refine xF ?_;refine xY ?_;refine xA 1 F rfl fun a F=>?_;refine oL underlying139 F rfl rfl Q (fun a U F=>?_);refine xA 1 F rfl fun a F=>?_;refine qU ?_;refine xG ?_;obtain⟨W,d,a2⟩:=xM d;refine oH (fun a w=>∃ (s:List (List Atom)) (us:List Value),W= .nx s∧us.length=s.length∧Sk a 44 [(7,oO i)]∧Sep [] B t w (rl 1 rK 139 vd us::bx i [xC f.size,C,xC e,vd] 145::jD B 2 zW 141 us s)) ?_ ?_
    · refine oJ ?_
      obtain⟨a5,a6,d⟩:=qP d;refine qK (fun g a w=>∃ (I:Nat) (J:List Atom) (s:List (List Atom)) (us:List Value),(I≤G.length∧G.drop I=J)∧J.length=g∧qT a5 J I s=some W∧us.length=s.length∧Sk a 44 [(19,xC (I:Int)),(7,oO i),(17,K),(18,xC (G.length:Int))]∧Sep [] B t w (rl 1 rK 139 vd us::bx i [xC f.size,C,xC e,vd] 145::jD B 2 zW 141 us s)) G.length ?_ ?_
      · exact⟨0,G,_,_,⟨Nat.zero_le _,rfl⟩,rfl,d,by simp,F.su,H⟩
      intro g2 a w ⟨I,J,s,us,j,a7,d,hus,F,H⟩
      cases J with
      | nil=>
        replace d:=qO d;have q4:=qQ j.1 j.2;have N:=vS q4;refine xF ?_;refine xY ?_;refine xA 1 F rfl fun a F=>?_;refine qU ?_;refine xG ?_;refine xF ?_;refine zD F rfl N ?_;refine qJ ?_;refine qM ?_;refine qM ?_;refine zQ ?_;refine xG ?_;exact⟨s,us,(zH d),hus,F.su,H⟩
      | cons X J=>
        subst a7;replace j:=oZ j.2;have y4:=qX j.2.1;obtain⟨ar,d,a8⟩:=qG d;rw[a6] at d;have N:=vE j.1;refine xF ?_;refine xY ?_;refine xA 1 F rfl fun a F=>?_;refine qU ?_;refine xG ?_;refine xF ?_;refine zC F rfl N ?_;refine xN ?_;refine xG ?_;refine xF ?_;have j1:=gP (Nat.le_of_lt j.1) U;have m1:=zU j.1 U;refine oJ ?_;refine xF ?_;refine xY ?_;refine oI underlying139 sizeOf141 F rfl rfl rfl Q y4 (fun a p1 h1 F=>?_);refine olA isAgg141 sizeOf141 F rfl rfl H.sm h1 (fun a va ha F=>?_);obtain⟨va1,rfl,ia,hargs⟩:=zW.o ha;refine oA zeroValue141 F rfl rfl H (fun a w b9 H F=>?_);refine cN (vs:=[xC X.rel,va1]) sizeOf141 F rfl rfl rfl H (oc rfl (oc hargs.one on)) rfl rfl (fun w H=>?_);refine qU ?_;refine xG ?_;refine xF ?_;refine xY ?_;refine oD xGv F rfl rfl rfl (fun a F=>?_);refine oB isAgg41 F rfl rfl (H.b 0 rfl) rfl (fun a F=>?_);obtain⟨m,cm,d⟩:=xB d;refine oKI F rfl call118 rfl H (mD m cm _ aA (H.a hargs)) (fun a w H im F=>?_);refine xA 1 F rfl fun a F=>?_;refine qU ?_;refine xG ?_;obtain⟨y,cy,d⟩:=xB d;obtain⟨u',cu,d⟩:=xB d;obtain⟨hm0,hy⟩:=nM cy
        have hml:m.toNat<us.length:=by rw[hus];exact(List.getElem?_eq_some_iff.1 hy).1
        obtain⟨u,hu⟩:∃ u,us[m.toNat]?=some u:=⟨_,List.getElem?_eq_getElem hml⟩
        have hix:ix us m=some u:=by unfold ix;rw[if_pos hm0];exact hu
        obtain⟨T,e2⟩:=xGm (M:=B) (sz:=2) (R:=zW) (E2:=141) hu hy;have SB:=H.sm;obtain⟨w1,rfl⟩:∃ x,x=w:=⟨_,rfl⟩;obtain⟨S,N1,E,ee,H,th⟩:=H.mg.mg.fz;have K9:=E.l.l.bk;have hvd:=E.l.r.ld;have Z:=E.r.bk;rw[T] at H;have H:=H.comm;refine oH (fun a w=>Sk a 44 [(19,xC (I:Int)),(7,oO i),(17,K),(18,xC (G.length:Int))]∧∃ us',us'.length=(s.set m.toNat u').length∧Sep [] B t w (rl 1 rK 139 vd us'::bx i [xC f.size,C,xC e,vd] 145::jD B 2 zW 141 us' (s.set m.toNat u'))) ?_ ?_
        · refine xD H (by kernel_rfl) (fun w H=>?_)
          refine qW 0 rfl (by kernel_rfl) ?_;refine xO F rfl (fun w l=>xL F rfl) (fun a F=>?_);refine qE 1 rfl (by kernel_rfl) ?_;refine xO F rfl (fun w l=>vM F rfl) (fun a F=>?_);refine qE 2 rfl (by kernel_rfl) ?_;refine xO F rfl (fun w l=>oM xCa F rfl rfl) (fun a F=>?_);refine qE 3 rfl (by kernel_rfl) ?_;refine vB isAgg143 F rfl rfl (Z.v H.sm) rfl (fun a F=>?_);refine qW 4 rfl (by kernel_rfl) ?_;refine xO F rfl (fun w l=>xL F rfl) (fun a F=>?_);refine qW 5 rfl (by kernel_rfl) ?_;refine xO F rfl (fun w l=>xL F rfl) (fun a F=>?_);refine qE 6 rfl (by kernel_rfl) ?_;refine xO F rfl (fun w l=>vM F rfl) (fun a F=>?_);refine qE 7 rfl (by kernel_rfl) ?_;refine xO F rfl (fun w l=>oM xCa F rfl rfl) (fun a F=>?_);refine qE 8 rfl (by kernel_rfl) ?_;refine vB isAgg143 F rfl rfl (Z.v H.sm) rfl (fun a F=>?_);refine qW 9 rfl (by kernel_rfl) ?_;refine xO F rfl (fun w l=>xL F rfl) (fun a F=>?_);refine qE 10 rfl (by kernel_rfl) ?_;refine vI underlying143 sizeOf139 F rfl rfl rfl hvd hix (fun a p hp F=>?_);refine qE 11 rfl (by kernel_rfl) ?_;refine xO F rfl (fun w' l=>xOv isAgg139 F rfl hp w' (H.sm.trans l)) (fun a F=>?_);refine qE 12 rfl (by kernel_rfl) ?_;refine vBA isAgg141 sizeOf141 F rfl rfl (K9.v H.sm) rfl rfl (fun a F=>?_);refine xE H 13 rfl (by kernel_rfl) ?_;refine oR1 (R:=zW) (y:=X) (N1:=B) underlying139 sizeOf141 zeroValue141 rfl rfl F rfl rfl H th.2.2 (Eo.agg (zW.m ia (hargs.to (SB.trans (H.sm.mono th.2.2))))) (fun a w v' H F=>?_);refine qU ?_;refine xG ?_;refine⟨⟨_,H⟩,?_⟩;refine xE H 14 rfl (by kernel_rfl) ?_;refine oP (sz:=2) (R:=zW) (z:=(.agg #[xC 0,.slice none 0 0])) (bytes:=32) underlying139 (by kernel_rfl) rfl rfl F rfl rfl rfl H.sw cu (fun a w v'' H F=>?_);refine qU ?_;refine xG ?_;refine⟨⟨_,H⟩,?_⟩;refine xE H 15 rfl (by kernel_rfl) ?_;obtain⟨Y,⟨Ya,Yb,⟨Yc,Yd,_,⟨rb,ib,r1,_,r2,r3⟩,_,y1,y2⟩,_,_,y3,_⟩,hY,_⟩:=E;have a9:=r1.keep (fun c hc=>H.sm.blk c (hY c (y3 c (y2 c (r2 c hc))))) (fun c hc=>H.sm.blk c (hY c (y3 c (y2 c (r3 c hc))))) H.fr.size;refine wY underlying143 sizeOf139 F rfl rfl rfl a9 hix (fun a p2 bi _ _ aa F=>?_);refine qU ?_;refine xG ?_;refine⟨⟨_,H⟩,?_⟩;refine b_e 16 rfl (by kernel_rfl) ?_;have hone:=(H.r 0 rfl).one;have hev:=Eo.val (H.r 0 rfl)
          have H:=th.1 H (fun A hA c hc=>by
            rcases List.mem_cons.1 hA with rfl | hA
            · exact hc
            · rcases List.mem_append.1 hA with hA | hA
              · exact xKh A hA c hc
              · exact xKh A hA c hc)
          have H:=H.um.um.sw.lw;refine oS (N1:=N0) sizeOf139 F rfl rfl rfl H aa hml hev hone rfl (fun w H=>?_);refine qU ?_;refine xG ?_;refine⟨.inr (by kernel_rfl),?_⟩;refine vZ (by kernel_rfl) ?_;have H:=H.tl.sw.dp;refine⟨F.su,us.set m.toNat v'',by simp [hus],?_⟩;rw[e2];exact Sep.back (D:=[_,_]) H
        · intro a w ⟨F,us',hus',H⟩
          refine vH ?_;refine xG ?_;refine xY ?_;refine vP F rfl rfl rfl m1 (fun a F=>?_);refine xA 1 F rfl fun a F=>?_;refine qU ?_;refine xG ?_;replace d:=vU d a8;exact⟨_,Nat.lt_succ_self _,I+1,J,_,us',⟨j.1,j.2.2⟩,rfl,d,hus',F.su,H⟩
    · rintro a w ⟨s,us,rfl,hus,F,H⟩
      have d:=xW a2;refine xG ?_;refine xF ?_;refine xY ?_;refine xA 1 F rfl fun a F=>?_;refine xA 1 F rfl fun a F=>?_;refine qU ?_;refine xG ?_;refine xR ?_;refine xT F rfl (oE F rfl) ?_;obtain rfl:=oj d;have H:=Sep.zrow (D:=[_]) hus (fun _ h=>h) (H.sw.comm (L1:=[_]));obtain⟨S,N1,E,ee,H,th⟩:=H.mg.fz;have H:=H.rob (kU.b E.r.bk is (ee hr) a3 E.l.rd);exact⟨_,rfl,_,rfl,th.2.1 H (Ns.all trivial)⟩
end Go.Proofs.YtncganhbpbehaaaGreat
