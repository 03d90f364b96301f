import Derived.Test.YtgnfibiaaipibaaGreatSV
import Derived.Test.YtgnfibiaaipibaaGreatRR
namespace Go.Proofs.YtgnfibiaaipibaaGreat
open Go.Proofs.Tryz
set_option linter.unusedVariables false
set_option linter.unusedSimpArgs false
set_option maxRecDepth 100000
open Go.RowKit
def fP (d:Template) (c:Int) (e:List Atom):Option solver:=
 xY (mkz ([]:List Atom) c) fun z=>
 vT (σ:=List (List Atom)) (
  qJ (σ:=List (List Atom)) (ρ:=solver) (fun (k:Nat) (a:Atom) (s:List (List Atom))=>
   xY (kJ a.args) fun m=>
   xY (ix s m) fun y=>
   xY (ap y [a]) fun u=>
   some (.go (s.set m.toNat u))) e 0 z) fun s=>
 some (solver.mk d c s)
set_option maxHeartbeats 1000000 in
theorem impl_solverOf_s {B:Nat→Prop} {f:Template} {e:Int} {G:List Atom} (r:solver) (d:fP f e G=some r) {P K:Value} (t:World) (hN:∀ c,B c→c<t.heap.size) (A0:Bo B t (zX 2 xI) P f) (a3:xZ e) (Q:Bo B t (Sl 2 zL) K G) :
    Calls Tryz.prog 131 #[P,xG e,K] t (Gv (fun v w'=>∃ (O:Value),v=O∧Sep [] B t w' [ro B (V:=Pt 4 kF) O r])):=by
  unfold fP at d
  obtain⟨C,rfl,is,hr⟩:=xI.o A0;refine xV (L:=[(0,.agg #[xG f.size,C]),(1,xG e),(2,K)]) func131 rfl rfl rfl (sc rfl (sc rfl (sc rfl sn))) (fun a F=>?_);have H:=Sep.start hN;refine xC ?_;refine xU ?_;refine oX F rfl rfl (cs:=[xG f.size,C]) rfl H (fun a w b3 H F=>?_);refine xA 1 F rfl fun a F=>?_;refine oY ?_;refine xF ?_;refine xC ?_;obtain⟨z,cz,d⟩:=xB d
  obtain⟨n0,a4,rfl⟩:∃ n:Nat,mkz (Value.slice none 0 0) e=some (List.replicate n aE)∧z=List.replicate n []:=by
    obtain⟨q1,q2,q3⟩:=mkz_some cz;exact⟨e.toNat,by unfold mkz;rw[if_pos ⟨q1,q2⟩],q3⟩
  refine xX (fun a w=>∃ (i:Nat) (vd:Value),Sk a 44 [(7,vK i),(2,K)]∧Sep [] B t w (rl 1 RVal 179 vd (List.replicate n0 aE)::bx i [xG f.size,C,xG e,vd] 199::[])) ?_ ?_
  · obtain⟨w1,rfl⟩:∃ x,x=w:=⟨_,rfl⟩
    obtain⟨S,N1,E,T,H,th⟩:=H.fz;have K3:=E.bk;refine xD H (by kernel_rfl) (fun w H=>?_);refine qY 0 rfl (by kernel_rfl) ?_;refine vBA isAgg31 sizeOf31 F rfl rfl (K3.v H.sm) rfl rfl (fun a F=>?_);refine vM 1 rfl (by kernel_rfl) ?_;refine oJ F rfl (fun w l=>xM F rfl) (fun a F=>?_);refine vM 2 rfl (by kernel_rfl) ?_;refine oJ F rfl (fun w l=>xM F rfl) (fun a F=>?_);refine xE H 3 rfl (by kernel_rfl) ?_;refine oRM (sz:=1) (R:=RVal) (z:=.slice none 0 0) (bytes:=24) underlying197 (by kernel_rfl) rfl (by decide) (by decide) (fun w=>⟨rfl,rfl,rfl⟩) F rfl rfl rfl a4 H (fun a w vd H F=>?_);refine oY ?_;refine xF ?_;refine⟨⟨_,H⟩,?_⟩;refine xE H 4 rfl (by kernel_rfl) ?_;refine o_buildG (cs:=#[xG f.size,C,xG e,vd]) (qs:=[(0,[xG f.size,C]),(2,[xG e]),(3,[vd])]) underlying199 zeroValue199 (fun w=>by simp [sizeOf2,sizeOf31,sizeOf197];rfl) F rfl rfl rfl rfl rfl ⟨rfl,rfl,Nat.le_of_ble_eq_true rfl,⟨rfl,rfl,Nat.le_of_ble_eq_true rfl,⟨(one_cells (H.l 0 rfl).one),rfl,Nat.le_of_ble_eq_true rfl,trivial⟩⟩⟩ rfl (fun a F=>?_);refine oY ?_;refine xF ?_;refine⟨⟨_,H⟩,?_⟩;refine xE H 5 rfl (by kernel_rfl) ?_;refine oX F rfl rfl (cs:=[xG f.size,C,xG e,vd]) rfl H (fun a w i H F=>?_);refine oY ?_;refine xF ?_;refine⟨⟨_,H⟩,?_⟩;refine xE H 6 rfl (by kernel_rfl) ?_;refine xA 1 F rfl fun a F=>?_;refine oY ?_;refine xF ?_;refine⟨⟨_,H⟩,?_⟩;refine bF (by kernel_rfl) ?_;exact⟨i,vd,F.su,(th.1 H (Ns.all ⟨Go.Proofs.YtgnfibiaaipibaaGreat.n0,Go.Proofs.YtgnfibiaaipibaaGreat.n0,trivial⟩)).s [2,1] rfl rfl⟩
  · intro a w ⟨i,vd,F,H⟩
    refine xF ?_;have H:Sep [] B t w (rl 1 RVal 179 vd (List.replicate n0 aE)::bx i [xG f.size,C,xG e,vd] 199::zipA B 2 zL 181 (List.replicate n0 aE) (List.replicate n0 [])):=(H.nils 2 zL 181 n0).comm;refine xC ?_;refine xC ?_;refine xU ?_;refine xA 1 F rfl fun a F=>?_;refine oL underlying179 F rfl rfl Q (fun a U F=>?_);refine xA 1 F rfl fun a F=>?_;refine oY ?_;refine xF ?_;obtain⟨W,d,a2⟩:=xK d;refine xX (fun a w=>∃ (s:List (List Atom)) (us:List Value),W= .nx s∧us.length=s.length∧Sk a 44 [(7,vK i)]∧Sep [] B t w (rl 1 RVal 179 vd us::bx i [xG f.size,C,xG e,vd] 199::zipA B 2 zL 181 us s)) ?_ ?_
    · refine xW ?_
      obtain⟨a5,a6,d⟩:=qE d;refine oU (fun g a w=>∃ (I:Nat) (J:List Atom) (s:List (List Atom)) (us:List Value),(I≤G.length∧G.drop I=J)∧J.length=g∧qJ a5 J I s=some W∧us.length=s.length∧Sk a 44 [(19,xG (I:Int)),(7,vK i),(17,K),(18,xG (G.length:Int))]∧Sep [] B t w (rl 1 RVal 179 vd us::bx i [xG f.size,C,xG e,vd] 199::zipA B 2 zL 181 us s)) G.length ?_ ?_
      · exact⟨0,G,_,_,⟨Nat.zero_le _,rfl⟩,rfl,d,by simp,F.su,H⟩
      intro g2 a w ⟨I,J,s,us,j,a7,d,hus,F,H⟩
      cases J with
      | nil=>
        replace d:=qH d;have q4:=qG j.1 j.2;have N:=vA q4;refine xC ?_;refine xU ?_;refine xA 1 F rfl fun a F=>?_;refine oY ?_;refine xF ?_;refine xC ?_;refine qT F rfl N ?_;refine oM ?_;refine oR ?_;refine oR ?_;refine vH ?_;refine xF ?_;exact⟨s,us,(vE d),hus,F.su,H⟩
      | cons X J=>
        subst a7;replace j:=oO j.2;have y4:=oZ j.2.1;obtain⟨ar,d,a8⟩:=oV d;rw[a6] at d;have N:=qM j.1;refine xC ?_;refine xU ?_;refine xA 1 F rfl fun a F=>?_;refine oY ?_;refine xF ?_;refine xC ?_;refine qV F rfl N ?_;refine xL ?_;refine xF ?_;refine xC ?_;have j1:=fE (Nat.le_of_lt j.1) U;have m1:=zC j.1 U;refine xW ?_;refine xC ?_;refine xU ?_;refine oI underlying179 sizeOf181 F rfl rfl rfl Q y4 (fun a p1 h1 F=>?_);refine olA isAgg181 sizeOf181 F rfl rfl H.sm h1 (fun a va ha F=>?_);obtain⟨va1,rfl,ia,hargs⟩:=zL.o ha;refine oA zeroValue181 F rfl rfl H (fun a w b9 H F=>?_);refine oWA (vs:=[xG X.rel,va1]) sizeOf181 F rfl rfl rfl H (oc rfl (oc hargs.one on)) rfl rfl (fun w H=>?_);refine oY ?_;refine xF ?_;refine xC ?_;refine xU ?_;refine oH fa181_1 F rfl rfl rfl (fun a F=>?_);refine oB isAgg25 F rfl rfl (H.b 0 rfl) rfl (fun a F=>?_);obtain⟨m,cm,d⟩:=xB d;refine oKI F rfl call157 rfl H (slices_Max_s_int64_int64_c m cm _ aA (H.a hargs)) (fun a w H im F=>?_);refine xA 1 F rfl fun a F=>?_;refine oY ?_;refine xF ?_;obtain⟨y,cy,d⟩:=xB d;obtain⟨u',cu,d⟩:=xB d;obtain⟨hm0,hy⟩:=ix_some cy
        have hml:m.toNat<us.length:=by rw[hus];exact(List.getElem?_eq_some_iff.1 hy).1
        obtain⟨u,hu⟩:∃ u,us[m.toNat]?=some u:=⟨_,List.getElem?_eq_getElem hml⟩
        have hix:ix us m=some u:=by unfold ix;rw[if_pos hm0];exact hu
        obtain⟨T,e2⟩:=zipA_split (M:=B) (sz:=2) (R:=zL) (E2:=181) hu hy;have SB:=H.sm;obtain⟨w1,rfl⟩:∃ x,x=w:=⟨_,rfl⟩;obtain⟨S,N1,E,ee,H,th⟩:=H.mg.mg.fz;have K9:=E.l.l.bk;have hvd:=E.l.r.ld;have Z:=E.r.bk;rw[T] at H;have H:=H.comm;refine xX (fun a w=>Sk a 44 [(19,xG (I:Int)),(7,vK i),(17,K),(18,xG (G.length:Int))]∧∃ us',us'.length=(s.set m.toNat u').length∧Sep [] B t w (rl 1 RVal 179 vd us'::bx i [xG f.size,C,xG e,vd] 199::zipA B 2 zL 181 us' (s.set m.toNat u'))) ?_ ?_
        · refine xD H (by kernel_rfl) (fun w H=>?_)
          refine vM 0 rfl (by kernel_rfl) ?_;refine oJ F rfl (fun w l=>xM F rfl) (fun a F=>?_);refine qY 1 rfl (by kernel_rfl) ?_;refine oJ F rfl (fun w l=>zT F rfl) (fun a F=>?_);refine qY 2 rfl (by kernel_rfl) ?_;refine oJ F rfl (fun w l=>vG fa199_2 F rfl rfl) (fun a F=>?_);refine qY 3 rfl (by kernel_rfl) ?_;refine vB isAgg197 F rfl rfl (Z.v H.sm) rfl (fun a F=>?_);refine vM 4 rfl (by kernel_rfl) ?_;refine oJ F rfl (fun w l=>xM F rfl) (fun a F=>?_);refine vM 5 rfl (by kernel_rfl) ?_;refine oJ F rfl (fun w l=>xM F rfl) (fun a F=>?_);refine qY 6 rfl (by kernel_rfl) ?_;refine oJ F rfl (fun w l=>zT F rfl) (fun a F=>?_);refine qY 7 rfl (by kernel_rfl) ?_;refine oJ F rfl (fun w l=>vG fa199_2 F rfl rfl) (fun a F=>?_);refine qY 8 rfl (by kernel_rfl) ?_;refine vB isAgg197 F rfl rfl (Z.v H.sm) rfl (fun a F=>?_);refine vM 9 rfl (by kernel_rfl) ?_;refine oJ F rfl (fun w l=>xM F rfl) (fun a F=>?_);refine qY 10 rfl (by kernel_rfl) ?_;refine vI underlying197 sizeOf179 F rfl rfl rfl hvd hix (fun a p hp F=>?_);refine qY 11 rfl (by kernel_rfl) ?_;refine oJ F rfl (fun w' l=>b_cell isAgg179 F rfl hp w' (H.sm.trans l)) (fun a F=>?_);refine qY 12 rfl (by kernel_rfl) ?_;refine vBA isAgg181 sizeOf181 F rfl rfl (K9.v H.sm) rfl rfl (fun a F=>?_);refine xE H 13 rfl (by kernel_rfl) ?_;refine oR1 (R:=zL) (y:=X) (N1:=B) underlying179 sizeOf181 zeroValue181 rfl rfl F rfl rfl H th.2.2 (Eo.agg (zL.m ia (hargs.to (SB.trans (H.sm.mono th.2.2))))) (fun a w v' H F=>?_);refine oY ?_;refine xF ?_;refine⟨⟨_,H⟩,?_⟩;refine xE H 14 rfl (by kernel_rfl) ?_;refine oP (sz:=2) (R:=zL) (z:=(.agg #[xG 0,.slice none 0 0])) (bytes:=32) underlying179 (by kernel_rfl) rfl rfl F rfl rfl rfl H.sw cu (fun a w v'' H F=>?_);refine oY ?_;refine xF ?_;refine⟨⟨_,H⟩,?_⟩;refine xE H 15 rfl (by kernel_rfl) ?_;obtain⟨Y,⟨Ya,Yb,⟨Yc,Yd,_,⟨rb,ib,r1,_,r2,r3⟩,_,y1,y2⟩,_,_,y3,_⟩,hY,_⟩:=E;have a9:=r1.keep (fun c hc=>H.sm.blk c (hY c (y3 c (y2 c (r2 c hc))))) (fun c hc=>H.sm.blk c (hY c (y3 c (y2 c (r3 c hc))))) H.fr.size;refine o_rindex underlying197 sizeOf179 F rfl rfl rfl a9 hix (fun a p2 bi _ _ aa F=>?_);refine oY ?_;refine xF ?_;refine⟨⟨_,H⟩,?_⟩;refine b_e 16 rfl (by kernel_rfl) ?_;have hone:=(H.r 0 rfl).one;have hev:=Eo.val (H.r 0 rfl)
          have H:=th.1 H (fun A hA c hc=>by
            rcases List.mem_cons.1 hA with rfl | hA
            · exact hc
            · rcases List.mem_append.1 hA with hA | hA
              · exact zipA_N A hA c hc
              · exact zipA_N A hA c hc)
          have H:=H.um.um.sw.lw;refine oS (N1:=N0) sizeOf179 F rfl rfl rfl H aa hml hev hone rfl (fun w H=>?_);refine oY ?_;refine xF ?_;refine⟨.inr (by kernel_rfl),?_⟩;refine bF (by kernel_rfl) ?_;have H:=H.tl.sw.dp;refine⟨F.su,us.set m.toNat v'',by simp [hus],?_⟩;rw[e2];exact Sep.back (D:=[_,_]) H
        · intro a w ⟨F,us',hus',H⟩
          refine qS ?_;refine xF ?_;refine xU ?_;refine qQ F rfl rfl rfl m1 (fun a F=>?_);refine xA 1 F rfl fun a F=>?_;refine oY ?_;refine xF ?_;replace d:=qX d a8;exact⟨_,Nat.lt_succ_self _,I+1,J,_,us',⟨j.1,j.2.2⟩,rfl,d,hus',F.su,H⟩
    · rintro a w ⟨s,us,rfl,hus,F,H⟩
      have d:=xN a2;refine xF ?_;refine xC ?_;refine xU ?_;refine xA 1 F rfl fun a F=>?_;refine xA 1 F rfl fun a F=>?_;refine oY ?_;refine xF ?_;refine xT ?_;refine xS F rfl (oD F rfl) ?_;obtain rfl:=oj d;have H:=Sep.zrow (D:=[_]) hus (fun _ h=>h) (H.sw.comm (L1:=[_]));obtain⟨S,N1,E,ee,H,th⟩:=H.mg.fz;have H:=H.rob (kF.b E.r.bk is (ee hr) a3 E.l.rd);exact⟨_,rfl,_,rfl,th.2.1 H (Ns.all trivial)⟩
end Go.Proofs.YtgnfibiaaipibaaGreat
