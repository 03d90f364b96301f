import Derived.Test.YtlommebgedmjdaaGreatDoorS2
import Derived.Test.YtlommebgedmjdaaGreatDoorRR
namespace Go.Proofs.YtlommebgedmjdaaGreatDoor
open Go.Proofs.Tryz
set_option maxHeartbeats 1000000
set_option linter.unusedVariables false
set_option linter.unusedSimpArgs false
set_option maxRecDepth 100000
open Go.RowKit
def dX {σ:Type} (y:List Int→σ→Option (Bool×σ)):Nat→solver→(List Int)→σ→Option (Bool×σ)
  | 0,_,_,_=>none
  | N+1,c,d,f=>
  if ((d.length:Int)==c.vars) then
   xK (oD d) fun i=>
   y i f
  else
   vC (σ:=σ) (
    aY (σ:=σ) (ρ:=Bool×σ) (fun (j:Nat) (s:σ)=>
      xK (kP d) fun p=>
      xK (ap p ([(j:Int)])) fun h=>
      xK (bG N c h) fun z=>
      if z then xK (dX y N c h s) fun e=>
        if e.1 then some (.go e.2) else some (.ret (false,e.2))
      else some (.go s)) c.t.size.toNat 0 f) fun s=>
   some (true,s)
def Yld {σ:Type} (T:σ→As) (y:List Int→σ→Option (Bool×σ)) (f:FuncId) (e:List Value):Prop:=
  ∀ (c:List Int) (s:σ) (r:Bool×σ),y c s=some r→∀ {X:List Nat} {N:Nat→Prop} (W:World) (d:Value),Sep X N W W [rl 1 xG 2 d c,T s]→Calls Tryz.prog f ([d]++e:List Value).toArray W (Gv (fun v w'=>v= .bool r.1∧Sep X N W w' [T r.2]))
theorem xHm {σ:Type} {T:σ→As} (hT:∀ s c,¬ (T s).N c) {y:List Int→σ→Option (Bool×σ)} {j:FuncId} {I:List Value} (a6:∀ args w,(callFunc j args).run Tryz.prog w= .ok (.enter j args) w) (a7:Yld T y j I):∀ (N:Nat) {B:Nat→Prop} {i:solver} {P:List Int} {M:σ} (r:Bool×σ) (d:dX y N i P M=some r) {E:Value} {G:Value} {X:List Nat} (f:World) (H:Sep X B f f [T M]) (p:Bo B f (Pt 4 qZ) E i) (Q:Bo B f (Sl 1 xG) G P),Calls Tryz.prog 124 #[E,G,.func (.func j) #[] I.toArray] f (Gv (fun v w'=>v= .bool r.1∧Sep X B f w' [T r.2])):=by
  intro N
  induction N with
  | zero=>intro B i P M r d;unfold dX at d;cases d
  | succ N ih=>
  intro B i P M r d E G X f H p Q;rw[dX] at d;refine uW (L:=[(0,E),(1,G),(2,.func (.func j) #[] I.toArray)]) func124 rfl rfl rfl (sc rfl (sc rfl (sc rfl sn))) (fun a F=>?_);refine oO ?_;refine vL ?_;refine kV F rfl rfl (fun a F=>?_);refine vM ?_;refine qS ?_;refine oO ?_;refine oO ?_;refine vL ?_;refine kD F rfl rfl (fun a F=>?_);refine oL rE F rfl rfl Q (fun a i1 F=>?_);refine kD F rfl rfl (fun a F=>?_);refine oN F rfl rfl p (fun a F=>?_);refine oF (s':=1) xWz F rfl rfl p qZ.f1 (fun a p1 h1 F=>?_);refine olI isAgg2 F rfl rfl H.sm h1 (fun a i2 F=>?_);refine oBq F rfl rfl rfl (fun a F=>?_);refine vM ?_;refine qS ?_;refine oAb F rfl (fun V=>?_) (fun V=>?_)
  ·
   replace d:=ifT V d;refine oO ?_;refine vL ?_;refine kD F rfl rfl (fun a F=>?_);refine kD F rfl rfl (fun a F=>?_);obtain⟨a8,c1,d⟩:=fE d;refine oG F rfl call38 rfl ((kY a8 c1 _ aA (H.a Q)).mono fun e w' h=>h.gv) (fun a C w ⟨v2,aq,S,_⟩ F=>?_);subst C;have H:=H.r1 S n0;obtain⟨X1,K1,back⟩:=H.lend2;refine oGV F rfl rfl a6 rfl (a7 _ _ _ d _ _ K1) (fun a C w ⟨hv,S⟩ F=>?_);subst C;have H:=back S;refine kV F rfl rfl (fun a F=>?_);refine vM ?_;refine qS ?_;refine mN ?_;refine rB ?_;refine tB F rfl (xMj F rfl) ?_;exact⟨_,rfl,rfl,H⟩
  ·
   replace d:=ifF V d;refine eK ?_;refine qS ?_;refine oO ?_;refine oO ?_;refine vL ?_;refine kD F rfl rfl (fun a F=>?_);refine oN F rfl rfl p (fun a F=>?_);refine oF (s':=2) xNy F rfl rfl p qZ.f0 (fun a p2 h2 F=>?_);refine oF (s':=1) xUn F rfl rfl h2 xA.f0 (fun a p3 h3 F=>?_);refine olI isAgg2 F rfl rfl H.sm h3 (fun a i3 F=>?_);refine kD F rfl rfl (fun a F=>?_);refine vM ?_;refine qS ?_;obtain⟨o1,d,a0⟩:=uC d;refine xBm (fun a w=>∃ s,o1= .nx s∧Sk a 44 []∧Sep X B f w [T s]) ?_ ?_
   ·
    refine lM ?_;obtain⟨a9,aa,d⟩:=xSg d;refine xBs (fun g a w=>∃ (D:Nat) (s:σ),D+g=i.t.size.toNat∧aY a9 g D s=some o1∧Sk a 44 [(25,xI (D:Int)),(0,E),(1,G),(2,.func (.func j) #[] I.toArray),(24,xI i.t.size)]∧Sep X B f w [T s]) i.t.size.toNat ?_ ?_
    ·
     exact⟨0,M,(Nat.zero_add _),d,F.sub (sc rfl (sc rfl (sc rfl (sc rfl (sc rfl sn))))),H⟩
    ·
     intro g3 a w ⟨D,s,O,d,F,H⟩
     cases g3 with
     | zero=>
      replace d:=xPz d;have Y:=iL O;refine oO ?_;refine vL ?_;refine xFk F rfl rfl rfl (fun a F=>?_);refine vM ?_;refine qS ?_;refine oO ?_;refine xIn F rfl Y ?_;refine yC ?_;refine xEb ?_;refine xEb ?_;refine xNo ?_;refine qS ?_;exact⟨s,(ojs d),F.sub sn,H⟩
     | succ g3=>
      obtain⟨ab,d,a1⟩:=xHx d;rw[aa] at d;have Y:=eW O;refine oO ?_;refine vL ?_;refine xFk F rfl rfl rfl (fun a F=>?_);refine vM ?_;refine qS ?_;refine oO ?_;refine xOl F rfl Y ?_;refine eK ?_;refine qS ?_;refine oO ?_;have j1:=xBl O i3;have m1:=mB O i3;refine lM ?_;refine oO ?_;refine vL ?_;refine kD F rfl rfl (fun a F=>?_);refine kV F rfl rfl (fun a F=>?_);refine vM ?_;refine qS ?_;refine oO ?_;refine vL ?_;refine kD F rfl rfl (fun a F=>?_);obtain⟨z1,c2,d⟩:=fE d;refine oG F rfl call176 rfl ((pB z1 c2 _ H.hN (H.u Q)).mono fun e w' h=>h.gv) (fun a C w ⟨p4,Z,ar,S,_⟩ F=>?_);subst C;have Z:=H.dn Z;have H:=H.r0 S;refine kD F rfl rfl (fun a F=>?_);refine oBg (R:=xG) (y:=(D:Int)) rE sizeOf2 zeroValue2 rfl rfl F rfl rfl H (Eo.int j1) (fun a w v3 H F=>?_);obtain⟨z2,c3,d⟩:=fE d;refine oPc (z:=(xI 0)) (bytes:=8) rE (by kernel_rfl) rfl (by decide) rfl F rfl rfl rfl (H.a Z) H (H.l 0 rfl) (by simp) c3 (fun a w v4 H F=>?_);refine kV F rfl rfl (fun a F=>?_);refine vM ?_;refine qS ?_;refine oO ?_;refine xBm (fun a w=>∃ (b:Bool) (s':σ),(if b then (some (.ret (false,s')):Option (Ctl σ (Bool×σ))) else some (.go s'))=some ab∧Sk a 44 [(0,E),(1,G),(2,.func (.func j) #[] I.toArray),(24,xI i.t.size),(25,xI (D:Int)),(42,.bool b)]∧Sep X B f w [T s']) ?_ ?_
      ·
       refine vL ?_;refine kD F rfl rfl (fun a F=>?_);refine kD F rfl rfl (fun a F=>?_);obtain⟨z3,c4,d⟩:=fE d;refine oK F rfl call123 rfl H ((pS z3 c4 _ aA (H.a p) (H.l 0 rfl)).mono fun e w' h=>xDj.of_gt h) (fun a w H F=>?_);refine kD F rfl rfl (fun a F=>?_)
       rcases xYo z3 with K | K
       ·
        replace d:=ifT K d;have F:=F.eb 36 rfl K;refine kD F rfl rfl (fun a F=>?_);refine kD F rfl rfl (fun a F=>?_);refine kD F rfl rfl (fun a F=>?_);obtain⟨U,c5,d⟩:=fE d;obtain⟨wf,rfl⟩:∃ x,x=w:=⟨_,rfl⟩;obtain⟨X1,N1,g1,e1,H,th⟩:=(H.s [0,2] rfl rfl).fz;refine oG F rfl call124 rfl (ih U c5 _ H (e1 p) g1.ld) (fun a C w ⟨hv,S⟩ F=>?_);subst C;have H:=(th.1 S (fun A hA c hc=>by rw[List.mem_singleton] at hA;subst hA;exact(hT _ c hc).elim)).s [1] rfl rfl;refine oBj F rfl rfl (fun a F=>?_);refine xWy F rfl rfl rfl (fun a F=>?_);refine vM ?_;refine qS ?_;refine⟨(!U.1),U.2,?_,F.sub (sc rfl (sc rfl (sc rfl (sc rfl (sc rfl (sc rfl sn)))))),H⟩;rw[← d]
        cases U.1<;>rfl
       ·
        replace d:=ifF K d;have F:=F.eb 36 rfl K;refine xPx F rfl rfl (fun a F=>?_);refine xPx F rfl rfl (fun a F=>?_);refine xPx F rfl rfl (fun a F=>?_);refine xPx F rfl rfl (fun a F=>?_);refine xPx F rfl rfl (fun a F=>?_);refine xOz F rfl rfl rfl (fun a F=>?_);refine vM ?_;refine qS ?_;exact⟨false,s,d,F.sub (sc rfl (sc rfl (sc rfl (sc rfl (sc rfl (sc rfl sn)))))),(H.s [2] rfl rfl)⟩
      ·
       intro a w ⟨b,s',d,F,H⟩;refine qS ?_;refine oAb F rfl (fun W=>?_) (fun W=>?_)
       ·
        rw[if_pos W] at d;refine oO ?_;refine vL ?_;refine kV F rfl rfl (fun a F=>?_);refine vM ?_;refine qS ?_;refine mN ?_;refine xLp ?_;refine rB ?_;refine rB ?_;replace d:=oBr d a1;refine xLp ?_;refine rB ?_;replace d:=oAr d a0;refine rB ?_;refine tB F rfl (xMj F rfl) ?_;obtain rfl:=oj d;exact⟨_,rfl,rfl,H⟩
       ·
        rw[if_neg (by simp [W])] at d;refine eK ?_;refine xLn ?_;refine qS ?_;refine vL ?_;refine xVa F rfl rfl rfl m1 (fun a F=>?_);refine kD F rfl rfl (fun a F=>?_);refine vM ?_;refine qS ?_;replace d:=oBb d a1;exact⟨_,Nat.lt_succ_self _,D+1,s',(by omega),d,F.sub (sc rfl (sc rfl (sc rfl (sc rfl (sc rfl sn))))),H⟩
   ·
    rintro a w ⟨s,rfl,F,H⟩
    have d:=xOi a0;refine qS ?_;refine oO ?_;refine vL ?_;refine kV F rfl rfl (fun a F=>?_);refine vM ?_;refine qS ?_;refine mN ?_;refine tB F rfl (xMj F rfl) ?_;obtain rfl:=oj d;exact⟨_,rfl,rfl,H⟩
def bI (b:Nat) (l:List Int):As:=exA (fun v=>pr (bx b [v] 36) (rl 1 xG 2 v l)) (fun _ _ h=>h.elim id id)
theorem xTz (b:Nat):Yld (bI b) (fun a _=>some (false,a)) 125 [xU b]:=by
  intro d s r e X N W c H;refine uW (L:=[(0,c),(1,xU b)]) func125 rfl rfl rfl (sc rfl (sc rfl sn)) (fun a F=>?_);obtain⟨v,H⟩:=(H.s [1,0] rfl rfl).exE;have H:=H.um;refine oO ?_;refine vL ?_;refine kV F rfl rfl (fun a F=>?_);refine vM ?_;refine qS ?_;refine oO ?_;refine vL ?_;refine kD F rfl rfl (fun a F=>?_);refine oW sizeOf36 F rfl rfl rfl H (H.l 2 rfl).one rfl rfl (fun w H=>?_);refine vM ?_;refine qS ?_;refine oO ?_;refine vL ?_;refine kV F rfl rfl (fun a F=>?_);refine vM ?_;refine qS ?_;refine mN ?_;refine tB F rfl (xMj F rfl) ?_;obtain rfl:=oj e;exact⟨_,rfl,rfl,Sep.exI (f:=fun v=>pr (bx b [v] 36) (rl 1 xG 2 v d)) (b:=c) (H.s [0,2] rfl rfl).mg⟩
end Go.Proofs.YtlommebgedmjdaaGreatDoor
namespace Go.Proofs.YtlommebgedmjdaaGreatDoor
open Go.Proofs.Tryz
set_option linter.unusedVariables false
set_option linter.unusedSimpArgs false
set_option maxRecDepth 100000
open Go.RowKit
def bR (d:Template) (c:Int) (e:List Atom):Option solver:=
 xK (mkz ([]:List Atom) c) fun z=>
 vC (σ:=List (List Atom)) (
  oM (σ:=List (List Atom)) (ρ:=solver) (fun (k:Nat) (a:Atom) (s:List (List Atom))=>
   xK (zT a.args) fun m=>
   xK (ix s m) fun y=>
   xK (ap y [a]) fun u=>
   some (.go (s.set m.toNat u))) e 0 z) fun s=>
 some (solver.mk d c s)
theorem xDo {B:Nat→Prop} {i:Template} {f:Int} {I:List Atom} (r:solver) (d:bR i f I=some r) {S O:Value} (C:World) (hN:∀ c,B c→c<C.heap.size) (A0:Bo B C (qG 2 xA) S i) (a5:xH f) (T:Bo B C (Sl 2 xM) O I) :
    Calls Tryz.prog 122 #[S,xI f,O] C (Gv (fun v w'=>∃ (Q:Value),v=Q∧Sep [] B C w' [ro B (V:=Pt 4 qZ) Q r])):=by
  unfold bR at d
  obtain⟨E,rfl,is,hr⟩:=xA.o A0;refine uW (L:=[(0,.agg #[xI i.size,E]),(1,xI f),(2,O)]) func122 rfl rfl rfl (sc rfl (sc rfl (sc rfl sn))) (fun a F=>?_);have H:=Sep.start hN;refine oO ?_;refine vL ?_;refine oX F rfl rfl (cs:=[xI i.size,E]) rfl H (fun a w b3 H F=>?_);refine kV F rfl rfl (fun a F=>?_);refine vM ?_;refine qS ?_;refine oO ?_;obtain⟨z,cz,d⟩:=fE d
  obtain⟨n0,a6,rfl⟩:∃ n:Nat,mkz (Value.slice none 0 0) f=some (List.replicate n cL)∧z=List.replicate n []:=by
    obtain⟨q1,q2,q3⟩:=xMr cz;exact⟨f.toNat,by unfold mkz;rw[if_pos ⟨q1,q2⟩],q3⟩
  refine xBm (fun a w=>∃ (j:Nat) (vd:Value),Sk a 44 [(7,xU j),(2,O)]∧Sep [] B C w (rl 1 wJ 70 vd (List.replicate n0 cL)::bx j [xI i.size,E,xI f,vd] 212::[])) ?_ ?_
  · obtain⟨w1,rfl⟩:∃ x,x=w:=⟨_,rfl⟩
    obtain⟨U,N1,G,W,H,th⟩:=H.fz;have K3:=G.bk;refine xDa H (fun w H=>?_);refine xHg 0 rfl ?_;refine vBA isAgg26 sizeOf26 F rfl rfl (K3.v H.sm) rfl rfl (fun a F=>?_);refine xQo 1 rfl ?_;refine xBk F rfl rfl (fun a F=>?_);refine xQo 2 rfl ?_;refine xBk F rfl rfl (fun a F=>?_);refine xEa H 3 rfl ?_;refine oRM (sz:=1) (R:=wJ) (z:=.slice none 0 0) (bytes:=24) nD (by kernel_rfl) rfl (by decide) (by decide) (fun w=>⟨rfl,rfl,rfl⟩) F rfl rfl rfl a6 H (fun a w vd H F=>?_);refine vM ?_;refine qS ?_;refine⟨⟨_,H⟩,?_⟩;refine xEa H 4 rfl ?_;refine xTo (cs:=#[xI i.size,E,xI f,vd]) (qs:=[(0,[xI i.size,E]),(2,[xI f]),(3,[vd])]) underlying212 zeroValue212 (fun w=>by simp [sizeOf2,sizeOf26,sizeOf210];rfl) F rfl rfl rfl rfl rfl ⟨rfl,rfl,Nat.le_of_ble_eq_true rfl,⟨rfl,rfl,Nat.le_of_ble_eq_true rfl,⟨(xIc (H.l 0 rfl).one),rfl,Nat.le_of_ble_eq_true rfl,trivial⟩⟩⟩ rfl (fun a F=>?_);refine vM ?_;refine qS ?_;refine⟨⟨_,H⟩,?_⟩;refine xEa H 5 rfl ?_;refine oX F rfl rfl (cs:=[xI i.size,E,xI f,vd]) rfl H (fun a w j H F=>?_);refine vM ?_;refine qS ?_;refine⟨⟨_,H⟩,?_⟩;refine xEa H 6 rfl ?_;refine kV F rfl rfl (fun a F=>?_);refine vM ?_;refine qS ?_;refine⟨⟨_,H⟩,?_⟩;refine xXm ?_;exact⟨j,vd,F.sub (sc rfl (sc rfl sn)),(th.1 H (Ns.all ⟨Go.Proofs.YtlommebgedmjdaaGreatDoor.n0,Go.Proofs.YtlommebgedmjdaaGreatDoor.n0,trivial⟩)).s [2,1] rfl rfl⟩
  · intro a w ⟨j,vd,F,H⟩
    refine qS ?_;have H:Sep [] B C w (rl 1 wJ 70 vd (List.replicate n0 cL)::bx j [xI i.size,E,xI f,vd] 212::mI B 2 xM 120 (List.replicate n0 cL) (List.replicate n0 [])):=(H.nils 2 xM 120 n0).comm;refine oO ?_;refine oO ?_;refine vL ?_;refine kD F rfl rfl (fun a F=>?_);refine oL lO F rfl rfl T (fun a X F=>?_);refine kD F rfl rfl (fun a F=>?_);refine vM ?_;refine qS ?_;obtain⟨Z,d,a4⟩:=uC d;refine xBm (fun a w=>∃ (s:List (List Atom)) (us:List Value),Z= .nx s∧us.length=s.length∧Sk a 44 [(7,xU j)]∧Sep [] B C w (rl 1 wJ 70 vd us::bx j [xI i.size,E,xI f,vd] 212::mI B 2 xM 120 us s)) ?_ ?_
    · refine lM ?_
      obtain⟨a7,a8,d⟩:=xTf d;refine xBs (fun g a w=>∃ (K:Nat) (N:List Atom) (s:List (List Atom)) (us:List Value),(K≤I.length∧I.drop K=N)∧N.length=g∧oM a7 N K s=some Z∧us.length=s.length∧Sk a 44 [(19,xI (K:Int)),(7,xU j),(17,O),(18,xI (I.length:Int))]∧Sep [] B C w (rl 1 wJ 70 vd us::bx j [xI i.size,E,xI f,vd] 212::mI B 2 xM 120 us s)) I.length ?_ ?_
      · exact⟨0,I,_,_,⟨Nat.zero_le _,rfl⟩,rfl,d,by simp,F.sub (sc rfl (sc rfl (sc rfl (sc rfl sn)))),H⟩
      intro g2 a w ⟨K,N,s,us,t,a9,d,hus,F,H⟩
      cases N with
      | nil=>
        replace d:=xRk d;have q4:=xRy t.1 t.2;have P:=qC q4;refine oO ?_;refine vL ?_;refine xFk F rfl rfl rfl (fun a F=>?_);refine vM ?_;refine qS ?_;refine oO ?_;refine xIn F rfl P ?_;refine yC ?_;refine xEb ?_;refine xEb ?_;refine xNo ?_;refine qS ?_;exact⟨s,us,(ojs d),hus,F.sub (sc rfl sn),H⟩
      | cons x3 N=>
        subst a9;replace t:=xQy t.2;have y4:=zO t.2.1;obtain⟨ar,d,aa⟩:=xHs d;rw[a8] at d;have P:=xW t.1;refine oO ?_;refine vL ?_;refine xFk F rfl rfl rfl (fun a F=>?_);refine vM ?_;refine qS ?_;refine oO ?_;refine xOl F rfl P ?_;refine eK ?_;refine qS ?_;refine oO ?_;have j1:=jZ (Nat.le_of_lt t.1) X;have m1:=vK t.1 X;refine lM ?_;refine oO ?_;refine vL ?_;refine oI lO mO F rfl rfl rfl T y4 (fun a p1 h1 F=>?_);refine olA isAgg120 mO F rfl rfl H.sm h1 (fun a va ha F=>?_);obtain⟨va1,rfl,ia,hargs⟩:=xM.o ha;refine oA zeroValue120 F rfl rfl H (fun a w b9 H F=>?_);refine oWA (vs:=[xI x3.rel,va1]) mO F rfl rfl rfl H (oc rfl (oc hargs.one on)) rfl rfl (fun w H=>?_);refine vM ?_;refine qS ?_;refine oO ?_;refine vL ?_;refine xKh xOg F rfl rfl rfl (fun a F=>?_);refine oB isAgg36 F rfl rfl (H.b 0 rfl) rfl (fun a F=>?_);obtain⟨m,cm,d⟩:=fE d;refine oKI F rfl call173 rfl H ((pR m cm _ aA (H.a hargs)).mono fun e w' h=>⟨xDj.of_gt h.2,h.1⟩) (fun a w H im F=>?_);refine kV F rfl rfl (fun a F=>?_);refine vM ?_;refine qS ?_;obtain⟨y,cy,d⟩:=fE d;obtain⟨u',cu,d⟩:=fE d;obtain⟨hm0,hy⟩:=xEf cy
        have hml:m.toNat<us.length:=by rw[hus];exact(List.getElem?_eq_some_iff.1 hy).1
        obtain⟨u,hu⟩:∃ u,us[m.toNat]?=some u:=⟨_,List.getElem?_eq_getElem hml⟩
        have hix:ix us m=some u:=by unfold ix;rw[if_pos hm0];exact hu
        obtain⟨W,e2⟩:=xNb (M:=B) (sz:=2) (R:=xM) (E2:=120) hu hy;have SB:=H.sm;obtain⟨w1,rfl⟩:∃ x,x=w:=⟨_,rfl⟩;obtain⟨U,N1,G,ee,H,th⟩:=H.mg.mg.fz;have K9:=G.l.l.bk;have hvd:=G.l.r.ld;have K7:=G.r.bk;rw[W] at H;have H:=H.comm;refine xBm (fun a w=>Sk a 44 [(19,xI (K:Int)),(7,xU j),(17,O),(18,xI (I.length:Int))]∧∃ us',us'.length=(s.set m.toNat u').length∧Sep [] B C w (rl 1 wJ 70 vd us'::bx j [xI i.size,E,xI f,vd] 212::mI B 2 xM 120 us' (s.set m.toNat u'))) ?_ ?_
        · refine xDa H (fun w H=>?_)
          refine xQo 0 rfl ?_;refine xBk F rfl rfl (fun a F=>?_);refine xHg 1 rfl ?_;refine xFs F rfl rfl (fun a F=>?_);refine xHg 2 rfl ?_;refine gP F rfl (fun w l=>xAl xIu F rfl rfl) (fun a F=>?_);refine xHg 3 rfl ?_;refine vB isAgg210 F rfl rfl (K7.v H.sm) rfl (fun a F=>?_);refine xQo 4 rfl ?_;refine xBk F rfl rfl (fun a F=>?_);refine xQo 5 rfl ?_;refine xBk F rfl rfl (fun a F=>?_);refine xHg 6 rfl ?_;refine xFs F rfl rfl (fun a F=>?_);refine xHg 7 rfl ?_;refine gP F rfl (fun w l=>xAl xIu F rfl rfl) (fun a F=>?_);refine xHg 8 rfl ?_;refine vB isAgg210 F rfl rfl (K7.v H.sm) rfl (fun a F=>?_);refine xQo 9 rfl ?_;refine xBk F rfl rfl (fun a F=>?_);refine xHg 10 rfl ?_;refine vI nD pP F rfl rfl rfl hvd hix (fun a p hp F=>?_);refine xHg 11 rfl ?_;refine gP F rfl (fun w' l=>xZv isAgg70 F rfl hp w' (H.sm.trans l)) (fun a F=>?_);refine xHg 12 rfl ?_;refine vBA isAgg120 mO F rfl rfl (K9.v H.sm) rfl rfl (fun a F=>?_);refine xEa H 13 rfl ?_;refine oR1 (R:=xM) (y:=x3) (N1:=B) lO mO zeroValue120 rfl rfl F rfl rfl H th.2.2 (Eo.agg (xM.m ia (hargs.to (SB.trans (H.sm.mono th.2.2))))) (fun a w v' H F=>?_);refine vM ?_;refine qS ?_;refine⟨⟨_,H⟩,?_⟩;refine xEa H 14 rfl ?_;refine oP (sz:=2) (R:=xM) (z:=(.agg #[xI 0,.slice none 0 0])) (bytes:=32) lO (by kernel_rfl) rfl rfl F rfl rfl rfl H.sw cu (fun a w v'' H F=>?_);refine vM ?_;refine qS ?_;refine⟨⟨_,H⟩,?_⟩;refine xEa H 15 rfl ?_;obtain⟨Y,⟨Ya,Yb,⟨Yc,Yd,_,⟨rb,ib,r1,_,r2,r3⟩,_,y1,y2⟩,_,_,y3,_⟩,hY,_⟩:=G;have ab:=r1.keep (fun c hc=>H.sm.blk c (hY c (y3 c (y2 c (r2 c hc))))) (fun c hc=>H.sm.blk c (hY c (y3 c (y2 c (r3 c hc))))) H.fr.size;refine xLz nD pP F rfl rfl rfl ab hix (fun a p2 bi _ _ ac F=>?_);refine vM ?_;refine qS ?_;refine⟨⟨_,H⟩,?_⟩;refine b_e 16 rfl (by kernel_rfl) ?_;have hone:=(H.r 0 rfl).one;have hev:=Eo.val (H.r 0 rfl)
          have H:=th.1 H (fun A hA c hc=>by
            rcases List.mem_cons.1 hA with rfl | hA
            · exact hc
            · rcases List.mem_append.1 hA with hA | hA
              · exact xUf A hA c hc
              · exact xUf A hA c hc)
          have H:=H.um.um.sw.lw;refine oS (N1:=N0) pP F rfl rfl rfl H ac hml hev hone rfl (fun w H=>?_);refine vM ?_;refine qS ?_;refine⟨.inr (by kernel_rfl),?_⟩;refine xXm ?_;have H:=H.tl.sw.dp;refine⟨F.sub (sc rfl (sc rfl (sc rfl (sc rfl sn)))),us.set m.toNat v'',by simp [hus],?_⟩;rw[e2];exact Sep.back (D:=[_,_]) H
        · intro a w ⟨F,us',hus',H⟩
          refine xLn ?_;refine qS ?_;refine vL ?_;refine xVa F rfl rfl rfl m1 (fun a F=>?_);refine kD F rfl rfl (fun a F=>?_);refine vM ?_;refine qS ?_;replace d:=oBb d aa;exact⟨_,Nat.lt_succ_self _,K+1,N,_,us',⟨t.1,t.2.2⟩,rfl,d,hus',F.sub (sc rfl (sc rfl (sc rfl (sc rfl sn)))),H⟩
    · rintro a w ⟨s,us,rfl,hus,F,H⟩
      have d:=xOi a4;refine qS ?_;refine oO ?_;refine vL ?_;refine kD F rfl rfl (fun a F=>?_);refine kV F rfl rfl (fun a F=>?_);refine vM ?_;refine qS ?_;refine mN ?_;refine tB F rfl (xMj F rfl) ?_;obtain rfl:=oj d;have H:=Sep.zrow (D:=[_]) hus (fun _ h=>h) (H.sw.comm (L1:=[_]));obtain⟨U,N1,G,ee,H,th⟩:=H.mg.fz;have H:=H.rob (qZ.b G.r.bk is (ee hr) a5 G.l.rd);exact⟨_,rfl,_,rfl,th.2.1 H (Ns.all trivial)⟩
theorem tP {B:Nat→Prop} {i:Template} {f:Int} {j:List Atom} (r:solver) (z:bR i f j=some r) {p t:Value} (d:World) (hN:∀ c,B c→c<d.heap.size) (A:Bo B d (qG 2 xA) p i) (y:xH f) (C:Bo B d (Sl 2 xM) t j) :
    Calls Tryz.prog 122 #[p,xI f,t] d (Gt B d [] (.v fun h=>.st h fun D=>ro B (V:=Pt 4 qZ) h r::D)):=
  (xDo r z d hN A y C).mono fun e w' ⟨v,E,F,G,H⟩=>⟨F,E.trans (congrArg _ G),H,fun _=>rfl⟩
end Go.Proofs.YtlommebgedmjdaaGreatDoor
