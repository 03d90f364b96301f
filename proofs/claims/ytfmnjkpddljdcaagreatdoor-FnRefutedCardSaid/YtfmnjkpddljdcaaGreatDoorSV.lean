import Derived.Test.YtfmnjkpddljdcaaGreatDoorS2
namespace Go.Proofs.YtfmnjkpddljdcaaGreatDoor
set_option linter.unusedVariables false
set_option linter.unusedSimpArgs false
set_option maxRecDepth 100000
open Go.RowKit
def fS {σ:Type} (y:List Int→σ→Option (Bool×σ)):Nat→solver→(List Int)→σ→Option (Bool×σ)
  | 0,_,_,_=>none
  | N+1,c,d,f=>
  if ((d.length:Int)==c.vars) then
   xY (zE d) fun i=>
   y i f
  else
   kY (σ:=σ) (
    eJ (σ:=σ) (ρ:=Bool×σ) (fun (j:Nat) (s:σ)=>
      xY (bX d) fun n=>
      xY (ap n ([(j:Int)])) fun h=>
      xY (dK N c h) fun p=>
      if p then xY (fS y N c h s) fun e=>
        if e.1 then some (.go e.2) else some (.ret (false,e.2))
      else some (.go s)) c.t.size.toNat 0 f) fun s=>
   some (true,s)
def Yld {σ:Type} (T:σ→As) (y:List Int→σ→Option (Bool×σ)) (f:FuncId) (e:List Value):Prop:=
  ∀ (c:List Int) (s:σ) (r:Bool×σ),y c s=some r→∀ {X:List Nat} {N:Nat→Prop} (W:World) (d:Value),Sep X N W W [rl 1 xM 2 d c,T s]→Calls Tryz.prog f ([d]++e:List Value).toArray W (Gv (fun v w'=>v= .bool r.1∧Sep X N W w' [T r.2]))
set_option maxHeartbeats 1000000 in
theorem xFa {σ:Type} {T:σ→As} (hT:∀ s c,¬ (T s).N c) {y:List Int→σ→Option (Bool×σ)} {h:FuncId} {D:List Value} (a1:∀ args w,(callFunc h args).run Tryz.prog w= .ok (.enter h args) w) (a2:Yld T y h D):∀ (N:Nat) {B:Nat→Prop} {f:solver} {J:List Int} {G:σ} (r:Bool×σ) (d:fS y N f J G=some r) {p:Value} {C:Value} {X:List Nat} (e:World) (H:Sep X B e e [T G]) (i:Bo B e (Pt 4 aU) p f) (K:Bo B e (Sl 1 xM) C J),Calls Tryz.prog 80 #[p,C,.func (.func h) #[] D.toArray] e (Gv (fun v w'=>v= .bool r.1∧Sep X B e w' [T r.2])):=by
  intro N
  induction N with
  | zero=>intro B f J G r d;unfold fS at d;cases d
  | succ N ih=>
  intro B f J G r d p C X e H i K;rw[fS] at d;refine xW (L:=[(0,p),(1,C),(2,.func (.func h) #[] D.toArray)]) Tryz.func80 rfl rfl rfl (sc rfl (sc rfl (sc rfl sn))) (fun a F=>?_);refine xG ?_;refine oO ?_;refine xA 1 F rfl fun a F=>?_;refine vP ?_;refine xH ?_;refine xG ?_;refine xG ?_;refine oO ?_;refine xA 1 F rfl fun a F=>?_;refine oL xC F rfl rfl K (fun a i1 F=>?_);refine xA 1 F rfl fun a F=>?_;refine oN F rfl rfl i (fun a F=>?_);refine oF (s':=1) xRr F rfl rfl i aU.f1 (fun a p1 h1 F=>?_);refine olI xN F rfl rfl H.sm h1 (fun a i2 F=>?_);refine xA 1 F rfl fun a F=>?_;refine vP ?_;refine xH ?_;refine vK F rfl (fun O=>?_) (fun O=>?_)
  ·
   replace d:=zW O d;refine xG ?_;refine oO ?_;refine xA 1 F rfl fun a F=>?_;refine xA 1 F rfl fun a F=>?_;obtain⟨a3,c1,d⟩:=xB d;refine oG F rfl Tryz.call66 rfl (cE a3 c1 _ aA (H.a K)) (fun a j w ⟨v2,al,S⟩ F=>?_);subst j;have H:=H.r1 S n0;obtain⟨X1,K1,back⟩:=H.lend2;refine oGV F rfl rfl a1 rfl (a2 _ _ _ d _ _ K1) (fun a j w ⟨hv,S⟩ F=>?_);subst j;have H:=back S;refine xA 1 F rfl fun a F=>?_;refine vP ?_;refine xH ?_;refine xP ?_;refine qH ?_;refine xR F rfl (xZ F rfl) ?_;exact⟨_,rfl,rfl,H⟩
  ·
   replace d:=zV O d;refine xT ?_;refine xH ?_;refine xG ?_;refine xG ?_;refine oO ?_;refine xA 1 F rfl fun a F=>?_;refine oN F rfl rfl i (fun a F=>?_);refine oF (s':=2) xLe F rfl rfl i aU.f0 (fun a p2 h2 F=>?_);refine oF (s':=1) sZ F rfl rfl h2 xL.f0 (fun a p3 h3 F=>?_);refine olI xN F rfl rfl H.sm h3 (fun a W F=>?_);refine xA 1 F rfl fun a F=>?_;refine vP ?_;refine xH ?_;obtain⟨Y,d,U⟩:=xV d;refine qG (fun a w=>∃ s,Y= .nx s∧Sk a 44 []∧Sep X B e w [T s]) ?_ ?_
   ·
    refine qM ?_;obtain⟨a4,a5,d⟩:=gW d;refine vT (fun g a w=>∃ (n:Nat) (s:σ),n+g=f.t.size.toNat∧eJ a4 g n s=some Y∧Sk a 44 [(25,xF (n:Int)),(0,p),(1,C),(2,.func (.func h) #[] D.toArray),(24,xF f.t.size)]∧Sep X B e w [T s]) f.t.size.toNat ?_ ?_
    ·
     exact⟨0,G,(Nat.zero_add _),d,F.su,H⟩
    ·
     intro Z a w ⟨n,s,I,d,F,H⟩
     cases Z with
     | zero=>
      replace d:=fJ d;have l1:=mF I;refine xG ?_;refine oO ?_;refine xA 1 F rfl fun a F=>?_;refine vP ?_;refine xH ?_;refine xG ?_;refine aC F rfl l1 ?_;refine vU ?_;refine vV ?_;refine vV ?_;refine bC ?_;refine xH ?_;exact⟨s,(kQ d),F.sub sn,H⟩
     | succ Z=>
      obtain⟨a6,d,V⟩:=fI d;rw[a5] at d;have l1:=iX I;refine xG ?_;refine oO ?_;refine xA 1 F rfl fun a F=>?_;refine vP ?_;refine xH ?_;refine xG ?_;refine aD F rfl l1 ?_;refine xT ?_;refine xH ?_;refine xG ?_;have j1:=xDz I W;have m1:=pK I W;refine qM ?_;refine xG ?_;refine oO ?_;refine xA 1 F rfl fun a F=>?_;refine xA 1 F rfl fun a F=>?_;refine vP ?_;refine xH ?_;refine xG ?_;refine oO ?_;refine xA 1 F rfl fun a F=>?_;obtain⟨z1,c2,d⟩:=xB d;refine oG F rfl Tryz.call117 rfl (pG z1 c2 _ H.hN (H.u K)) (fun a j w ⟨p4,am,S,Q⟩ F=>?_);subst j;have Q:=H.dn Q;have H:=H.r0 S;refine xA 1 F rfl fun a F=>?_;refine iN (R:=xM) (y:=(n:Int)) xC xI qQ rfl rfl F rfl rfl H (Eo.int j1) (fun a w v3 H F=>?_);obtain⟨z2,c3,d⟩:=xB d;refine oPc (z:=(xF 0)) (bytes:=8) xC (by kernel_rfl) rfl (by decide) rfl F rfl rfl rfl (H.a Q) H (H.l 0 rfl) (by simp) c3 (fun a w v4 H F=>?_);refine xA 1 F rfl fun a F=>?_;refine vP ?_;refine xH ?_;refine xG ?_;refine qG (fun a w=>∃ (b:Bool) (s':σ),(if b then (some (.ret (false,s')):Option (Ctl σ (Bool×σ))) else some (.go s'))=some a6∧Sk a 44 [(0,p),(1,C),(2,.func (.func h) #[] D.toArray),(24,xF f.t.size),(25,xF (n:Int)),(42,.bool b)]∧Sep X B e w [T s']) ?_ ?_
      ·
       refine oO ?_;refine xA 1 F rfl fun a F=>?_;refine xA 1 F rfl fun a F=>?_;obtain⟨z3,c4,d⟩:=xB d;refine oK F rfl Tryz.call79 rfl H (pN z3 c4 _ aA (H.a i) (H.l 0 rfl)) (fun a w H F=>?_);refine xA 1 F rfl fun a F=>?_
       rcases zC z3 with E | E
       ·
        replace d:=zW E d;have F:=F.eb 36 rfl E;refine xA 1 F rfl fun a F=>?_;refine xA 1 F rfl fun a F=>?_;refine xA 1 F rfl fun a F=>?_;obtain⟨M,c5,d⟩:=xB d;obtain⟨wf,rfl⟩:∃ x,x=w:=⟨_,rfl⟩;obtain⟨X1,N1,g1,e1,H,th⟩:=(H.s [0,2] rfl rfl).fz;refine oG F rfl Tryz.call80 rfl (ih M c5 _ H (e1 i) g1.ld) (fun a j w ⟨hv,S⟩ F=>?_);subst j;have H:=(th.1 S (fun A hA c hc=>by rw[List.mem_singleton] at hA;subst hA;exact(hT _ c hc).elim)).s [1] rfl rfl;refine xA 1 F rfl fun a F=>?_;refine xA 1 F rfl fun a F=>?_;refine vP ?_;refine xH ?_;refine⟨(!M.1),M.2,?_,F.su,H⟩;rw[← d]
        cases M.1<;>rfl
       ·
        replace d:=zV E d;have F:=F.eb 36 rfl E;refine xA 1 F rfl fun a F=>?_;refine xA 1 F rfl fun a F=>?_;refine xA 1 F rfl fun a F=>?_;refine xA 1 F rfl fun a F=>?_;refine xA 1 F rfl fun a F=>?_;refine xA 1 F rfl fun a F=>?_;refine vP ?_;refine xH ?_;exact⟨false,s,d,F.su,(H.s [2] rfl rfl)⟩
      ·
       intro a w ⟨b,s',d,F,H⟩;refine xH ?_;refine vK F rfl (fun P=>?_) (fun P=>?_)
       ·
        rw[if_pos P] at d;refine xG ?_;refine oO ?_;refine xA 1 F rfl fun a F=>?_;refine vP ?_;refine xH ?_;refine xP ?_;refine zZ ?_;refine qH ?_;refine qH ?_;replace d:=bQ d V;refine zZ ?_;refine qH ?_;replace d:=bR d U;refine qH ?_;refine xR F rfl (xZ F rfl) ?_;obtain rfl:=oj d;exact⟨_,rfl,rfl,H⟩
       ·
        rw[if_neg (by simp [P])] at d;refine xT ?_;refine zG ?_;refine xH ?_;refine oO ?_;refine kO F rfl rfl rfl m1 (fun a F=>?_);refine xA 1 F rfl fun a F=>?_;refine vP ?_;refine xH ?_;replace d:=aB d V;exact⟨_,Nat.lt_succ_self _,n+1,s',(by omega),d,F.su,H⟩
   ·
    rintro a w ⟨s,rfl,F,H⟩
    have d:=oJ U;refine xH ?_;refine xG ?_;refine oO ?_;refine xA 1 F rfl fun a F=>?_;refine vP ?_;refine xH ?_;refine xP ?_;refine xR F rfl (xZ F rfl) ?_;obtain rfl:=oj d;exact⟨_,rfl,rfl,H⟩
def bI (b:Nat) (l:List Int):As:=exA (fun v=>pr (bx b [v] 46) (rl 1 xM 2 v l)) (fun _ _ h=>h.elim id id)
theorem xQe (b:Nat):Yld (bI b) (fun a _=>some (false,a)) 81 [vA b]:=by
  intro d s r e X N W c H;refine xW (L:=[(0,c),(1,vA b)]) Tryz.func81 rfl rfl rfl (sc rfl (sc rfl sn)) (fun a F=>?_);obtain⟨v,H⟩:=(H.s [1,0] rfl rfl).exE;have H:=H.um;refine xG ?_;refine oO ?_;refine xA 1 F rfl fun a F=>?_;refine vP ?_;refine xH ?_;refine xG ?_;refine oO ?_;refine xA 1 F rfl fun a F=>?_;refine oW xU F rfl rfl rfl H (H.l 2 rfl).one rfl rfl (fun w H=>?_);refine vP ?_;refine xH ?_;refine xG ?_;refine oO ?_;refine xA 1 F rfl fun a F=>?_;refine vP ?_;refine xH ?_;refine xP ?_;refine xR F rfl (xZ F rfl) ?_;obtain rfl:=oj e;exact⟨_,rfl,rfl,Sep.exI (f:=fun v=>pr (bx b [v] 46) (rl 1 xM 2 v d)) (b:=c) (H.s [0,2] rfl rfl).mg⟩
end Go.Proofs.YtfmnjkpddljdcaaGreatDoor
