import Derived.Test.YtgnfibiaaipibaaGreatS2
namespace Go.Proofs.YtgnfibiaaipibaaGreat
open Go.Proofs.Tryz
set_option linter.unusedVariables false
set_option linter.unusedSimpArgs false
set_option maxRecDepth 100000
open Go.RowKit
def dY {σ:Type} (y:List Int→σ→Option (Bool×σ)):Nat→solver→(List Int)→σ→Option (Bool×σ)
  | 0,_,_,_=>none
  | N+1,c,d,f=>
  if ((d.length:Int)==c.vars) then
   xY (vS d) fun i=>
   y i f
  else
   vT (σ:=σ) (
    zH (σ:=σ) (ρ:=Bool×σ) (fun (j:Nat) (s:σ)=>
      xY (aD d) fun n=>
      xY (ap n ([(j:Int)])) fun h=>
      xY (bK N c h) fun p=>
      if p then xY (dY y N c h s) fun e=>
        if e.1 then some (.go e.2) else some (.ret (false,e.2))
      else some (.go s)) c.t.size.toNat 0 f) fun s=>
   some (true,s)
def Yld {σ:Type} (T:σ→As) (y:List Int→σ→Option (Bool×σ)) (f:FuncId) (e:List Value):Prop:=
  ∀ (c:List Int) (s:σ) (r:Bool×σ),y c s=some r→∀ {X:List Nat} {N:Nat→Prop} (W:World) (d:Value),Sep X N W W [rl 1 xH 2 d c,T s]→Calls Tryz.prog f ([d]++e:List Value).toArray W (Gv (fun v w'=>v= .bool r.1∧Sep X N W w' [T r.2]))
set_option maxHeartbeats 1000000 in
theorem solver_walk_c {σ:Type} {T:σ→As} (hT:∀ s c,¬ (T s).N c) {y:List Int→σ→Option (Bool×σ)} {h:FuncId} {D:List Value} (a2:∀ args w,(callFunc h args).run Tryz.prog w= .ok (.enter h args) w) (a3:Yld T y h D):∀ (N:Nat) {B:Nat→Prop} {f:solver} {J:List Int} {G:σ} (r:Bool×σ) (d:dY y N f J G=some r) {p:Value} {C:Value} {X:List Nat} (e:World) (H:Sep X B e e [T G]) (i:Bo B e (Pt 4 kF) p f) (K:Bo B e (Sl 1 xH) C J),Calls Tryz.prog 133 #[p,C,.func (.func h) #[] D.toArray] e (Gv (fun v w'=>v= .bool r.1∧Sep X B e w' [T r.2])):=by
  intro N
  induction N with
  | zero=>intro B f J G r d;unfold dY at d;cases d
  | succ N ih=>
  intro B f J G r d p C X e H i K;rw[dY] at d;refine xV (L:=[(0,p),(1,C),(2,.func (.func h) #[] D.toArray)]) func133 rfl rfl rfl (sc rfl (sc rfl (sc rfl sn))) (fun a F=>?_);refine xC ?_;refine xU ?_;refine xA 1 F rfl fun a F=>?_;refine oY ?_;refine xF ?_;refine xC ?_;refine xC ?_;refine xU ?_;refine xA 1 F rfl fun a F=>?_;refine oL underlying25 F rfl rfl K (fun a i1 F=>?_);refine xA 1 F rfl fun a F=>?_;refine oN F rfl rfl i (fun a F=>?_);refine oF (s':=1) fa199_1 F rfl rfl i kF.f1 (fun a p1 h1 F=>?_);refine aN isAgg2 F rfl rfl H.sm h1 (fun a i2 F=>?_);refine xA 1 F rfl fun a F=>?_;refine oY ?_;refine xF ?_;refine qP F rfl (fun O=>?_) (fun O=>?_)
  ·
   replace d:=vR O d;refine xC ?_;refine xU ?_;refine xA 1 F rfl fun a F=>?_;refine xA 1 F rfl fun a F=>?_;obtain⟨a4,c1,d⟩:=xB d;refine oG F rfl call83 rfl (kH a4 c1 _ aA (H.a K)) (fun a j w ⟨v2,am,S⟩ F=>?_);subst j;have H:=H.r1 S n0;obtain⟨X1,K1,back⟩:=H.lend2;refine oGV F rfl rfl a2 rfl (a3 _ _ _ d _ _ K1) (fun a j w ⟨hv,S⟩ F=>?_);subst j;have H:=back S;refine xA 1 F rfl fun a F=>?_;refine oY ?_;refine xF ?_;refine xT ?_;refine oE ?_;refine xS F rfl (oD F rfl) ?_;exact⟨_,rfl,rfl,H⟩
  ·
   replace d:=vQ O d;refine xL ?_;refine xF ?_;refine xC ?_;refine xC ?_;refine xU ?_;refine xA 1 F rfl fun a F=>?_;refine oN F rfl rfl i (fun a F=>?_);refine oF (s':=2) fa199_0 F rfl rfl i kF.f0 (fun a p2 h2 F=>?_);refine oF (s':=1) dA F rfl rfl h2 xI.f0 (fun a p3 h3 F=>?_);refine aN isAgg2 F rfl rfl H.sm h3 (fun a Y F=>?_);refine xA 1 F rfl fun a F=>?_;refine oY ?_;refine xF ?_;obtain⟨Z,d,V⟩:=xK d;refine xX (fun a w=>∃ s,Z= .nx s∧Sk a 44 []∧Sep X B e w [T s]) ?_ ?_
   ·
    refine xW ?_;obtain⟨a5,a6,d⟩:=zG d;refine oU (fun g a w=>∃ (n:Nat) (s:σ),n+g=f.t.size.toNat∧zH a5 g n s=some Z∧Sk a 44 [(25,xG (n:Int)),(0,p),(1,C),(2,.func (.func h) #[] D.toArray),(24,xG f.t.size)]∧Sep X B e w [T s]) f.t.size.toNat ?_ ?_
    ·
     exact⟨0,G,(Nat.zero_add _),d,F.su,H⟩
    ·
     intro g3 a w ⟨n,s,I,d,F,H⟩
     cases g3 with
     | zero=>
      replace d:=vY d;have Q:=kT I;refine xC ?_;refine xU ?_;refine xA 1 F rfl fun a F=>?_;refine oY ?_;refine xF ?_;refine xC ?_;refine qT F rfl Q ?_;refine oM ?_;refine oR ?_;refine oR ?_;refine vH ?_;refine xF ?_;exact⟨s,(vE d),F.sub sn,H⟩
     | succ g3=>
      obtain⟨a7,d,W⟩:=vX d;rw[a6] at d;have Q:=zW I;refine xC ?_;refine xU ?_;refine xA 1 F rfl fun a F=>?_;refine oY ?_;refine xF ?_;refine xC ?_;refine qV F rfl Q ?_;refine xL ?_;refine xF ?_;refine xC ?_;have j1:=k64I I Y;have m1:=bC I Y;refine xW ?_;refine xC ?_;refine xU ?_;refine xA 1 F rfl fun a F=>?_;refine xA 1 F rfl fun a F=>?_;refine oY ?_;refine xF ?_;refine xC ?_;refine xU ?_;refine xA 1 F rfl fun a F=>?_;obtain⟨z1,c2,d⟩:=xB d;refine oG F rfl call161 rfl (slices_Clip_s_int64_int64_c z1 c2 _ H.hN (H.u K)) (fun a j w ⟨p4,an,S,U⟩ F=>?_);subst j;have U:=H.dn U;have H:=H.r0 S;refine xA 1 F rfl fun a F=>?_;refine oR1z (R:=xH) (y:=(n:Int)) underlying25 sizeOf2 zeroValue2 rfl rfl F rfl rfl H (Eo.int j1) (fun a w v3 H F=>?_);obtain⟨z2,c3,d⟩:=xB d;refine oPc (z:=(xG 0)) (bytes:=8) underlying25 (by kernel_rfl) rfl (by decide) rfl F rfl rfl rfl (H.a U) H (H.l 0 rfl) (by simp) c3 (fun a w v4 H F=>?_);refine xA 1 F rfl fun a F=>?_;refine oY ?_;refine xF ?_;refine xC ?_;refine xX (fun a w=>∃ (b:Bool) (s':σ),(if b then (some (.ret (false,s')):Option (Ctl σ (Bool×σ))) else some (.go s'))=some a7∧Sk a 44 [(0,p),(1,C),(2,.func (.func h) #[] D.toArray),(24,xG f.t.size),(25,xG (n:Int)),(42,.bool b)]∧Sep X B e w [T s']) ?_ ?_
      ·
       refine xU ?_;refine xA 1 F rfl fun a F=>?_;refine xA 1 F rfl fun a F=>?_;obtain⟨z3,c4,d⟩:=xB d;refine oK F rfl call132 rfl H (impl_solver_goes_c z3 c4 _ aA (H.a i) (H.l 0 rfl)) (fun a w H F=>?_);refine xA 1 F rfl fun a F=>?_
       rcases qU z3 with E | E
       ·
        replace d:=vR E d;have F:=F.eb 36 rfl E;refine xA 1 F rfl fun a F=>?_;refine xA 1 F rfl fun a F=>?_;refine xA 1 F rfl fun a F=>?_;obtain⟨M,c5,d⟩:=xB d;obtain⟨wf,rfl⟩:∃ x,x=w:=⟨_,rfl⟩;obtain⟨X1,N1,g1,e1,H,th⟩:=(H.s [0,2] rfl rfl).fz;refine oG F rfl call133 rfl (ih M c5 _ H (e1 i) g1.ld) (fun a j w ⟨hv,S⟩ F=>?_);subst j;have H:=(th.1 S (fun A hA c hc=>by rw[List.mem_singleton] at hA;subst hA;exact(hT _ c hc).elim)).s [1] rfl rfl;refine xA 1 F rfl fun a F=>?_;refine xA 1 F rfl fun a F=>?_;refine oY ?_;refine xF ?_;refine⟨(!M.1),M.2,?_,F.su,H⟩;rw[← d]
        cases M.1<;>rfl
       ·
        replace d:=vQ E d;have F:=F.eb 36 rfl E;refine xA 1 F rfl fun a F=>?_;refine xA 1 F rfl fun a F=>?_;refine xA 1 F rfl fun a F=>?_;refine xA 1 F rfl fun a F=>?_;refine xA 1 F rfl fun a F=>?_;refine xA 1 F rfl fun a F=>?_;refine oY ?_;refine xF ?_;exact⟨false,s,d,F.su,(H.s [2] rfl rfl)⟩
      ·
       intro a w ⟨b,s',d,F,H⟩;refine xF ?_;refine qP F rfl (fun P=>?_) (fun P=>?_)
       ·
        rw[if_pos P] at d;refine xC ?_;refine xU ?_;refine xA 1 F rfl fun a F=>?_;refine oY ?_;refine xF ?_;refine xT ?_;refine vJ ?_;refine oE ?_;refine oE ?_;replace d:=zR d W;refine vJ ?_;refine oE ?_;replace d:=zQ d V;refine oE ?_;refine xS F rfl (oD F rfl) ?_;obtain rfl:=oj d;exact⟨_,rfl,rfl,H⟩
       ·
        rw[if_neg (by simp [P])] at d;refine xL ?_;refine qS ?_;refine xF ?_;refine xU ?_;refine qQ F rfl rfl rfl m1 (fun a F=>?_);refine xA 1 F rfl fun a F=>?_;refine oY ?_;refine xF ?_;replace d:=qX d W;exact⟨_,Nat.lt_succ_self _,n+1,s',(by omega),d,F.su,H⟩
   ·
    rintro a w ⟨s,rfl,F,H⟩
    have d:=xN V;refine xF ?_;refine xC ?_;refine xU ?_;refine xA 1 F rfl fun a F=>?_;refine oY ?_;refine xF ?_;refine xT ?_;refine xS F rfl (oD F rfl) ?_;obtain rfl:=oj d;exact⟨_,rfl,rfl,H⟩
def bI (b:Nat) (l:List Int):As:=exA (fun v=>pr (bx b [v] 25) (rl 1 xH 2 v l)) (fun _ _ h=>h.elim id id)
theorem first1_c (b:Nat):Yld (bI b) (fun a _=>some (false,a)) 134 [vK b]:=by
  intro d s r e X N W c H;refine xV (L:=[(0,c),(1,vK b)]) func134 rfl rfl rfl (sc rfl (sc rfl sn)) (fun a F=>?_);obtain⟨v,H⟩:=(H.s [1,0] rfl rfl).exE;have H:=H.um;refine xC ?_;refine xU ?_;refine xA 1 F rfl fun a F=>?_;refine oY ?_;refine xF ?_;refine xC ?_;refine xU ?_;refine xA 1 F rfl fun a F=>?_;refine oW sizeOf25 F rfl rfl rfl H (H.l 2 rfl).one rfl rfl (fun w H=>?_);refine oY ?_;refine xF ?_;refine xC ?_;refine xU ?_;refine xA 1 F rfl fun a F=>?_;refine oY ?_;refine xF ?_;refine xT ?_;refine xS F rfl (oD F rfl) ?_;obtain rfl:=oj e;exact⟨_,rfl,rfl,Sep.exI (f:=fun v=>pr (bx b [v] 25) (rl 1 xH 2 v d)) (b:=c) (H.s [0,2] rfl rfl).mg⟩
end Go.Proofs.YtgnfibiaaipibaaGreat
