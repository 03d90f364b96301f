import Derived.Test.YticojbhjloeckaaGreatS2
namespace Go.Proofs.YticojbhjloeckaaGreat
open Go.Proofs.Tryz
set_option linter.unusedVariables false
set_option linter.unusedSimpArgs false
set_option maxRecDepth 100000
open Go.RowKit
def solver_walk {σ:Type} (y:List Int→σ→Option (Bool×σ)):Nat→solver→(List Int)→σ→Option (Bool×σ)
  | 0,_,_,_=>none
  | N+1,x0,x1,s0=>
  if ((x1.length:Int)==x0.vars) then
   xX (vM x1) fun z16=>
   y z16 s0
  else
   vO (σ:=σ) (
    vQ (σ:=σ) (ρ:=Bool×σ) (fun(k1:Nat) (s:σ)=>
      xX (kM x1) fun z1=>
      xX (ap z1 ([(k1:Int)])) fun z2=>
      xX (impl_solver_goes N x0 z2) fun z3=>
      if z3 then xX (solver_walk y N x0 z2 s) fun z4=>
        if z4.1 then some (.go z4.2) else some (.ret (false,z4.2))
      else some (.go s)) x0.t.size.toNat 0 s0) fun s=>
   some (true,s)
def Yld {σ:Type} (T:σ→As) (y:List Int→σ→Option (Bool×σ)) (g2:FuncId) (lb2:List Value):Prop:=
  ∀ (a0:List Int) (s:σ) (r:Bool×σ),y a0 s=some r→∀ {X:List Nat} {N:Nat→Prop} (W:World) (u0:Value),Sep X N W W [rl 1 xH 2 u0 a0,T s]→Calls Tryz.prog g2 ([u0]++lb2:List Value).toArray W (Gv (fun v w'=>v= .bool r.1∧Sep X N W w' [T r.2]))
set_option maxHeartbeats 1000000 in
theorem solver_walk_c {σ:Type} {T:σ→As} (hT:∀ s c,¬ (T s).N c) {y:List Int→σ→Option (Bool×σ)} {g2:FuncId} {lb2:List Value} (hg2:∀ args w,(callFunc g2 args).run Tryz.prog w= .ok (.enter g2 args) w) (hp2:Yld T y g2 lb2):∀ (N:Nat) {B:Nat→Prop} {x0:solver} {x1:List Int} {s0:σ} (r:Bool×σ) (hR:solver_walk y N x0 x1 s0=some r) {v0:Value} {v1:Value} {X:List Nat} (w0:World) (H:Sep X B w0 w0 [T s0]) (A0:Bo B w0 (Pt 4 zX) v0 x0) (A1:Bo B w0 (Sl 1 xH) v1 x1),Calls Tryz.prog 111 #[v0,v1,.func (.func g2) #[] lb2.toArray] w0 (Gv (fun v w'=>v= .bool r.1∧Sep X B w0 w' [T r.2])):=by
  intro N
  induction N with
  | zero=>intro B x0 x1 s0 r hR;unfold solver_walk at hR;cases hR
  | succ N ih=>
  intro B x0 x1 s0 r hR v0 v1 X w0 H A0 A1;rw[solver_walk] at hR;refine xV (L:=[(0,v0),(1,v1),(2,.func (.func g2) #[] lb2.toArray)]) func111 rfl rfl rfl (sc rfl (sc rfl (sc rfl sn))) (fun a F=>?_);refine xC ?_;refine xR ?_;refine xA 1 F rfl fun a F=>?_;refine qD ?_;refine xF ?_;refine xC ?_;refine xC ?_;refine xR ?_;refine xA 1 F rfl fun a F=>?_;refine oL underlying30 F rfl rfl A1 (fun a i1 F=>?_);refine xA 1 F rfl fun a F=>?_;refine oN F rfl rfl A0 (fun a F=>?_);refine oF (s':=1) fa190_1 F rfl rfl A0 zX.f1 (fun a p1 h1 F=>?_);refine olI isAgg2 F rfl rfl H.sm h1 (fun a i2 F=>?_);refine xA 1 F rfl fun a F=>?_;refine qD ?_;refine xF ?_;refine qT F rfl (fun hb1=>?_) (fun hb1=>?_)
  ·
   replace hR:=vS hb1 hR;refine xC ?_;refine xR ?_;refine xA 1 F rfl fun a F=>?_;refine xA 1 F rfl fun a F=>?_;obtain⟨z16,c1,hR⟩:=xB hR;refine oG F rfl call106 rfl (kT z16 c1 _ aA (H.a A1)) (fun a vv w ⟨v2,hv1,S⟩ F=>?_);subst vv;have H:=H.r1 S n0;obtain⟨X1,K1,back⟩:=H.lend2;refine oGV F rfl rfl hg2 rfl (hp2 _ _ _ hR _ _ K1) (fun a vv w ⟨hv,S⟩ F=>?_);subst vv;have H:=back S;refine xA 1 F rfl fun a F=>?_;refine qD ?_;refine xF ?_;refine xT ?_;refine oE ?_;refine xO F rfl (oD F rfl) ?_;exact⟨_,rfl,rfl,H⟩
  ·
   replace hR:=vR hb1 hR;refine xL ?_;refine xF ?_;refine xC ?_;refine xC ?_;refine xR ?_;refine xA 1 F rfl fun a F=>?_;refine oN F rfl rfl A0 (fun a F=>?_);refine oF (s':=2) fa190_0 F rfl rfl A0 zX.f0 (fun a p2 h2 F=>?_);refine oF (s':=1) fa35_0 F rfl rfl h2 xG.f0 (fun a p3 h3 F=>?_);refine olI isAgg2 F rfl rfl H.sm h3 (fun a i3 F=>?_);refine xA 1 F rfl fun a F=>?_;refine qD ?_;refine xF ?_;obtain⟨o1,hR,hk1⟩:=xK hR;refine xW (fun a w=>∃ s,o1= .nx s∧Sk a 44 []∧Sep X B w0 w [T s]) ?_ ?_
   ·
    refine xS ?_;obtain⟨fl1,hf1,hR⟩:=zI hR;refine oR (fun g a w=>∃ (k1:Nat) (s:σ),k1+g=x0.t.size.toNat∧vQ fl1 g k1 s=some o1∧Sk a 44 [(25,.int .i64 (k1:Int)),(0,v0),(1,v1),(2,.func (.func g2) #[] lb2.toArray),(24,.int .i64 x0.t.size)]∧Sep X B w0 w [T s]) x0.t.size.toNat ?_ ?_
    ·
     exact⟨0,s0,(Nat.zero_add _),hR,F.su,H⟩
    ·
     intro g3 a w ⟨k1,s,hd64,hR,F,H⟩
     cases g3 with
     | zero=>
      replace hR:=vT hR;have l1:=kZ hd64;refine xC ?_;refine xR ?_;refine xA 1 F rfl fun a F=>?_;refine qD ?_;refine xF ?_;refine xC ?_;refine qV F rfl l1 ?_;refine oO ?_;refine oQ ?_;refine oQ ?_;refine vJ ?_;refine xF ?_;exact⟨s,(Option.some.inj hR).symm,F.sub sn,H⟩
     | succ g3=>
      obtain⟨ck1,hR,hn1⟩:=vU hR;rw[hf1] at hR;have l1:=kE hd64;refine xC ?_;refine xR ?_;refine xA 1 F rfl fun a F=>?_;refine qD ?_;refine xF ?_;refine xC ?_;refine qY F rfl l1 ?_;refine xL ?_;refine xF ?_;refine xC ?_;have j1:=k64I hd64 i3;have m1:=inc64I hd64 i3;refine xS ?_;refine xC ?_;refine xR ?_;refine xA 1 F rfl fun a F=>?_;refine xA 1 F rfl fun a F=>?_;refine qD ?_;refine xF ?_;refine xC ?_;refine xR ?_;refine xA 1 F rfl fun a F=>?_;obtain⟨z1,c2,hR⟩:=xB hR;refine oG F rfl call148 rfl (slices_Clip_s_int64_int64_c z1 c2 _ H.hN (H.u A1)) (fun a vv w ⟨p4,hv2,S,h4⟩ F=>?_);subst vv;have h4:=H.dn h4;have H:=H.r0 S;refine xA 1 F rfl fun a F=>?_;refine oR1z (R:=xH) (y:=(k1:Int)) underlying30 sizeOf2 zeroValue2 rfl rfl F rfl rfl H (Eo.int j1) (fun a w v3 H F=>?_);obtain⟨z2,c3,hR⟩:=xB hR;refine oPc (z:=(.int .i64 0)) (bytes:=8) underlying30 (by kernel_rfl) rfl (by decide) rfl F rfl rfl rfl (H.a h4) H (H.l 0 rfl) (by simp) c3 (fun a w v4 H F=>?_);refine xA 1 F rfl fun a F=>?_;refine qD ?_;refine xF ?_;refine xC ?_;refine xW (fun a w=>∃ (b:Bool) (s':σ),(if b then (some (.ret (false,s')):Option (Ctl σ (Bool×σ))) else some (.go s'))=some ck1∧Sk a 44 [(0,v0),(1,v1),(2,.func (.func g2) #[] lb2.toArray),(24,.int .i64 x0.t.size),(25,.int .i64 (k1:Int)),(42,.bool b)]∧Sep X B w0 w [T s']) ?_ ?_
      ·
       refine xR ?_;refine xA 1 F rfl fun a F=>?_;refine xA 1 F rfl fun a F=>?_;obtain⟨z3,c4,hR⟩:=xB hR;refine oK F rfl call110 rfl H (impl_solver_goes_c z3 c4 _ aA (H.a A0) (H.l 0 rfl)) (fun a w H F=>?_);refine xA 1 F rfl fun a F=>?_
       rcases vG z3 with hb2 | hb2
       ·
        replace hR:=vS hb2 hR;have F:=F.eq (t:=36) rfl (congrArg Value.bool hb2);refine xA 1 F rfl fun a F=>?_;refine xA 1 F rfl fun a F=>?_;refine xA 1 F rfl fun a F=>?_;obtain⟨z4,c5,hR⟩:=xB hR;obtain⟨wf,rfl⟩:∃ x,x=w:=⟨_,rfl⟩;obtain⟨X1,N1,g1,e1,H,th⟩:=(H.s [0,2] rfl rfl).fz;refine oG F rfl call111 rfl (ih z4 c5 _ H (e1 A0) g1.ld) (fun a vv w ⟨hv,S⟩ F=>?_);subst vv;have H:=(th.1 S (fun A hA c hc=>by rw[List.mem_singleton] at hA;subst hA;exact(hT _ c hc).elim)).s [1] rfl rfl;refine xA 1 F rfl fun a F=>?_;refine xA 1 F rfl fun a F=>?_;refine qD ?_;refine xF ?_;refine⟨(!z4.1),z4.2,?_,F.su,H⟩;rw[← hR]
        cases z4.1<;>rfl
       ·
        replace hR:=vR hb2 hR;have F:=F.eq (t:=36) rfl (congrArg Value.bool hb2);refine xA 1 F rfl fun a F=>?_;refine xA 1 F rfl fun a F=>?_;refine xA 1 F rfl fun a F=>?_;refine xA 1 F rfl fun a F=>?_;refine xA 1 F rfl fun a F=>?_;refine xA 1 F rfl fun a F=>?_;refine qD ?_;refine xF ?_;exact⟨false,s,hR,F.su,(H.s [2] rfl rfl)⟩
      ·
       intro a w ⟨b,s',hR,F,H⟩;refine xF ?_;refine qT F rfl (fun hb3=>?_) (fun hb3=>?_)
       ·
        rw[if_pos hb3] at hR;refine xC ?_;refine xR ?_;refine xA 1 F rfl fun a F=>?_;refine qD ?_;refine xF ?_;refine xT ?_;refine vH ?_;refine oE ?_;refine oE ?_;replace hR:=zS hR hn1;refine vH ?_;refine oE ?_;replace hR:=zR hR hk1;refine oE ?_;refine xO F rfl (oD F rfl) ?_;obtain rfl:=Option.some.inj hR;exact⟨_,rfl,rfl,H⟩
       ·
        rw[if_neg (by simp [hb3])] at hR;refine xL ?_;refine qW ?_;refine xF ?_;refine xR ?_;refine qR F rfl rfl rfl m1 (fun a F=>?_);refine xA 1 F rfl fun a F=>?_;refine qD ?_;refine xF ?_;replace hR:=qZ hR hn1;exact⟨_,Nat.lt_succ_self _,k1+1,s',(by omega),hR,F.su,H⟩
   ·
    intro a w ⟨s,ho1,F,H⟩;subst ho1;have hR:=xN hk1;refine xF ?_;refine xC ?_;refine xR ?_;refine xA 1 F rfl fun a F=>?_;refine qD ?_;refine xF ?_;refine xT ?_;refine xO F rfl (oD F rfl) ?_;obtain rfl:=Option.some.inj hR;exact⟨_,rfl,rfl,H⟩
def bI (b:Nat) (l:List Int):As:=exA (fun v=>pr (bx b [v] 30) (rl 1 xH 2 v l)) (fun _ _ h=>h.elim id id)
theorem first1_c (b:Nat):Yld (bI b) (fun a _=>some (false,a)) 112 [.pointer (some ⟨b,0,none⟩)]:=by
  intro a0 s r hR X N W u0 H;refine xV (L:=[(0,u0),(1,.pointer (some ⟨b,0,none⟩))]) func112 rfl rfl rfl (sc rfl (sc rfl sn)) (fun a F=>?_);obtain⟨v,H⟩:=(H.s [1,0] rfl rfl).exE;have H:=H.um;refine xC ?_;refine xR ?_;refine xA 1 F rfl fun a F=>?_;refine qD ?_;refine xF ?_;refine xC ?_;refine xR ?_;refine xA 1 F rfl fun a F=>?_;refine oW sizeOf30 F rfl rfl rfl H (H.l 2 rfl).one rfl rfl (fun w H=>?_);refine qD ?_;refine xF ?_;refine xC ?_;refine xR ?_;refine xA 1 F rfl fun a F=>?_;refine qD ?_;refine xF ?_;refine xT ?_;refine xO F rfl (oD F rfl) ?_;obtain rfl:=Option.some.inj hR;exact⟨_,rfl,rfl,Sep.exI (f:=fun v=>pr (bx b [v] 30) (rl 1 xH 2 v a0)) (b:=u0) (H.s [0,2] rfl rfl).mg⟩
end Go.Proofs.YticojbhjloeckaaGreat
