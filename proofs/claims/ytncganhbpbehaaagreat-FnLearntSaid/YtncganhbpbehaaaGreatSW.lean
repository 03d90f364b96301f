import Derived.Test.YtncganhbpbehaaaGreatQ0
namespace Go.Proofs.YtncganhbpbehaaaGreat
open Go.Proofs.Tryz
end Go.Proofs.YtncganhbpbehaaaGreat
namespace Go.Proofs.YtncganhbpbehaaaGreat
open Go.Proofs.Tryz
set_option linter.unusedVariables false
set_option linter.unusedSimpArgs false
set_option maxRecDepth 100000
open Go.RowKit
def aI {σ:Type} (y:List Int→σ→Option (Bool×σ)):Nat→solver→(List Int)→σ→Option (Bool×σ)
  | 0,_,_,_=>none
  | N+1,c,d,f=>
  if ((d.length:Int)==c.vars) then
   xZ (vA d) fun i=>
   y i f
  else
   zR (σ:=σ) (
    aS (σ:=σ) (ρ:=Bool×σ) (fun (j:Nat) (s:σ)=>
      xZ (zP d) fun n=>
      xZ (ap n ([(j:Int)])) fun h=>
      xZ (aU N c h) fun p=>
      if p then xZ (aI y N c h s) fun e=>
        if e.1 then some (.go e.2) else some (.ret (false,e.2))
      else some (.go s)) c.t.size.toNat 0 f) fun s=>
   some (true,s)
def Yld {σ:Type} (T:σ→As) (y:List Int→σ→Option (Bool×σ)) (f:FuncId) (e:List Value):Prop:=
  ∀ (c:List Int) (s:σ) (r:Bool×σ),y c s=some r→∀ {X:List Nat} {N:Nat→Prop} (W:World) (d:Value),Sep X N W W [rl 1 xI 2 d c,T s]→Calls Tryz.prog f ([d]++e:List Value).toArray W (Gv (fun v w'=>v= .bool r.1∧Sep X N W w' [T r.2]))
set_option maxHeartbeats 1000000 in
theorem rX {σ:Type} {T:σ→As} (hT:∀ s c,¬ (T s).N c) {y:List Int→σ→Option (Bool×σ)} {h:FuncId} {D:List Value} (a2:∀ args w,(callFunc h args).run Tryz.prog w= .ok (.enter h args) w) (a3:Yld T y h D):∀ (N:Nat) {B:Nat→Prop} {f:solver} {J:List Int} {G:σ} (r:Bool×σ) (d:aI y N f J G=some r) {p:Value} {C:Value} {X:List Nat} (e:World) (H:Sep X B e e [T G]) (i:Bo B e (Pt 4 kU) p f) (K:Bo B e (Sl 1 xI) C J),Calls Tryz.prog 44 #[p,C,.func (.func h) #[] D.toArray] e (Gv (fun v w'=>v= .bool r.1∧Sep X B e w' [T r.2])):=by
  intro N
  induction N with
  | zero=>intro B f J G r d;unfold aI at d;cases d
  | succ N ih=>
  intro B f J G r d p C X e H i K;rw[aI] at d;refine xX (L:=[(0,p),(1,C),(2,.func (.func h) #[] D.toArray)]) func44 rfl rfl rfl (sc rfl (sc rfl (sc rfl sn))) (fun a F=>?_);refine xF ?_;refine xY ?_;refine xA 1 F rfl fun a F=>?_;refine qU ?_;refine xG ?_;refine xF ?_;refine xF ?_;refine xY ?_;refine xA 1 F rfl fun a F=>?_;refine oL underlying41 F rfl rfl K (fun a i1 F=>?_);refine xA 1 F rfl fun a F=>?_;refine oN F rfl rfl i (fun a F=>?_);refine oF (s':=1) xNm F rfl rfl i kU.f1 (fun a p1 h1 F=>?_);refine olI isAgg2 F rfl rfl H.sm h1 (fun a i2 F=>?_);refine xA 1 F rfl fun a F=>?_;refine qU ?_;refine xG ?_;refine qV F rfl (fun O=>?_) (fun O=>?_)
  ·
   replace d:=vX O d;refine xF ?_;refine xY ?_;refine xA 1 F rfl fun a F=>?_;refine xA 1 F rfl fun a F=>?_;obtain⟨a4,c1,d⟩:=xB d;refine oG F rfl call86 rfl (zO a4 c1 _ aA (H.a K)) (fun a j w ⟨v2,am,S⟩ F=>?_);subst j;have H:=H.r1 S n0;obtain⟨X1,K1,back⟩:=H.lend2;refine oGV F rfl rfl a2 rfl (a3 _ _ _ d _ _ K1) (fun a j w ⟨hv,S⟩ F=>?_);subst j;have H:=back S;refine xA 1 F rfl fun a F=>?_;refine qU ?_;refine xG ?_;refine xR ?_;refine oQ ?_;refine xT F rfl (oE F rfl) ?_;exact⟨_,rfl,rfl,H⟩
  ·
   replace d:=vW O d;refine xN ?_;refine xG ?_;refine xF ?_;refine xF ?_;refine xY ?_;refine xA 1 F rfl fun a F=>?_;refine oN F rfl rfl i (fun a F=>?_);refine oF (s':=2) xHv F rfl rfl i kU.f0 (fun a p2 h2 F=>?_);refine oF (s':=1) iD F rfl rfl h2 xH.f0 (fun a p3 h3 F=>?_);refine olI isAgg2 F rfl rfl H.sm h3 (fun a Y F=>?_);refine xA 1 F rfl fun a F=>?_;refine qU ?_;refine xG ?_;obtain⟨Z,d,V⟩:=xM d;refine oH (fun a w=>∃ s,Z= .nx s∧Sk a 44 []∧Sep X B e w [T s]) ?_ ?_
   ·
    refine oJ ?_;obtain⟨a5,a6,d⟩:=dP d;refine qK (fun g a w=>∃ (n:Nat) (s:σ),n+g=f.t.size.toNat∧aS a5 g n s=some Z∧Sk a 44 [(25,xC (n:Int)),(0,p),(1,C),(2,.func (.func h) #[] D.toArray),(24,xC f.t.size)]∧Sep X B e w [T s]) f.t.size.toNat ?_ ?_
    ·
     exact⟨0,G,(Nat.zero_add _),d,F.su,H⟩
    ·
     intro g3 a w ⟨n,s,I,d,F,H⟩
     cases g3 with
     | zero=>
      replace d:=cC d;have Q:=gH I;refine xF ?_;refine xY ?_;refine xA 1 F rfl fun a F=>?_;refine qU ?_;refine xG ?_;refine xF ?_;refine zD F rfl Q ?_;refine qJ ?_;refine qM ?_;refine qM ?_;refine zQ ?_;refine xG ?_;exact⟨s,(zH d),F.sub sn,H⟩
     | succ g3=>
      obtain⟨a7,d,W⟩:=cI d;rw[a6] at d;have Q:=eR I;refine xF ?_;refine xY ?_;refine xA 1 F rfl fun a F=>?_;refine qU ?_;refine xG ?_;refine xF ?_;refine zC F rfl Q ?_;refine xN ?_;refine xG ?_;refine xF ?_;have j1:=uA I Y;have m1:=jB I Y;refine oJ ?_;refine xF ?_;refine xY ?_;refine xA 1 F rfl fun a F=>?_;refine xA 1 F rfl fun a F=>?_;refine qU ?_;refine xG ?_;refine xF ?_;refine xY ?_;refine xA 1 F rfl fun a F=>?_;obtain⟨z1,c2,d⟩:=xB d;refine oG F rfl call90 rfl (lI z1 c2 _ H.hN (H.u K)) (fun a j w ⟨p4,an,S,U⟩ F=>?_);subst j;have U:=H.dn U;have H:=H.r0 S;refine xA 1 F rfl fun a F=>?_;refine cM (R:=xI) (y:=(n:Int)) underlying41 sizeOf2 zeroValue2 rfl rfl F rfl rfl H (Eo.int j1) (fun a w v3 H F=>?_);obtain⟨z2,c3,d⟩:=xB d;refine oPc (z:=(xC 0)) (bytes:=8) underlying41 (by kernel_rfl) rfl (by decide) rfl F rfl rfl rfl (H.a U) H (H.l 0 rfl) (by simp) c3 (fun a w v4 H F=>?_);refine xA 1 F rfl fun a F=>?_;refine qU ?_;refine xG ?_;refine xF ?_;refine oH (fun a w=>∃ (b:Bool) (s':σ),(if b then (some (.ret (false,s')):Option (Ctl σ (Bool×σ))) else some (.go s'))=some a7∧Sk a 44 [(0,p),(1,C),(2,.func (.func h) #[] D.toArray),(24,xC f.t.size),(25,xC (n:Int)),(42,.bool b)]∧Sep X B e w [T s']) ?_ ?_
      ·
       refine xY ?_;refine xA 1 F rfl fun a F=>?_;refine xA 1 F rfl fun a F=>?_;obtain⟨z3,c4,d⟩:=xB d;refine oK F rfl call91 rfl H (mC z3 c4 _ aA (H.a i) (H.l 0 rfl)) (fun a w H F=>?_);refine xA 1 F rfl fun a F=>?_
       rcases vR z3 with E | E
       ·
        replace d:=vX E d;have F:=F.eb 36 rfl E;refine xA 1 F rfl fun a F=>?_;refine xA 1 F rfl fun a F=>?_;refine xA 1 F rfl fun a F=>?_;obtain⟨M,c5,d⟩:=xB d;obtain⟨wf,rfl⟩:∃ x,x=w:=⟨_,rfl⟩;obtain⟨X1,N1,g1,e1,H,th⟩:=(H.s [0,2] rfl rfl).fz;refine oG F rfl call44 rfl (ih M c5 _ H (e1 i) g1.ld) (fun a j w ⟨hv,S⟩ F=>?_);subst j;have H:=(th.1 S (fun A hA c hc=>by rw[List.mem_singleton] at hA;subst hA;exact(hT _ c hc).elim)).s [1] rfl rfl;refine xA 1 F rfl fun a F=>?_;refine xA 1 F rfl fun a F=>?_;refine qU ?_;refine xG ?_;refine⟨(!M.1),M.2,?_,F.su,H⟩;rw[← d]
        cases M.1<;>rfl
       ·
        replace d:=vW E d;have F:=F.eb 36 rfl E;refine xA 1 F rfl fun a F=>?_;refine xA 1 F rfl fun a F=>?_;refine xA 1 F rfl fun a F=>?_;refine xA 1 F rfl fun a F=>?_;refine xA 1 F rfl fun a F=>?_;refine xA 1 F rfl fun a F=>?_;refine qU ?_;refine xG ?_;exact⟨false,s,d,F.su,(H.s [2] rfl rfl)⟩
      ·
       intro a w ⟨b,s',d,F,H⟩;refine xG ?_;refine qV F rfl (fun P=>?_) (fun P=>?_)
       ·
        rw[if_pos P] at d;refine xF ?_;refine xY ?_;refine xA 1 F rfl fun a F=>?_;refine qU ?_;refine xG ?_;refine xR ?_;refine vT ?_;refine oQ ?_;refine oQ ?_;replace d:=kD d W;refine vT ?_;refine oQ ?_;replace d:=zZ d V;refine oQ ?_;refine xT F rfl (oE F rfl) ?_;obtain rfl:=oj d;exact⟨_,rfl,rfl,H⟩
       ·
        rw[if_neg (by simp [P])] at d;refine xN ?_;refine vH ?_;refine xG ?_;refine xY ?_;refine vP F rfl rfl rfl m1 (fun a F=>?_);refine xA 1 F rfl fun a F=>?_;refine qU ?_;refine xG ?_;replace d:=vU d W;exact⟨_,Nat.lt_succ_self _,n+1,s',(by omega),d,F.su,H⟩
   ·
    rintro a w ⟨s,rfl,F,H⟩
    have d:=xW V;refine xG ?_;refine xF ?_;refine xY ?_;refine xA 1 F rfl fun a F=>?_;refine qU ?_;refine xG ?_;refine xR ?_;refine xT F rfl (oE F rfl) ?_;obtain rfl:=oj d;exact⟨_,rfl,rfl,H⟩
def bI (b:Nat) (l:List Int):As:=exA (fun v=>pr (bx b [v] 41) (rl 1 xI 2 v l)) (fun _ _ h=>h.elim id id)
theorem xKd (b:Nat):Yld (bI b) (fun a _=>some (false,a)) 96 [oO b]:=by
  intro d s r e X N W c H;refine xX (L:=[(0,c),(1,oO b)]) func96 rfl rfl rfl (sc rfl (sc rfl sn)) (fun a F=>?_);obtain⟨v,H⟩:=(H.s [1,0] rfl rfl).exE;have H:=H.um;refine xF ?_;refine xY ?_;refine xA 1 F rfl fun a F=>?_;refine qU ?_;refine xG ?_;refine xF ?_;refine xY ?_;refine xA 1 F rfl fun a F=>?_;refine oW sizeOf41 F rfl rfl rfl H (H.l 2 rfl).one rfl rfl (fun w H=>?_);refine qU ?_;refine xG ?_;refine xF ?_;refine xY ?_;refine xA 1 F rfl fun a F=>?_;refine qU ?_;refine xG ?_;refine xR ?_;refine xT F rfl (oE F rfl) ?_;obtain rfl:=oj e;exact⟨_,rfl,rfl,Sep.exI (f:=fun v=>pr (bx b [v] 41) (rl 1 xI 2 v d)) (b:=c) (H.s [0,2] rfl rfl).mg⟩
end Go.Proofs.YtncganhbpbehaaaGreat
namespace Go.Proofs.YtncganhbpbehaaaGreat
open Go.Proofs.Tryz
set_option linter.unusedVariables false
set_option linter.unusedSimpArgs false
set_option maxRecDepth 100000
open Go.RowKit
def bN (b:Nat) (n:Int):As:=exA (β:=PLift (xS n)) (fun _=>bx b [xC n] 2) (fun _ _ h=>h)
theorem xIy (b:Nat):Yld (bN b) (fun _ n=>xZ (ck (n+1)) fun z=>some (true,z)) 45 [oO b]:=by
  intro h s r d X N W e H;refine xX (L:=[(0,e),(1,oO b)]) func45 rfl rfl rfl (sc rfl (sc rfl sn)) (fun a F=>?_);obtain⟨i,H⟩:=(H.s [1,0] rfl rfl).exE;refine xF ?_;refine xY ?_;refine xA 1 F rfl fun a F=>?_;refine qU ?_;refine xG ?_;refine xF ?_;refine xY ?_;refine oB isAgg2 F rfl rfl (H.b 0 rfl) rfl (fun a F=>?_);obtain⟨z,c,d⟩:=xB d;refine cX F rfl rfl rfl c (fun a F=>?_);refine oW sizeOf2 F rfl rfl rfl H rfl rfl rfl (fun w H=>?_);refine qU ?_;refine xG ?_;refine xF ?_;refine xY ?_;refine xA 1 F rfl fun a F=>?_;refine qU ?_;refine xG ?_;refine xR ?_;refine xT F rfl (oE F rfl) ?_;obtain rfl:=oj d;exact⟨_,rfl,rfl,Sep.exI (f:=fun _:PLift (xS z)=>bx b [xC z] 2) (b:=⟨kV c⟩) (H.s [0] rfl rfl)⟩
end Go.Proofs.YtncganhbpbehaaaGreat
