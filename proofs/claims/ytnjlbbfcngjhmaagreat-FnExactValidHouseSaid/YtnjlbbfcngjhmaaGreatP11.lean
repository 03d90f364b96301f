import Derived.Test.YtnjlbbfcngjhmaaGreatP10
namespace Go.Proofs.YtnjlbbfcngjhmaaGreat
set_option linter.unusedVariables false
set_option linter.unusedSimpArgs false
set_option maxHeartbeats 1000000
set_option maxRecDepth 100000
open Go.RowKit
def gL (N:Nat) (c:B6):Option ((List B0)×Bool):= oZ (σ:=Bool) (xG (zD (A6.mk c.template.size c.template.rels)) λf=>if (!f) then  some (.nx true) else  xG (aU (c.jobs.length:Int) 1 4) λh=>if (!h) then  some (.nx true) else  xG (aU c.clerks 1 3) λi=>some (.nx (!i))) λj=>if j then some ([],false) else oZ (σ:=List B0) (oM (λy (e:A7) p=>xG (lZ N (A6.mk c.template.size c.template.rels) (A7.mk e.vars e.cons)) λd=>if (d.2.2 != 0) then some (.ret ([],false)) else xG (ap p ([(B0.mk d.2.1.kind d.2.1.values d.2.1.arcs d.2.1.pairs d.2.1.numbers)])) λt=>some (.go t)) c.jobs 0 []) λx=>some (x,true)
theorem xIp {B:Nat->Prop} {N c} (r) (M:gL N c=some r) {h} (i) (hN:HN B i) (O:Bo B i (qS 4 vP) h c):CG B i 14 #[h] (.v λy=>.st (.tuple #[y,.bool r.2]) λD=>rw B 5 kM 62 y r.1::D):=by
 unfold gL at M
 revert r
 refine vM Tryz.func14 [(0,h)] hN λr=>?_;refine xI ?_;obtain⟨z,j,rfl,A,C,p,K⟩:=vP.o O;refine jX e2 λd=>jA 2 rfl (nE ?_);refine qZ (λP=>.st [(1,oK d),(26,.bool P)] [bx d [xA c.template.size,z,j,xA c.clerks] 35]) ?_ (λ_=>?_)
 ·
  refine lP (xZ e2 (aG 0 e3 (jB λQ L=>?_)));refine jk (λH=>fY Q L _ aA (xB.m A (H.a C))) (jA 2 rfl (fD 14 (λ_=>?_) (λ_=>?_)))
  ·refine xC 12 rfl ?_;exact jf ls
  refine xZ e2 (jb 0 e3 (jL p λR=>jB λS T=>(jk (λH=>bP S T _ aA R zL uC) (jA 3 rfl (fD 21 (λ_=>?_) (λ_=>?_))))))
  ·refine xC 5 rfl ?_;exact jf ls
  refine xZ e2 (jb 0 e3 (jB λU W=>(jk (λH=>bP U W _ aA K zL lL) (xC 2 rfl ?_))));exact jf ls
 refine eD (xT ?_ ?_)
 ·refine xI (oE 2 rfl (jh (λH=>H.nl 5 kM 62) (jh (λH=>H.lw) (jh (λH=>H.wk) (js [0] rfl ?_)))));exact j2 (rt rfl) (rt rfl) ⟨_,lv⟩
 refine qR (jR0 kM λv3=>xK 1 rfl (xZ e2 (jb 1 e3 (jL p λE=>xC 1 rfl (qZ (λX=>.v λt=>.st [(4,t)] [rw B 5 kM 62 t X]) ?_ (λ_ t=>?_))))))
 ·
  refine zK (jh (λH=>H.lw) (jh (λH=>H.wk) ?_));refine jl (λF G=>.v λx=>.st [(31,xA (F:Int)),(1,oK d),(4,x),(29,j),(30,xA (c.jobs.length:Int))] [rw B 5 kM 62 x G,bx d [xA c.template.size,z,j,xA c.clerks] 35]) ⟨_,ls⟩ (λ_ G _ Y x=>?_) (λF x1 _ f Z _=>?_)
  ·have l1:=oU Y;refine xI (xW 1 rfl (kJ l1 (xN (js [0] rfl ?_))));exact jf ⟨_,ls⟩
  refine xI (xW 1 rfl (kO (xX f) (xY ?_)));have j1:=dS (Ah f) E;refine qE (jI p Z λ_ h3=>jlA h3 λ_ h4=>aK rfl (λ_=>?_));obtain⟨v6,rfl,i4,I⟩:=xH.o h4;refine zX (hv:=(λH=>oc rfl (oc (H.a I).one on))) e3 (qW (xZ e2 (aG 2 e3 (aG 0 e3 (jB λz4 c3=>?_)))));refine jk (λH=>xHf z4 c3 _ H.hN (xB.m A (H.u C)) (xH.m i4 (H.u I))) λv7 v8 v9 a8 _ i5 _=>jA 4 rfl (aK rfl λ_=>jo rfl ?_);refine zX (hv:=(λH=>oc rfl (oc (H.ro 1 rfl).one (oc (H.l 2 rfl).one (oc (H.l 3 rfl).one (oc (H.l 4 rfl).one on)))))) e3 (xK 1 rfl (xC 2 rfl (xT ?_ ?_)))
  ·refine xI (jA 2 rfl (rO (fZ (zR (fH (lD (jh (λH=>H.nl 5 kM 62) (jh (λH=>H.lw) (jh (λH=>H.wk) (js [0] rfl ?_))))))))));exact j2 (rt rfl) (rt rfl) ⟨_,lv⟩
  refine xUh (jo rfl (aG 0 e3 (js [1,2,3,4,0,5,6,7] rfl (jh (λH=>H.mg) (jh (λH=>H.mg) (jh (λH=>H.mg) ?_))))));refine oKf (N1:=B) n1 (nel (nel (nel n1 n0) n0) n0) (λH=>λe q=>(Eo.agg (kM.m i5 q.l.l.l.rod q.l.l.r.ld q.l.r.ld q.r.ld))) λ_=>jB λz5 c4=>(js [3,0,1,2,4] rfl (jP c4 λa9=>kZ 1 rfl (xU (qG f E) (xC 1 rfl (js [0,3] rfl ?_)))));exact jg ⟨_,ls⟩
 refine oO (xS 3 rfl ?_);exact j2 (rt rfl) (rt rfl) ⟨_,lv⟩
def iW (N:Nat) (c:B6):Option Bool:= xG (gL N (B6.mk (A6.mk c.template.size c.template.rels) c.jobs c.clerks)) λd=>some d.2
theorem xFo {B:Nat->Prop} {N e} (r) (h:iW N e=some r) {c} (d) (hN:HN B d) (i:Bo B d (qS 4 vP) c e):CG B d 7 #[c] (.st (.bool r) λD=>D):=by
 unfold iW at h
 revert r
 refine vM Tryz.func7 [(0,c)] hN λr=>?_;refine xI ?_;obtain⟨z,A,rfl,j,p,t,f⟩:=vP.o i;refine jX e2 λ_=>xM 1 rfl (aG 0 e3 (jB λx y=>?_));refine jk (λH=>xIp x y _ H.hN (vP.m j (H.u p) (H.u t) f)) λ_=>xM 5 rfl (xS 2 rfl ?_);exact qT (rt rfl) lv
end Go.Proofs.YtnjlbbfcngjhmaaGreat
