import Derived.Test.YtnjlbbfcngjhmaaGreatJR
namespace Go.Proofs.YtnjlbbfcngjhmaaGreat
set_option linter.unusedVariables false
set_option linter.unusedSimpArgs false
set_option maxRecDepth 100000
open Go.RowKit
theorem Sep.owr {X:List Nat} {N:Nat->Prop} {w0 w:Wd} {D:List As} {α:Type} {V:VR α} [hV:VF V] {v:Vl} {x:α} (H:Sep X N w0 w (ow (V:=V) v x::D)):Sep X N w0 w (Go.Proofs.YtnjlbbfcngjhmaaGreat.ro N0 (V:=V) v x::D):= H.imp (λ{Y} ⟨bs,h1,_,h3⟩ _=>⟨bs,h1,λc hc=>.inl (h3 c hc)⟩) n0
def fQ (x0:B1):Option (List Int×Int):= xG (rM x0) λok=>if (!ok) then some ([],1) else xG (dE x0) λz=>xG (cW z.1 z.2) λat'=>if (decide (at'<0)) then some ([],6) else xG (ix z.1 at') λr0=>xG (bS r0 r0.right x0.prime) λr1=>some (r1.bys,0)
set_option maxHeartbeats 1000000 in
theorem xCs {B:Nat->Prop} {x0:B1} (r:List Int×Int) (hR:fQ x0=some r) {v0:Vl} (w0:Wd) (hN:HN B w0) (A0:Bo B w0 (qS 3 oR) v0 x0):CG B w0 74 #[v0] (.v λv1'=>.fa (xL r.2) <| .st (.tuple #[v1',.int .i64 r.2]) λD=>ro N0 (V:=(Sl 1 xF)) v1' r.1::D):=by
 unfold fQ at hR
 revert r
 refine vM Tryz.func74 [(0,v0)] hN λr=>?_;obtain⟨vl,rfl,ip,iu,hl⟩:=oR.o A0
 repeat (first | refine lI rfl ?_ | refine cS ?_ | refine aY ?_ | refine iI ?_ | refine eR ?_ | refine fB ?_ | refine fJ ?_ | refine jU ?_ | refine iH ?_ | refine jR ?_)
 refine jX e2 (λb=>?_)
 repeat (first | refine lI rfl ?_ | refine cS ?_ | refine aY ?_ | refine iI ?_ | refine eR ?_ | refine fB ?_ | refine fJ ?_ | refine jU ?_ | refine iH ?_ | refine jR ?_)
 refine jB λok cok=>?_;refine jk (λH=>xEn ok cok _ aA (oR.b (H.g 0 rfl).bk ip iu (H.a hl))) ?_
 repeat (first | refine lI rfl ?_ | refine cS ?_ | refine aY ?_ | refine iI ?_ | refine eR ?_ | refine fB ?_ | refine fJ ?_ | refine jU ?_ | refine iH ?_ | refine jR ?_)
 refine jif (λh=>?_) (λh=>?_)
 ·repeat (first | refine lI rfl ?_ | refine cS ?_ | refine aY ?_ | refine iI ?_ | refine eR ?_ | refine fB ?_ | refine fJ ?_ | refine jU ?_ | refine iH ?_ | refine jR ?_)
  refine jR0 xF (λv9=>?_)
  repeat (first | refine lI rfl ?_ | refine cS ?_ | refine aY ?_ | refine iI ?_ | refine eR ?_ | refine fB ?_ | refine fJ ?_ | refine jU ?_ | refine iH ?_ | refine jR ?_)
  refine jh (λH=>H.os.owr) ?_;refine js [0] rfl ?_;exact j2 (rt rfl) (rt rfl) ⟨_,(show xL (1:Int) by decide),lv⟩
 ·repeat (first | refine lI rfl ?_ | refine cS ?_ | refine aY ?_ | refine iI ?_ | refine eR ?_ | refine fB ?_ | refine fJ ?_ | refine jU ?_ | refine iH ?_ | refine jR ?_)
  refine jB λz cz=>?_;refine jk (λH=>rP z cz _ aA (oR.b (H.g 0 rfl).bk ip iu (H.a hl))) (λv iz=>?_)
  repeat (first | refine lI rfl ?_ | refine cS ?_ | refine aY ?_ | refine iI ?_ | refine eR ?_ | refine fB ?_ | refine fJ ?_ | refine jU ?_ | refine iH ?_ | refine jR ?_)
  refine jB λat' ca=>?_;refine jk (λH=>sN at' ca _ aA (H.l 0 rfl) iz) (λia=>?_)
  repeat (first | refine lI rfl ?_ | refine cS ?_ | refine aY ?_ | refine iI ?_ | refine eR ?_ | refine fB ?_ | refine fJ ?_ | refine jU ?_ | refine iH ?_ | refine jR ?_)
  refine jif (λh=>?_) (λh=>?_)
  ·repeat (first | refine lI rfl ?_ | refine cS ?_ | refine aY ?_ | refine iI ?_ | refine eR ?_ | refine fB ?_ | refine fJ ?_ | refine jU ?_ | refine iH ?_ | refine jR ?_)
   refine jR0 xF (λv9=>?_)
   repeat (first | refine lI rfl ?_ | refine cS ?_ | refine aY ?_ | refine iI ?_ | refine eR ?_ | refine fB ?_ | refine fJ ?_ | refine jU ?_ | refine iH ?_ | refine jR ?_)
   refine jh (λH=>H.os.owr) ?_;refine js [0] rfl ?_;exact j2 (rt rfl) (rt rfl) ⟨_,(show xL (6:Int) by decide),lv⟩
  ·repeat (first | refine lI rfl ?_ | refine cS ?_ | refine aY ?_ | refine iI ?_ | refine eR ?_ | refine fB ?_ | refine fJ ?_ | refine jU ?_ | refine iH ?_ | refine jR ?_)
   refine jB λr0 cr0=>?_;refine jB λr1 cr1=>?_;have h0:=(aE cr0).2;have h1:=(aE cr0).1;have h2:=(Ac.1 h0).1;refine xMa (γ:=Nat×Nat×List Vl) (E:=λu=>[bx u.1 u.2.2 177,rc 3 qC u.2.2 (z.1.map some),bx b [.int .i64 x0.prime,.int .i64 x0.unknowns,vl] 130]) (λH=>H.opn (by omega)) (λ⟨g,c,cs⟩ hV=>?_);have hle:z.1.length*3<=cs.length:=hV.le;obtain⟨rfl,hVh⟩:=hV;have al:0<=at'/\at'<(z.1.length:Int):=⟨h1,by omega⟩;refine xMa (γ:=Vl×Vl) (E:=λu=>[ow (V:=Sl 1 xF) u.1 r0.left,ow (V:=Sl 1 xF) u.2 r0.bys,rc 3 qC cs ((z.1.map some).set at'.toNat none),bx g cs 177,bx b [.int .i64 x0.prime,.int .i64 x0.unknowns,vl] 130]) (λH=>H.sw.tk7 at'.toNat (by rw[Ay,h0];rfl) (by omega)) (λ⟨va,vb⟩ ⟨q0,q1,q2,i0⟩=>?_);refine js [3,4,0,1,2] rfl ?_;refine jh (λH=>H.mg) ?_;refine cZ λw1 X1 N1 sm g1 e1 th _=>?_;have K:=g1.l.bk;have K2:=g1.r.bk;refine jD ?_;refine zF [0,1] rfl ?_;refine xGm 2 rfl al ?_;refine zF [3,4] rfl ?_;refine xGm 5 rfl al ?_;refine kB 6 rfl e2 ?_;refine iG 7 rfl K ⟨rfl,q1⟩ ?_;refine kB 8 rfl e2 ?_;refine iG 9 rfl K2 ⟨rfl,rfl⟩ ?_;refine jF9 10 rfl ?_;refine aI th ?_;refine jh (λH=>H.um) ?_;refine js [0,2,3,4] rfl ?_;refine jko 3 (λS H=>sT r1 cr1 _ H.hN S q0 q1 q2 i0 i0 ip) (λi1=>?_);refine cS ?_;refine aY ?_;refine iT ?_
   repeat (first | refine lI rfl ?_ | refine cS ?_ | refine aY ?_ | refine iI ?_ | refine eR ?_ | refine fB ?_ | refine fJ ?_ | refine jU ?_ | refine iH ?_ | refine jR ?_)
   refine jix al ?_;refine xZ e2 ?_;refine jb 0 ⟨rfl,rfl,(show _=some vb by rw[Aj (by omega)];exact q2)⟩ ?_
   repeat (first | refine lI rfl ?_ | refine cS ?_ | refine aY ?_ | refine iI ?_ | refine eR ?_ | refine fB ?_ | refine fJ ?_ | refine jU ?_ | refine iH ?_ | refine jR ?_)
   refine js [2] rfl ?_;refine jh (λH=>H.owr) ?_;exact j2 (rt rfl) (rt rfl) ⟨_,(show xL (0:Int) by decide),lv⟩
end Go.Proofs.YtnjlbbfcngjhmaaGreat
