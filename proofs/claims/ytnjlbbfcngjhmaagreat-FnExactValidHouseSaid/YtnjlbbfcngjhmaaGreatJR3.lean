import Derived.Test.YtnjlbbfcngjhmaaGreatJR2
namespace Go.Proofs.YtnjlbbfcngjhmaaGreat
set_option linter.unusedVariables false
set_option linter.unusedSimpArgs false
open Go.Proofs.Tryz
set_option maxRecDepth 100000
open Go.RowKit
instance:Sz prog 130 3:=⟨sizeOf130⟩
instance:Sz prog 169 2:=⟨sizeOf169⟩
instance:Sz prog 128 1:=⟨sizeOf128⟩
instance:Ag prog 130 true:=⟨isAgg130⟩
instance:type_of% (Zv.mk zeroValue130):=⟨zeroValue130⟩
instance:type_of% (Zv.mk zeroValue169):=⟨zeroValue169⟩
instance:type_of% (BdT.mk underlying130 zeroValue130 (λw=>by simp [sizeOf128,sizeOf2];rfl)):=⟨underlying130,zeroValue130,(λw=>by simp [sizeOf128,sizeOf2])⟩
instance:type_of% (BdT.mk underlying169 zeroValue169 (λw=>by simp [sizeOf2,sizeOf58];rfl)):=⟨underlying169,zeroValue169,(λw=>by simp [sizeOf2,sizeOf58])⟩
theorem Sep.eqw {X:List Nat} {N:Nat->Prop} {w0 w:Wd} {D:List As} {v0:Vl} {l:List Int} {r:Int} (H:Sep X N w0 w (ow (V:=Sl 1 xF) v0 l::D)) (hr:xL r):Sep X N w0 w (ow (V:=qS 2 xJ) (.agg #[v0,.int .i64 r]) (A8.mk l r)::D):= H.imp (λ{Y} ⟨bs,h1,h2,h3⟩ _=>⟨bs,xJ.mk2 h1 hr,h2,h3⟩) n0
def hol {α:Type} (k:Nat) (l:List α):List (Option α):=List.replicate k none++(l.drop k).map some
theorem oCd {α:Type} {k:Nat} {l:List α} {x:α} (h:l[k]?=some x):(hol k l)[k]?=some (some x):=by
 unfold hol
 rw[Bb (by simp)]
 simp [h]
theorem oDl {α:Type} {k:Nat} {l:List α} (h:k<l.length):(hol k l).set k none=hol (k+1) l:=by
 unfold hol
 rw[List.set_append_right _ _ (by simp),Br h];have e:(l.drop (k+1)).map some=List.drop (k+1) (l.map some):=List.map_drop ..
 simp [List.replicate_succ',e]
 rw[Br (by simpa using h)]
 rfl
def fI (x0:B1):Option B1:= xG (dE x0) λz12=>xG (cW z12.1 z12.2) λz60=>if (decide (0<=z60)) then xG (pN (0:Int) x0.unknowns) λz66=>xG (ap ([]) ([(A8.mk z66 1)])) λz73=>some ((B1.mk x0.prime x0.unknowns z73)) else oZ (σ:=List A8) (qM (λk230 s224=>xG (ix z12.1 (k230:Int)) λz236=>xG (ap s224 ([(A8.mk z236.left z236.right)])) λz251=>some (.go z251)) z12.2.toNat 0 []) λs227=>some ((B1.mk x0.prime x0.unknowns s227))
set_option maxHeartbeats 1000000 in
theorem xFm {B:Nat->Prop} {x0:B1} (r:B1) (hR:fI x0=some r) {v0:Vl} (w0:Wd) (hN:HN B w0) (A0:Bo B w0 (Pt 3 oR) v0 x0):CG B w0 179 #[v0] (.v λv1'=>.fa (xL r.prime) <| .fa (xL r.unknowns) <| .st (.agg #[.int .i64 r.prime,.int .i64 r.unknowns,v1']) λD=>rl 2 xJ 169 v1' r.list::D):=by
 unfold fI at hR
 revert r
 refine vM func179 [(0,v0)] hN λr=>?_;refine xI ?_;refine aK rfl (λb11=>?_);refine qW ?_;refine jo rfl ?_;refine jB λz12 c13=>?_;refine jk (λH=>rP z12 c13 _ aA (H.a A0)) (λv14 i16=>?_);refine jA 5 rfl ?_;refine yD ?_;refine jD ?_;refine jdp (f:=1) (ls:=#[true,true,true,true,true,true,true,true,true,true,true,false]) (.n λb52=>.v λv58=>.fa (xL 0) <| .fa (xL 0) <| .fa (xL 0) <| .fa (xL 0) <| .fa (xL x0.prime) <| .fa (xL x0.unknowns) <| .st [(0,v0),(2,.pointer (some ⟨b11,0,none⟩)),(3,v14),(4,.int .i64 z12.2),(5,.pointer (some ⟨b52,0,none⟩)),(21,(.agg #[.int .i64 x0.prime,.int .i64 x0.unknowns,v58]))] [bx b52 [.int .i64 0,.int .i64 0,(.slice none 0 0)] 130,rl 2 xJ 169 v58 ([]),rl 3 qC 177 v14 z12.1,bx b11 [.int .i64 0,.int .i64 0,(.slice none 0 0)] 130]) (λb52 v58 _ _ _ _ i55 i56=>?_) (λH59=>?_)
 ·
  refine jE 11 rfl ?_;refine zX (hv:=(λH=>oc rfl (oc rfl (oc (H.l 1 rfl).one on)))) e3 ?_;refine qK ?_;refine iT ?_;refine cF ?_;refine jA 2 rfl ?_;refine jB λz60 c61=>?_;refine jk (λH=>sN z60 c61 _ aA (H.l 2 rfl) i16) (λiz60=>?_);refine jo rfl ?_;refine kD ?_;refine xT ?_ ?_
  ·
   repeat (first | refine lI rfl ?_ | refine cS ?_ | refine aY ?_ | refine iI ?_ | refine eR ?_ | refine fB ?_ | refine fJ ?_ | refine jU ?_ | refine iH ?_ | refine jR ?_)
   refine jB λz66 c67=>?_;refine jB λz73 c74=>?_;refine cZ λw1 X1 N1 sm g1 e1 th _=>?_;have K:=g1.bk;refine jD ?_;refine kB 0 rfl e2 ?_;refine iG 1 rfl K e2 ?_;refine zF [2] rfl ?_;refine jvN 3 rfl A0 ?_;refine iO 4 rfl A0 oR.f1 (λ_ qc=>?_);refine aW (s:=λH w l=>sm.trans (Sm.mono (H.v w l) th.2.2)) 5 rfl qc (λ_=>?_);refine jE 6 rfl ?_;refine jRM (R:=xF) (λw=>⟨rfl,by decide,rfl⟩) c67 (λv91=>?_);refine qK ?_;refine jE 7 rfl ?_;refine oV (hone:=(λH=>oc (H.l 0 rfl).one (oc rfl on))) e5 ?_;refine qK ?_;refine jE 8 rfl ?_;refine jh (λH=>xJ.w zL H) ?_;refine uL (λH=>El.agg) (λv93=>?_);refine qK ?_;refine jE 9 rfl ?_;refine js [1,0,3] rfl ?_;refine jPL c74 (λv108=>?_);refine qK ?_;refine kB 10 rfl e2 ?_;refine jF9 11 rfl ?_;refine aI th ?_;refine jW (hv:=(λH=>(H.l 1 rfl).one)) e3 ?_;refine cS ?_;refine aY ?_;refine iT ?_
   repeat (first | refine lI rfl ?_ | refine cS ?_ | refine aY ?_ | refine iI ?_ | refine eR ?_ | refine fB ?_ | refine fJ ?_ | refine jU ?_ | refine iH ?_ | refine jR ?_)
   refine aG 0 e3 ?_;refine js [2,0,1] rfl ?_;refine zX (hv:=(λH=>oc rfl (oc rfl (oc (H.l 2 rfl).one on)))) e3 ?_
   repeat (first | refine lI rfl ?_ | refine cS ?_ | refine aY ?_ | refine iI ?_ | refine eR ?_ | refine fB ?_ | refine fJ ?_ | refine jU ?_ | refine iH ?_ | refine jR ?_)
   exact j1m (λH=>H.s [2] rfl rfl) (dA 0 e2) ⟨_,i55,i56,lv⟩
  ·
   repeat (first | refine lI rfl ?_ | refine cS ?_ | refine aY ?_ | refine iI ?_ | refine eR ?_ | refine fB ?_ | refine fJ ?_ | refine jU ?_ | refine iH ?_ | refine jR ?_)
   refine qZ (λs227=>.v λv229=>.st [(2,.pointer (some ⟨b11,0,none⟩)),(5,.pointer (some ⟨b52,0,none⟩))] [bx b52 [.int .i64 x0.prime,.int .i64 x0.unknowns,v229] 130,rl 2 xJ 169 v229 s227,bx b11 [.int .i64 0,.int .i64 0,(.slice none 0 0)] 130]) ?_ (λs227 v229=>?_)
   ·by_cases hz:z12.1=[]
    ·refine c_k ?_
     refine js [0,1,3] rfl ?_;refine jc (λk230 s224=>.v λv226=>.st [(6,.int .i64 (k230:Int)),(2,.pointer (some ⟨b11,0,none⟩)),(5,.pointer (some ⟨b52,0,none⟩)),(4,.int .i64 z12.2)] [bx b52 [.int .i64 x0.prime,.int .i64 x0.unknowns,v226] 130,rl 2 xJ 169 v226 s224,bx b11 [.int .i64 0,.int .i64 0,(.slice none 0 0)] 130]) ⟨_,ls⟩ (λk s K hk v226=>?_) (λq k s hk v226=>?_)
     ·repeat (first | refine lI rfl ?_ | refine cS ?_ | refine aY ?_ | refine iI ?_ | refine eR ?_ | refine fB ?_ | refine fJ ?_ | refine jU ?_ | refine iH ?_ | refine jR ?_)
      refine kJ (show decide ((k:Int)<z12.2)=false by simp;omega) ?_
      repeat (first | refine c_x ?_ | refine c_E ?_ | refine c_B ?_ | refine aY ?_)
      exact jf ⟨_,ls⟩
     ·refine jB λz236 c237=>?_
      rw[hz] at c237;exact absurd (aE c237).2 (by simp)
    ·have qa:0<z12.1.length:=List.length_pos_iff.2 hz
     refine js [2,0,1,3] rfl ?_;refine xMa (λH=>H.opn qa) (λ⟨g,c,cs⟩ hV=>?_);have hle:z12.1.length*3<=cs.length:=hV.le;refine jev 3 hV.e ?_;refine c_k ?_;refine js [2,3,0,1,4] rfl ?_;refine jc (λk230 s224=>.v λv226=>.st [(6,.int .i64 (k230:Int)),(2,.pointer (some ⟨b11,0,none⟩)),(5,.pointer (some ⟨b52,0,none⟩)),(3,.slice (some ⟨g,0,none⟩) z12.1.length c),(4,.int .i64 z12.2)] [bx b52 [.int .i64 x0.prime,.int .i64 x0.unknowns,v226] 130,rl 2 xJ 169 v226 s224,bx g cs 177,rc 3 qC cs (hol k230 z12.1),bx b11 [.int .i64 0,.int .i64 0,(.slice none 0 0)] 130]) ⟨_,ls⟩ (λk s K hk v226=>?_) (λq k s hk v226=>?_)
     ·repeat (first | refine lI rfl ?_ | refine cS ?_ | refine aY ?_ | refine iI ?_ | refine eR ?_ | refine fB ?_ | refine fJ ?_ | refine jU ?_ | refine iH ?_ | refine jR ?_)
      refine kJ (show decide ((k:Int)<z12.2)=false by simp;omega) ?_
      repeat (first | refine c_x ?_ | refine c_E ?_ | refine c_B ?_ | refine aY ?_)
      refine js [0,1,4] rfl ?_;exact jf ⟨_,ls⟩
     ·repeat (first | refine lI rfl ?_ | refine cS ?_ | refine aY ?_ | refine iI ?_ | refine eR ?_ | refine fB ?_ | refine fJ ?_ | refine jU ?_ | refine iH ?_ | refine jR ?_)
      refine kO (show decide ((k:Int)<z12.2)=true by simp;omega) ?_
      repeat (first | refine lI rfl ?_ | refine cS ?_ | refine aY ?_ | refine iI ?_ | refine eR ?_ | refine fB ?_ | refine fJ ?_ | refine jU ?_ | refine iH ?_ | refine jR ?_)
      refine c_k ?_;refine jB λz236 c237=>?_;refine jB λz251 c252=>?_;have h0:=(aE c237).2;have qd:k<z12.1.length:=(Ac.1 h0).1
      have al:(0:Int)<=(k:Int)/\(k:Int)<(z12.1.length:Int):=by omega
      refine js [3,0,1,2,4] rfl ?_;refine xMa (γ:=Vl×Vl) (E:=λu=>[ow (V:=Sl 1 xF) u.1 z236.left,ow (V:=Sl 1 xF) u.2 z236.bys,rc 3 qC cs ((hol k z12.1).set k none),bx b52 [.int .i64 x0.prime,.int .i64 x0.unknowns,v226] 130,rl 2 xJ 169 v226 s,bx g cs 177,bx b11 [.int .i64 0,.int .i64 0,(.slice none 0 0)] 130]) (λH=>H.tk7 k (oCd h0) (by omega)) (λ⟨va,vb⟩ ⟨q0,q1,q2,i0⟩=>?_);rw[oDl qd];refine jfc (λH=>(H.o 0 rfl).one) (λh1=>?_);refine js [0,2,3,4,5,6] rfl ?_;refine jh (λH=>H.eqw i0) ?_;refine js [2,4,0,1,3,5] rfl ?_;refine jh (λH=>H.mg) ?_;refine cZ λw1 X1 N1 sm g1 e1 th _=>?_;have K:=g1.l.bk;have K2:=g1.r.bk;refine jD ?_;refine kB 0 rfl e2 ?_;refine iG 1 rfl K e2 ?_;refine zF [2,3] rfl ?_;refine xGm 4 rfl al ?_;refine kB 5 rfl e2 ?_;refine iG 6 rfl K2 ⟨rfl,q0⟩ ?_;refine zF [7,8] rfl ?_;refine xGm 9 rfl al ?_;refine kB 10 rfl e2 ?_;refine iG 11 rfl K2 ⟨rfl,q1⟩ ?_;refine jvv 12 rfl (λF H w l=>xOx underlying169 zeroValue169 (λw=>by simp [sizeOf2,sizeOf58];rfl) F rfl rfl rfl rfl (oc h1 (oc rfl on)) rfl rfl) ?_;refine jE 13 rfl ?_;refine uL (λH=>El.agg) (λv93=>?_);refine qK ?_;refine jE 14 rfl ?_;refine js [2,0,1,3] rfl ?_;refine jPL c252 (λv282=>?_);refine qK ?_;refine kB 15 rfl e2 ?_;refine jF9 16 rfl ?_;refine aI th ?_;refine jh (λH=>H.um) ?_;refine js [0,2,1,3,4] rfl ?_;refine jW (hv:=(λH=>(H.l 1 rfl).one)) e3 ?_;refine cS ?_;refine aY ?_;refine iT ?_
      repeat (first | refine lI rfl ?_ | refine cS ?_ | refine aY ?_ | refine iI ?_ | refine eR ?_ | refine fB ?_ | refine fJ ?_ | refine jU ?_ | refine iH ?_ | refine jR ?_)
      refine xU (vY hk i16) ?_
      repeat (first | refine lI rfl ?_ | refine cS ?_ | refine aY ?_ | refine iI ?_ | refine eR ?_ | refine fB ?_ | refine fJ ?_ | refine jU ?_ | refine iH ?_ | refine jR ?_)
      exact jg ⟨_,ls⟩
   ·repeat (first | refine lI rfl ?_ | refine cS ?_ | refine aY ?_ | refine iI ?_ | refine eR ?_ | refine fB ?_ | refine fJ ?_ | refine jU ?_ | refine iH ?_ | refine jR ?_)
    refine aG 0 e3 ?_;refine js [2,0,1] rfl ?_;refine zX (hv:=(λH=>oc rfl (oc rfl (oc (H.l 2 rfl).one on)))) e3 ?_
    repeat (first | refine lI rfl ?_ | refine cS ?_ | refine aY ?_ | refine iI ?_ | refine eR ?_ | refine fB ?_ | refine fJ ?_ | refine jU ?_ | refine iH ?_ | refine jR ?_)
    exact j1m (λH=>H.s [2] rfl rfl) (dA 0 e2) ⟨_,i55,i56,lv⟩
 refine jdp (f:=2) (ls:=#[true,true,true,true,true,true,true,true,true,false,true,false]) (.n λb42=>.v λv48=>.fa (xL 0) <| .fa (xL 0) <| .fa (xL 0) <| .fa (xL 0) <| .fa (xL x0.prime) <| .fa (xL x0.unknowns) <| .st [(0,v0),(2,.pointer (some ⟨b11,0,none⟩)),(3,v14),(4,.int .i64 z12.2),(5,.pointer (some ⟨b42,0,none⟩)),(15,.int .i64 x0.prime),(19,.int .i64 x0.unknowns),(20,v48)] [bx b42 [.int .i64 0,.int .i64 0,(.slice none 0 0)] 130,rl 2 xJ 169 v48 ([]),rl 3 qC 177 v14 z12.1,bx b11 [.int .i64 0,.int .i64 0,(.slice none 0 0)] 130]) (λb42 v48 i40 i41 i43 i44 i45 i46=>?_) (λH49=>?_)
 ·refine jE 9 rfl ?_;refine oV (hone:=(λH=>oc rfl (oc rfl (oc (H.l 1 rfl).one on)))) e5 ?_;refine qK ?_;exact H59 ⟨_,_,i40,i41,i43,i44,i45,i46,ls⟩
 refine zF [0] rfl ?_;refine jvN 1 rfl A0 ?_;refine iO 2 rfl A0 oR.f0 (λ_ qe=>?_);refine aW 3 rfl qe (λi29=>?_);refine zF [4] rfl ?_;refine jvN 5 rfl A0 ?_;refine iO 6 rfl A0 oR.f1 (λ_ qf=>?_);refine aW 7 rfl qf (λi32=>?_);refine eG (λH=>H) 8 10 rfl rfl ?_ ?_
 ·
  refine jR0 xJ (λv33=>?_);refine qK ?_;refine eG (λH=>H) 9 10 rfl rfl ?_ ?_
  ·refine oV (hone:=(λH=>oc rfl (oc rfl (oc (H.l 0 rfl).one on)))) e5 ?_;refine qK ?_;refine jE 10 rfl ?_;refine aK rfl (λb35=>?_);refine qK ?_;exact H59 ⟨_,_,xO,xO,xO,xO,i29,i32,ls⟩
  ·refine aK rfl (λb36=>?_);refine qK ?_;exact H49 ⟨_,_,xO,xO,xO,xO,i29,i32,ls⟩
 ·refine aK rfl (λb37=>?_);refine qK ?_;refine jE 8 rfl ?_;refine jR0 xJ (λv38=>?_);refine qK ?_;refine js [1,0,2,3] rfl ?_;exact H49 ⟨_,_,xO,xO,xO,xO,i29,i32,ls⟩
end Go.Proofs.YtnjlbbfcngjhmaaGreat
