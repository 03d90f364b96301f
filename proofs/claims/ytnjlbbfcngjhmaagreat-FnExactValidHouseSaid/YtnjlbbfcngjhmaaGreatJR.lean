import Derived.Test.YtnjlbbfcngjhmaaGreatP0
import Derived.Test.YtnjlbbfcngjhmaaGreatNX
import Derived.Test.YtnjlbbfcngjhmaaGreatJT
namespace Go.Proofs.YtnjlbbfcngjhmaaGreat
set_option linter.unusedVariables false
set_option linter.unusedSimpArgs false
set_option maxHeartbeats 1000000
set_option maxRecDepth 100000
open Go.RowKit
variable {D:List As} {X:List Nat} {N:Nat->Prop} {cs:List Vl} {vb:Vl} {va:Vl} {B:Nat->Prop}
instance:Fd Tryz.prog 177 0 0:=⟨oCr⟩
instance:Sz Tryz.prog 177 3:=⟨Tryz.sizeOf177⟩
instance:Ag Tryz.prog 177 true:=⟨Tryz.isAgg177⟩
instance:Cf Tryz.prog 122:=⟨Tryz.call122⟩
instance:Cf Tryz.prog 182:=⟨Tryz.call182⟩
instance:Cf Tryz.prog 181:=⟨Tryz.call181⟩
instance:Cf Tryz.prog 119:=⟨Tryz.call119⟩
instance:Cf Tryz.prog 120:=⟨Tryz.call120⟩
instance:Cf Tryz.prog 118:=⟨Tryz.call118⟩
theorem Sep.l07o {w0 w:Wd} {vs:List Vl} {x:A9} (H:Sep X N w0 w (ow (V:=qS 3 qC) (.agg vs.toArray) x::D)):∃ u:Vl×Vl,Sep X N w0 w (ow (V:=Sl 1 xF) u.1 x.left::ow (V:=Sl 1 xF) u.2 x.bys::D)/\vs=[u.1,.int .i64 x.right,u.2]/\xL x.right:=by
 obtain⟨Y0,⟨b0,r0,_⟩,_⟩:=H.hd;obtain⟨v0,v2,b00,b02,e,k0,k1,k2,eb⟩:=qC.rd r0
 have e2:vs=[v0,.int .i64 x.right,v2]:=by have:=congrArg Value.cells e;simpa [Value.cells] using this
 refine⟨(v0,v2),Sep.um (H.imp (B:=pr (ow (V:=Sl 1 xF) v0 x.left) (ow (V:=Sl 1 xF) v2 x.bys)) (λ{Y} hP hY=>?_) (λc hc=>hc.elim (λh=>h.elim) (λh=>h.elim))),e2,k1⟩;obtain⟨bs,r,o,hY⟩:=hP;obtain⟨u0,u2,c0,c2,e,k0,k1,k2,eb⟩:=qC.rd r;subst eb;rw[e2] at e
 simp at e
 obtain⟨rfl,rfl⟩:=e;exact⟨c0,c2,⟨c0,k0,o.left,λ_ h=>h⟩,⟨c2,k2,o.right,λ_ h=>h⟩,o.disj,λc hc=>hY c (Bt _ hc),λc hc=>hY c (Bq _ hc)⟩
theorem Sep.l07c {w0 w:Wd} {v0 v2:Vl} {l b:List Int} {r:Int} (H:Sep X N w0 w (ow (V:=Sl 1 xF) v0 l::ow (V:=Sl 1 xF) v2 b::D)) (hr:xL r):Sep X N w0 w (ow (V:=qS 3 qC) (.agg [v0,.int .i64 r,v2].toArray) (A9.mk l r b)::D):=by
 refine H.mg.imp (λ{Y} hP hY=>?_) (λc hc=>hc.elim);obtain⟨Y1,Y2,⟨c0,k0,o0,y0⟩,⟨c2,k2,o2,y2⟩,dj,y3,y4⟩:=hP;exact⟨c0++c2,qC.mk2 k0 hr k2,o0.append o2 (λc h1 h2=>dj c (y0 c h1) (y2 c h2)),λc hc=>(Ar.1 hc).elim (λh=>y3 c (y0 c h)) (λh=>y4 c (y2 c h))⟩
def bS (x:A9) (b p:Int):Option A9:= oZ (σ:=List Int) (qM (λk s=>xG (ix s (k:Int)) λz=>xG (ck (z*b)) λz1=>xG (rm z1 p) λz2=>some (.go (s.set ((k:Int)).toNat z2))) x.left.length 0 x.left) λs=>xG (ck (x.right*b)) λz3=>xG (rm z3 p) λz4=>oZ (σ:=List Int) (qM (λk s=>xG (ix s (k:Int)) λz=>xG (ck (z*b)) λz1=>xG (rm z1 p) λz2=>some (.go (s.set ((k:Int)).toNat z2))) x.bys.length 0 x.bys) λs2=>some (A9.mk s z4 s2)
theorem sT {x0:A9} {x1 x2:Int} (r:A9) (hR:bS x0 x1 x2=some r) {g o:Nat} {T:Ty} {X0:List Nat} (w0:Wd) (hN:HN B w0) (S0:Sep X0 B w0 w0 [bx g cs T,ow (V:=Sl 1 xF) va x0.left,ow (V:=Sl 1 xF) vb x0.bys]) (c0:cs[o]?=some va) (c1:cs[o+1]?=some (.int .i64 x0.right)) (c2:cs[o+2]?=some vb) (hr:xL x0.right) (hx1:xL x1) (qa:xL x2) :
 Calls Tryz.prog 122 #[.pointer (some ⟨g,o,none⟩),.int .i64 x1,.int .i64 x2] w0 (Gt B w0 X0 (.fa (xL r.right) <| .st (.tuple #[]) λD=>bx g (cs.set (o+1) (.int .i64 r.right)) T::ow (V:=Sl 1 xF) va r.left::ow (V:=Sl 1 xF) vb r.bys::D)):=by
 unfold bS at hR
 revert r
 refine jin Tryz.func122 [(0,.pointer (some ⟨g,o,none⟩)),(1,.int .i64 x1),(2,.int .i64 x2)] S0 λr=>?_
 repeat (first | refine eR ?_ | refine fB ?_ | refine fJ ?_)
 refine jo rfl ?_
 repeat (first | refine eR ?_ | refine cS ?_ | refine aY ?_)
 refine qZ (λs=>.fa (s.length=x0.left.length) <| .st [(0,.pointer (some ⟨g,o,none⟩)),(1,.int .i64 x1),(2,.int .i64 x2)] [bx g cs T,ow (V:=Sl 1 xF) va s,ow (V:=Sl 1 xF) vb x0.bys]) ?_ (λs hs=>?_)
 ·refine c_k ?_
  refine jc (λk s=>.fa (s.length=x0.left.length) <| .st [(6,.int .i64 (k:Int)),(0,.pointer (some ⟨g,o,none⟩)),(1,.int .i64 x1),(2,.int .i64 x2)] [bx g cs T,ow (V:=Sl 1 xF) va s,ow (V:=Sl 1 xF) vb x0.bys]) ⟨rfl,ls⟩ (λk s K hk hs=>?_) (λq k s hk hs=>?_)
  ·repeat (first | refine eR ?_ | refine fB ?_ | refine fJ ?_)
   refine jA 3 rfl ?_;refine xZ e2 ?_;refine jb 0 ⟨rfl,rfl,c0⟩ ?_;refine jLc (λH=>H.o 1 rfl) (λi13=>?_);refine jo rfl ?_
   repeat (first | refine cS ?_ | refine aY ?_)
   refine kJ (show decide ((k:Int)<(s.length:Int))=false by simp;omega) ?_
   repeat (first | refine c_x ?_ | refine c_E ?_ | refine c_B ?_ | refine aY ?_)
   exact jf ⟨hs,ls⟩
  ·repeat (first | refine eR ?_ | refine fB ?_ | refine fJ ?_)
   refine jA 3 rfl ?_;refine xZ e2 ?_;refine jb 0 ⟨rfl,rfl,c0⟩ ?_;refine jLc (λH=>H.o 1 rfl) (λi13=>?_);refine jo rfl ?_
   repeat (first | refine cS ?_ | refine aY ?_)
   refine kO (show decide ((k:Int)<(s.length:Int))=true by simp;omega) ?_;refine iH ?_;refine aY ?_;refine eR ?_;refine c_k ?_;refine jB λz cz=>?_;refine jB λz1 cz1=>?_;refine jB λz2 cz2=>?_;refine jh (λH=>H.mg) ?_;refine cZ λw1 X1 N1 sm g1 e1 th _=>?_;have K:=g1.l.bk;have h:=g1.r.od;refine jD ?_;refine zF [0,1] rfl ?_;refine kB 2 rfl e2 ?_;refine iG 3 rfl K ⟨rfl,c0⟩ ?_;refine zF [4,5,6] rfl ?_;refine kB 7 rfl e2 ?_;refine iG 8 rfl K ⟨rfl,c0⟩ ?_;refine zF [9] rfl ?_;refine pQ 10 rfl h cz (λ_ hp=>?_);refine aW 11 rfl hp (λiz=>?_);refine zF [12] rfl ?_;refine jvz 13 rfl (λF H w l=>yB F rfl rfl cz1) ?_;refine zF [14] rfl ?_;refine jvz 15 rfl (λF H w l=>xEk F rfl rfl cz2) ?_;refine jF9 16 rfl ?_;refine aI th ?_;refine jh (λH=>H.um) ?_;refine jRo 1 cz (λ_ rp=>?_);refine cS ?_;refine aY ?_;refine jF9 17 rfl ?_;refine js [1,0,2] rfl ?_;refine jSo rp (dL cz) (xGs cz2 (kA cz1) qa) rfl ?_;refine cS ?_;refine aY ?_;refine iT ?_
   repeat (first | refine iI ?_ | refine aY ?_ | refine fB ?_)
   refine jo rfl ?_;refine xU (qG (show k<s.length by omega) i13) ?_;refine jo rfl ?_
   repeat (first | refine cS ?_ | refine aY ?_)
   refine js [1,0,2] rfl ?_;exact jg ⟨by simpa using hs,ls⟩
 ·refine aY ?_
  repeat (first | refine eR ?_ | refine fB ?_ | refine fJ ?_)
  refine jA 3 rfl ?_;refine xZ e2 ?_;refine jb 0 ⟨rfl,rfl,c1⟩ ?_;refine jo rfl ?_;refine jB λz3 cz3=>?_;refine wT cz3 ?_;refine jo rfl ?_;refine jB λz4 cz4=>?_;refine xNy cz4 ?_;refine jo rfl ?_;refine xZ e2 ?_;refine jW (ho:=by rw[Nat.blt_eq];exact(Ac.1 c1).1) e3 ?_
  repeat (first | refine cS ?_ | refine aY ?_ | refine eR ?_ | refine fB ?_ | refine fJ ?_)
  refine jo rfl ?_
  repeat (first | refine cS ?_ | refine aY ?_)
  have c2':(cs.set (o+1) (.int .i64 z4))[o+2]?=some vb:=by rw[Aj (by omega)];exact c2
  refine qZ (λs'=>.fa (s'.length=x0.bys.length) <| .st [(0,.pointer (some ⟨g,o,none⟩)),(1,.int .i64 x1),(2,.int .i64 x2)] [bx g (cs.set (o+1) (.int .i64 z4)) T,ow (V:=Sl 1 xF) va s,ow (V:=Sl 1 xF) vb s']) ?_ (λs' hs'=>?_)
  ·refine c_k ?_
   refine jc (λk s'=>.fa (s'.length=x0.bys.length) <| .st [(7,.int .i64 (k:Int)),(0,.pointer (some ⟨g,o,none⟩)),(1,.int .i64 x1),(2,.int .i64 x2)] [bx g (cs.set (o+1) (.int .i64 z4)) T,ow (V:=Sl 1 xF) va s,ow (V:=Sl 1 xF) vb s']) ⟨rfl,ls⟩ (λk s' K hk hs=>?_) (λq k s' hk hs=>?_)
   ·repeat (first | refine eR ?_ | refine fB ?_ | refine fJ ?_)
    refine jA 3 rfl ?_;refine xZ e2 ?_;refine jb 0 ⟨rfl,rfl,c2'⟩ ?_;refine jLc (λH=>H.o 2 rfl) (λi13=>?_);refine jo rfl ?_
    repeat (first | refine cS ?_ | refine aY ?_)
    refine kJ (show decide ((k:Int)<(s'.length:Int))=false by simp;omega) ?_
    repeat (first | refine c_x ?_ | refine c_E ?_ | refine c_B ?_ | refine aY ?_)
    exact jf ⟨hs,ls⟩
   ·repeat (first | refine eR ?_ | refine fB ?_ | refine fJ ?_)
    refine jA 3 rfl ?_;refine xZ e2 ?_;refine jb 0 ⟨rfl,rfl,c2'⟩ ?_;refine jLc (λH=>H.o 2 rfl) (λi13=>?_);refine jo rfl ?_
    repeat (first | refine cS ?_ | refine aY ?_)
    refine kO (show decide ((k:Int)<(s'.length:Int))=true by simp;omega) ?_;refine iH ?_;refine aY ?_;refine eR ?_;refine c_k ?_;refine jB λz cz=>?_;refine jB λz1 cz1=>?_;refine jB λz2 cz2=>?_;refine js [0,2,1] rfl ?_;refine jh (λH=>H.mg) ?_;refine cZ λw1 X1 N1 sm g1 e1 th _=>?_;have K:=g1.l.bk;have h:=g1.r.od;refine jD ?_;refine zF [0,1] rfl ?_;refine kB 2 rfl e2 ?_;refine iG 3 rfl K ⟨rfl,c2'⟩ ?_;refine zF [4,5,6] rfl ?_;refine kB 7 rfl e2 ?_;refine iG 8 rfl K ⟨rfl,c2'⟩ ?_;refine zF [9] rfl ?_;refine pQ 10 rfl h cz (λ_ hp=>?_);refine aW 11 rfl hp (λiz=>?_);refine zF [12] rfl ?_;refine jvz 13 rfl (λF H w l=>yB F rfl rfl cz1) ?_;refine zF [14] rfl ?_;refine jvz 15 rfl (λF H w l=>xEk F rfl rfl cz2) ?_;refine jF9 16 rfl ?_;refine aI th ?_;refine jh (λH=>H.um) ?_;refine jRo 1 cz (λ_ rp=>?_);refine cS ?_;refine aY ?_;refine jF9 17 rfl ?_;refine js [1,0,2] rfl ?_;refine jSo rp (dL cz) (xGs cz2 (kA cz1) qa) rfl ?_;refine cS ?_;refine aY ?_;refine iT ?_
    repeat (first | refine iI ?_ | refine aY ?_ | refine fB ?_)
    refine jo rfl ?_;refine xU (qG (show k<s'.length by omega) i13) ?_;refine jo rfl ?_
    repeat (first | refine cS ?_ | refine aY ?_)
    refine js [1,2,0] rfl ?_;exact jg ⟨by simpa using hs,ls⟩
  ·repeat (first | refine cS ?_ | refine aY ?_ | refine eR ?_ | refine fB ?_ | refine fJ ?_ | refine jU ?_ | refine iH ?_ | refine jR ?_)
   exact j0 ⟨xGs cz4 (kA cz3) qa,lv⟩
def cO (x y:A9) (t p:Int):Option A9:= oZ (σ:=List Int) (qM (λk s=>xG (ix s (k:Int)) λz=>xG (ix y.left (k:Int)) λz'=>xG (ck (t*z')) λz1=>xG (ck (z - z1)) λz2=>xG (kF z2 p) λz3=>some (.go (s.set ((k:Int)).toNat z3))) x.left.length 0 x.left) λs=>xG (ck (t*y.right)) λa1=>xG (ck (x.right - a1)) λa2=>xG (kF a2 p) λa3=>oZ (σ:=List Int) (qM (λk s=>xG (ix s (k:Int)) λz=>xG (ix y.bys (k:Int)) λz'=>xG (ck (t*z')) λz1=>xG (ck (z - z1)) λz2=>xG (kF z2 p) λz3=>some (.go (s.set ((k:Int)).toNat z3))) x.bys.length 0 x.bys) λs2=>some (A9.mk s a3 s2)
theorem xDe {x0 x1:A9} {x2 x3:Int} (r:A9) (hR:cO x0 x1 x2 x3=some r) {g o o2:Nat} {T:Ty} {wa wb:Vl} {X0:List Nat} (w0:Wd) (hN:HN B w0) (S0:Sep X0 B w0 w0 [bx g cs T,ow (V:=Sl 1 xF) va x0.left,ow (V:=Sl 1 xF) vb x0.bys]) (c0:cs[o]?=some va) (c1:cs[o+1]?=some (.int .i64 x0.right)) (c2:cs[o+2]?=some vb) (hr:xL x0.right)
 (A1:Bo B w0 (Sl 1 xF) wa x1.left) (A2:Bo B w0 (Sl 1 xF) wb x1.bys) (d0:cs[o2]?=some wa) (d1:cs[o2+1]?=some (.int .i64 x1.right)) (d2:cs[o2+2]?=some wb) (hr1:xL x1.right) (ho:o2+2≠o+1) (hx2:xL x2) (qa:xL x3) :
 Calls Tryz.prog 182 #[.pointer (some ⟨g,o,none⟩),.pointer (some ⟨g,o2,none⟩),.int .i64 x2,.int .i64 x3] w0 (Gt B w0 X0 (.fa (xL r.right) <| .st (.tuple #[]) λD=>bx g (cs.set (o+1) (.int .i64 r.right)) T::ow (V:=Sl 1 xF) va r.left::ow (V:=Sl 1 xF) vb r.bys::D)):=by
 unfold cO at hR
 revert r
 refine jin Tryz.func182 [(0,.pointer (some ⟨g,o,none⟩)),(1,.pointer (some ⟨g,o2,none⟩)),(2,.int .i64 x2),(3,.int .i64 x3)] S0 λr=>?_
 repeat (first | refine eR ?_ | refine fB ?_ | refine fJ ?_)
 refine jo rfl ?_
 repeat (first | refine eR ?_ | refine cS ?_ | refine aY ?_)
 refine qZ (λs=>.fa (s.length=x0.left.length) <| .st [(0,.pointer (some ⟨g,o,none⟩)),(1,.pointer (some ⟨g,o2,none⟩)),(2,.int .i64 x2),(3,.int .i64 x3)] [bx g cs T,ow (V:=Sl 1 xF) va s,ow (V:=Sl 1 xF) vb x0.bys]) ?_ (λs hs=>?_)
 ·
  refine c_k ?_;refine jc (λk s=>.fa (s.length=x0.left.length) <| .st [(8,.int .i64 (k:Int)),(0,.pointer (some ⟨g,o,none⟩)),(1,.pointer (some ⟨g,o2,none⟩)),(2,.int .i64 x2),(3,.int .i64 x3)] [bx g cs T,ow (V:=Sl 1 xF) va s,ow (V:=Sl 1 xF) vb x0.bys]) ⟨rfl,ls⟩ (λk s K hk hs=>?_) (λq k s hk hs=>?_)
  ·
   repeat (first | refine eR ?_ | refine fB ?_ | refine fJ ?_)
   refine jA 3 rfl ?_;refine xZ e2 ?_;refine jb 0 ⟨rfl,rfl,c0⟩ ?_;refine jLc (λH=>H.o 1 rfl) (λi13=>?_);refine jo rfl ?_
   repeat (first | refine cS ?_ | refine aY ?_)
   refine kJ (show decide ((k:Int)<(s.length:Int))=false by simp;omega) ?_
   repeat (first | refine c_x ?_ | refine c_E ?_ | refine c_B ?_ | refine aY ?_)
   exact jf ⟨hs,ls⟩
  ·
   repeat (first | refine eR ?_ | refine fB ?_ | refine fJ ?_)
   refine jA 3 rfl ?_;refine xZ e2 ?_;refine jb 0 ⟨rfl,rfl,c0⟩ ?_;refine jLc (λH=>H.o 1 rfl) (λi13=>?_);refine jo rfl ?_
   repeat (first | refine cS ?_ | refine aY ?_)
   refine kO (show decide ((k:Int)<(s.length:Int))=true by simp;omega) ?_;refine iH ?_;refine aY ?_;refine eR ?_;refine c_k ?_;refine jB λz cz=>?_;refine jB λz' cz'=>?_;refine jB λz1 cz1=>?_;refine jB λz2 cz2=>?_;refine jB λz3 cz3=>?_;refine jh (λH=>H.mg) ?_;refine cZ λw1 X1 N1 sm g1 e1 th _=>?_;have K:=g1.l.bk;have h:=g1.r.od;refine jD ?_;refine zF [0,1] rfl ?_;refine kB 2 rfl e2 ?_;refine iG 3 rfl K ⟨rfl,c0⟩ ?_;refine zF [4,5,6] rfl ?_;refine kB 7 rfl e2 ?_;refine iG 8 rfl K ⟨rfl,c0⟩ ?_;refine zF [9] rfl ?_;refine pQ 10 rfl h cz (λ_ hp=>?_);refine aW 11 rfl hp (λiz=>?_);refine zF [12,13,14] rfl ?_;refine kB 15 rfl e2 ?_;refine iG 16 rfl K ⟨rfl,d0⟩ ?_;refine zF [17] rfl ?_;refine pQ 18 rfl A1 cz' (λ_ qc=>?_);refine aW (s:=λH w l=>sm.trans (Sm.mono (H.v w l) th.2.2)) 19 rfl qc (λiz'=>?_);refine jvz 20 rfl (λF H w l=>yB F rfl rfl cz1) ?_;refine jvz 21 rfl (λF H w l=>xBb F rfl rfl cz2) ?_;refine zF [22] rfl ?_;refine jE 23 rfl ?_;refine jk (λH=>lB z3 cz3 _ aA (kA cz2) qa) (λiz3=>?_);refine qK ?_;refine jF9 24 rfl ?_;refine aI th ?_;refine jh (λH=>H.um) ?_;refine jRo 1 cz (λ_ rp=>?_);refine cS ?_;refine aY ?_;refine jF9 25 rfl ?_;refine js [1,0,2] rfl ?_;refine jSo rp (dL cz) iz3 rfl ?_;refine cS ?_;refine aY ?_;refine iT ?_
   repeat (first | refine iI ?_ | refine aY ?_ | refine fB ?_)
   refine jo rfl ?_;refine xU (qG (show k<s.length by omega) i13) ?_;refine jo rfl ?_
   repeat (first | refine cS ?_ | refine aY ?_)
   refine js [1,0,2] rfl ?_;exact jg ⟨by simpa using hs,ls⟩
 ·refine aY ?_
  repeat (first | refine eR ?_ | refine fB ?_ | refine fJ ?_)
  refine jB λa1 ca1=>?_;refine jB λa2 ca2=>?_;refine jB λa3 ca3=>?_;refine cZ λw1 X1 N1 sm g1 e1 th _=>?_;have K:=g1.bk;refine jD ?_;refine zF [0,1,2] rfl ?_;refine kB 3 rfl e2 ?_;refine iG 4 rfl K ⟨rfl,c1⟩ ?_;refine zF [5,6,7] rfl ?_;refine kB 8 rfl e2 ?_;refine iG 9 rfl K ⟨rfl,d1⟩ ?_;refine jvz 10 rfl (λF H w l=>yB F rfl rfl ca1) ?_;refine jvz 11 rfl (λF H w l=>xBb F rfl rfl ca2) ?_;refine zF [12] rfl ?_;refine jE 13 rfl ?_;refine jk (λH=>lB a3 ca3 _ aA (kA ca2) qa) (λia3=>?_);refine qK ?_;refine zF [14] rfl ?_;refine kB 15 rfl e2 ?_;refine jF9 16 rfl ?_;refine aI th ?_;refine jW (ho:=by rw[Nat.blt_eq];exact(Ac.1 c1).1) e3 ?_;refine cS ?_;refine aY ?_;refine iT ?_
  repeat (first | refine cS ?_ | refine aY ?_ | refine iI ?_ | refine eR ?_ | refine fB ?_ | refine fJ ?_ | refine jU ?_ | refine iH ?_ | refine jR ?_)
  refine jo rfl ?_
  repeat (first | refine cS ?_ | refine aY ?_)
  have c2':(cs.set (o+1) (.int .i64 a3))[o+2]?=some vb:=by rw[Aj (by omega)];exact c2
  have d2':(cs.set (o+1) (.int .i64 a3))[o2+2]?=some wb:=by rw[Aj (by omega)];exact d2
  refine qZ (λs'=>.fa (s'.length=x0.bys.length) <| .st [(0,.pointer (some ⟨g,o,none⟩)),(1,.pointer (some ⟨g,o2,none⟩)),(2,.int .i64 x2),(3,.int .i64 x3)] [bx g (cs.set (o+1) (.int .i64 a3)) T,ow (V:=Sl 1 xF) va s,ow (V:=Sl 1 xF) vb s']) ?_ (λs' hs'=>?_)
  ·
   refine c_k ?_;refine jc (λk s'=>.fa (s'.length=x0.bys.length) <| .st [(9,.int .i64 (k:Int)),(0,.pointer (some ⟨g,o,none⟩)),(1,.pointer (some ⟨g,o2,none⟩)),(2,.int .i64 x2),(3,.int .i64 x3)] [bx g (cs.set (o+1) (.int .i64 a3)) T,ow (V:=Sl 1 xF) va s,ow (V:=Sl 1 xF) vb s']) ⟨rfl,ls⟩ (λk s' K hk hs=>?_) (λq k s' hk hs=>?_)
   ·
    repeat (first | refine eR ?_ | refine fB ?_ | refine fJ ?_)
    refine jA 3 rfl ?_;refine xZ e2 ?_;refine jb 0 ⟨rfl,rfl,c2'⟩ ?_;refine jLc (λH=>H.o 2 rfl) (λi13=>?_);refine jo rfl ?_
    repeat (first | refine cS ?_ | refine aY ?_)
    refine kJ (show decide ((k:Int)<(s'.length:Int))=false by simp;omega) ?_
    repeat (first | refine c_x ?_ | refine c_E ?_ | refine c_B ?_ | refine aY ?_)
    exact jf ⟨hs,ls⟩
   ·
    repeat (first | refine eR ?_ | refine fB ?_ | refine fJ ?_)
    refine jA 3 rfl ?_;refine xZ e2 ?_;refine jb 0 ⟨rfl,rfl,c2'⟩ ?_;refine jLc (λH=>H.o 2 rfl) (λi13=>?_);refine jo rfl ?_
    repeat (first | refine cS ?_ | refine aY ?_)
    refine kO (show decide ((k:Int)<(s'.length:Int))=true by simp;omega) ?_;refine iH ?_;refine aY ?_;refine eR ?_;refine c_k ?_;refine jB λz cz=>?_;refine jB λz' cz'=>?_;refine jB λz1 cz1=>?_;refine jB λz2 cz2=>?_;refine jB λz3 cz3=>?_;refine js [0,2,1] rfl ?_;refine jh (λH=>H.mg) ?_;refine cZ λw1 X1 N1 sm g1 e1 th _=>?_;have K:=g1.l.bk;have h:=g1.r.od;refine jD ?_;refine zF [0,1] rfl ?_;refine kB 2 rfl e2 ?_;refine iG 3 rfl K ⟨rfl,c2'⟩ ?_;refine zF [4,5,6] rfl ?_;refine kB 7 rfl e2 ?_;refine iG 8 rfl K ⟨rfl,c2'⟩ ?_;refine zF [9] rfl ?_;refine pQ 10 rfl h cz (λ_ hp=>?_);refine aW 11 rfl hp (λiz=>?_);refine zF [12,13,14] rfl ?_;refine kB 15 rfl e2 ?_;refine iG 16 rfl K ⟨rfl,d2'⟩ ?_;refine zF [17] rfl ?_;refine pQ 18 rfl A2 cz' (λ_ qc=>?_);refine aW (s:=λH w l=>sm.trans (Sm.mono (H.v w l) th.2.2)) 19 rfl qc (λiz'=>?_);refine jvz 20 rfl (λF H w l=>yB F rfl rfl cz1) ?_;refine jvz 21 rfl (λF H w l=>xBb F rfl rfl cz2) ?_;refine zF [22] rfl ?_;refine jE 23 rfl ?_;refine jk (λH=>lB z3 cz3 _ aA (kA cz2) qa) (λiz3=>?_);refine qK ?_;refine jF9 24 rfl ?_;refine aI th ?_;refine jh (λH=>H.um) ?_;refine jRo 1 cz (λ_ rp=>?_);refine cS ?_;refine aY ?_;refine jF9 25 rfl ?_;refine js [1,0,2] rfl ?_;refine jSo rp (dL cz) iz3 rfl ?_;refine cS ?_;refine aY ?_;refine iT ?_
    repeat (first | refine iI ?_ | refine aY ?_ | refine fB ?_)
    refine jo rfl ?_;refine xU (qG (show k<s'.length by omega) i13) ?_;refine jo rfl ?_
    repeat (first | refine cS ?_ | refine aY ?_)
    refine js [1,2,0] rfl ?_;exact jg ⟨by simpa using hs,ls⟩
  ·repeat (first | refine cS ?_ | refine aY ?_ | refine iI ?_ | refine eR ?_ | refine fB ?_ | refine fJ ?_ | refine jU ?_ | refine iH ?_ | refine jR ?_)
   exact j0 ⟨ia3,lv⟩
theorem Sep.tk7 {w0 w:Wd} {m:List (Option A9)} {x:A9} (H:Sep X N w0 w (rc 3 qC cs m::D)) (i:Nat) (hi:m[i]?=some (some x)) (hl:i*3+3<=cs.length):∃ u:Vl×Vl,Sep X N w0 w (ow (V:=Sl 1 xF) u.1 x.left::ow (V:=Sl 1 xF) u.2 x.bys::rc 3 qC cs (m.set i none)::D)/\cs[i*3]?=some u.1/\cs[i*3+1]?=some (.int .i64 x.right)/\cs[i*3+2]?=some u.2/\xL x.right:=by
 have h3:(cl cs 3 i).length=3:=by unfold cl;simp only[Bc,Dk];omega
 obtain⟨u,H2,e,hr⟩:=(H.tk i hi h3).l07o;refine⟨u,H2,?_,?_,?_,hr⟩
 ·have:=rF (cs:=cs) (sz:=3) (i:=i) (j:=0) (by omega);rw[e] at this;exact this.symm
 ·have:=rF (cs:=cs) (sz:=3) (i:=i) (j:=1) (by omega);rw[e] at this;exact this.symm
 ·have:=rF (cs:=cs) (sz:=3) (i:=i) (j:=2) (by omega);rw[e] at this;exact this.symm
theorem Sep.pt7 {w0 w:Wd} {m:List (Option A9)} {r:A9} (H:Sep X N w0 w (ow (V:=Sl 1 xF) va r.left::ow (V:=Sl 1 xF) vb r.bys::rc 3 qC cs m::D)) (i:Nat) (hi:m[i]?=some none) (h0:cs[i*3]?=some va) (h1:cs[i*3+1]?=some (.int .i64 r.right)) (h2:cs[i*3+2]?=some vb) (hr:xL r.right):Sep X N w0 w (rc 3 qC cs (m.set i (some r))::D):=by
 refine(H.l07c hr).pt hi ?_
 apply Cs
 intro q
 by_cases hq:q<3
 ·rw[rF hq]
  match q,hq with
  | 0,_=>exact h0.symm
  | 1,_=>exact h1.symm
  | 2,_=>exact h2.symm
 ·rw[Cg (by simp;omega),Cg (by unfold cl;simp only[Bc,Dk];omega)]
theorem Sep.bk7 {w0 w:Wd} {i:Nat} {m:List (Option A9)} {r:A9} (H:Sep X N w0 w (ow (V:=Sl 1 xF) va r.left::ow (V:=Sl 1 xF) vb r.bys::rc 3 qC cs m::D)) (hm:m[i]?=some none) (h0:cs[i*3]?=some va) (h1:i*3+1<cs.length) (h2:cs[i*3+2]?=some vb) (hr:xL r.right) :
 Sep X N w0 w (rc 3 qC (cs.set (i*3+1) (.int .i64 r.right)) (m.set i (some r))::D):=by
 have H2:Sep X N w0 w (ow (V:=qS 3 qC) (.agg [va,.int .i64 r.right,vb].toArray) (A9.mk r.left r.right r.bys)::rc 3 qC cs m::D):=H.l07c hr
 have H3:Sep X N w0 w (rc 3 qC (cs.set (i*3+1) (.int .i64 r.right)) m::ow (V:=qS 3 qC) (.agg [va,.int .i64 r.right,vb].toArray) (A9.mk r.left r.right r.bys)::D):=by
  refine H2.sw.ct (λj z hz q hq=>?_)
  have hj:j≠i:=by rintro rfl;rw[hm] at hz;cases hz
  exact Aj (by omega)
 refine H3.sw.pt hm ?_
 apply Cs
 intro q
 by_cases hq:q<3
 ·rw[rF hq]
  match q,hq with
  | 0,_=>rw[Aj (by omega)];exact h0.symm
  | 1,_=>rw[Al h1];rfl
  | 2,_=>rw[Aj (by omega)];exact h2.symm
 ·rw[Cg (by simp;omega),Cg (by unfold cl;simp only[Bc,Dk];omega)]
theorem xOq {α:Type} {l:List α} {i:Nat} {x:α}:((l.map some).set i none).set i (some x)=(l.set i x).map some:=by rw[List.set_set,List.map_set]
theorem oEx {α:Type} {l:List α} {i d:Nat} {x y:α} (h:i≠d) (hy:l[d]?=some y):((((l.map some).set i none).set d none).set i (some x)).set d (some y)=(l.set i x).map some:=by
 have hd:=(Ac.1 hy).1;rw[List.map_set]
 apply Cs
 intro q
 by_cases h1:d=q
 ·subst h1
  rw[Al (by simpa using hd),Aj h,Ay,hy];rfl
 ·rw[Aj h1]
  by_cases h2:i=q
  ·subst h2
   by_cases hl:i<l.length
   ·rw[Al (by simpa using hl),Al (by simpa using hl)]
   ·rw[Cg (by simp;omega),Cg (by simp;omega)]
  ·rw[Aj h2,Aj h1,Aj h2,Aj h2]
def dE (x0:B1):Option (List A9×Int):= xG (rE x0) λrs=>oZ (σ:=(List A9)×Int) (qM (λu s=>match s with | (rows,done)=>oZ (σ:=Int) (qM (λk at'=>xG (ix rows at') λx=>xG (ix x.left (u:Int)) λz=>if (z==0) then some (.go (at'+1)) else some (.brk at')) ((rows.length:Int) - done).toNat 0 done) λat'=>if (at'==(rows.length:Int)) then some (.go (rows,done)) else xG (ix rows done) λx=>xG (ix rows at') λy=>xG (ix ((rows.set done.toNat y).set at'.toNat x) done) λr0=>xG (ix r0.left (u:Int)) λz=>xG (bS r0 z x0.prime) λr1=>oZ (σ:=List A9) (qM (λi (rows:List A9)=>if ((i:Int) != done) then xG (ix rows (i:Int)) λri=>xG (ix ri.left (u:Int)) λzi=>if (zi != 0) then xG (ix rows done) λrd=>xG (cO ri rd zi x0.prime) λr'=>some (.go (rows.set ((i:Int)).toNat r')) else some (.go rows) else some (.go rows)) rows.length 0 (((rows.set done.toNat y).set at'.toNat x).set done.toNat r1)) λrows=>xG (ck (done+1)) λd=>some (.go (rows,d))) x0.unknowns.toNat 0 (rs,0)) λ(rows,done)=>some (rows,done)
set_option maxHeartbeats 2000000 in
theorem rP {x0:B1} (r:List A9×Int) (hR:dE x0=some r) {v0:Vl} (w0:Wd) (hN:HN B w0) (A0:Bo B w0 (Pt 3 oR) v0 x0):CG B w0 119 #[v0] (.v λv1'=>.fa (xL r.2) <| .st (.tuple #[v1',.int .i64 r.2]) λD=>rl 3 qC 177 v1' r.1::D):=by
 unfold dE at hR
 revert r
 refine vM Tryz.func119 [(0,v0)] hN λr=>?_
 repeat (first | refine lI rfl ?_ | refine cS ?_ | refine aY ?_ | refine iI ?_ | refine eR ?_ | refine fB ?_ | refine fJ ?_ | refine jU ?_ | refine iH ?_ | refine jR ?_)
 refine jB λrs crs=>?_;refine jk (λH=>xJg rs crs _ aA (H.a A0)) (λv11=>?_)
 repeat (first | refine lI rfl ?_ | refine cS ?_ | refine aY ?_ | refine iI ?_ | refine eR ?_ | refine fB ?_ | refine fJ ?_ | refine jU ?_ | refine iH ?_ | refine jR ?_)
 refine qZ (λ(rows,done)=>.v λv=>.fa (xL done/\0<=done) <| .st [(0,v0),(4,v),(5,.int .i64 done)] [rl 3 qC 177 v rows]) ?_ (λ(rows,done) v hd=>?_)
 ·refine c_k ?_
  refine jc (λu (rows,done)=>.v λv=>.fa (xL done/\0<=done) <| .st [(6,.int .i64 (u:Int)),(0,v0),(4,v),(5,.int .i64 done)] [rl 3 qC 177 v rows]) ⟨_,⟨by decide,by decide⟩,ls⟩ (λu (rows,done) K hu v hd=>?_) (λq u (rows,done) hu v hd=>?_)
  ·repeat (first | refine lI rfl ?_ | refine cS ?_ | refine aY ?_ | refine iI ?_ | refine eR ?_ | refine fB ?_ | refine fJ ?_ | refine jU ?_ | refine iH ?_ | refine jR ?_)
   refine jN A0 ?_;refine aF A0 oR.f1 (λ_ h=>?_);refine aP h (λiu=>?_)
   repeat (first | refine lI rfl ?_ | refine cS ?_ | refine aY ?_ | refine iI ?_ | refine eR ?_ | refine fB ?_ | refine fJ ?_ | refine jU ?_ | refine iH ?_ | refine jR ?_)
   refine kJ (show decide ((u:Int)<x0.unknowns)=false by simp;omega) ?_
   repeat (first | refine c_x ?_ | refine c_E ?_ | refine c_B ?_ | refine aY ?_)
   exact jf ⟨_,hd,ls⟩
  ·repeat (first | refine lI rfl ?_ | refine cS ?_ | refine aY ?_ | refine iI ?_ | refine eR ?_ | refine fB ?_ | refine fJ ?_ | refine jU ?_ | refine iH ?_ | refine jR ?_)
   refine jN A0 ?_;refine aF A0 oR.f1 (λ_ h=>?_);refine aP h (λiu=>?_)
   repeat (first | refine lI rfl ?_ | refine cS ?_ | refine aY ?_ | refine iI ?_ | refine eR ?_ | refine fB ?_ | refine fJ ?_ | refine jU ?_ | refine iH ?_ | refine jR ?_)
   refine kO (show decide ((u:Int)<x0.unknowns)=true by simp;omega) ?_
   repeat (first | refine lI rfl ?_ | refine cS ?_ | refine aY ?_ | refine iI ?_ | refine eR ?_ | refine fB ?_ | refine fJ ?_ | refine jU ?_ | refine iH ?_ | refine jR ?_)
   refine oKw ?_
   repeat (first | refine lI rfl ?_ | refine cS ?_ | refine aY ?_ | refine iI ?_ | refine eR ?_ | refine fB ?_ | refine fJ ?_ | refine jU ?_ | refine iH ?_ | refine jR ?_)
   refine qZ (λat'=>.fa (xL at'/\0<=at') <| .st [(0,v0),(4,v),(5,.int .i64 done),(6,.int .i64 (u:Int)),(7,.int .i64 at')] [rl 3 qC 177 v rows]) ?_ (λat' ha=>?_)
   ·refine c_k ?_
    refine jc (λk at'=>.fa (at'=done+k/\xL at') <| .st [(7,.int .i64 at'),(0,v0),(4,v),(5,.int .i64 done),(6,.int .i64 (u:Int))] [rl 3 qC 177 v rows]) ⟨⟨by simp,hd.1⟩,ls⟩ (λk at' K hk ha=>?_) (λq2 k at' hk ha=>?_)
    ·repeat (first | refine lI rfl ?_ | refine cS ?_ | refine aY ?_ | refine iI ?_ | refine eR ?_ | refine fB ?_ | refine fJ ?_ | refine jU ?_ | refine iH ?_ | refine jR ?_)
     refine jLc (λH=>H.l 0 rfl) (λil=>?_)
     repeat (first | refine lI rfl ?_ | refine cS ?_ | refine aY ?_ | refine iI ?_ | refine eR ?_ | refine fB ?_ | refine fJ ?_ | refine jU ?_ | refine iH ?_ | refine jR ?_)
     refine jeq 25 (show decide (at'<(rows.length:Int))=false by simp;omega) ?_
     repeat (first | refine lI rfl ?_ | refine cS ?_ | refine aY ?_ | refine iI ?_ | refine eR ?_ | refine fB ?_ | refine fJ ?_ | refine jU ?_ | refine iH ?_ | refine jR ?_)
     refine kJ rfl ?_
     repeat (first | refine c_x ?_ | refine c_E ?_ | refine c_B ?_ | refine aY ?_)
     exact jf ⟨⟨ha.2,by omega⟩,ls⟩
    ·repeat (first | refine lI rfl ?_ | refine cS ?_ | refine aY ?_ | refine iI ?_ | refine eR ?_ | refine fB ?_ | refine fJ ?_ | refine jU ?_ | refine iH ?_ | refine jR ?_)
     refine jLc (λH=>H.l 0 rfl) (λil=>?_)
     repeat (first | refine lI rfl ?_ | refine cS ?_ | refine aY ?_ | refine iI ?_ | refine eR ?_ | refine fB ?_ | refine fJ ?_ | refine jU ?_ | refine iH ?_ | refine jR ?_)
     refine jeq 25 (show decide (at'<(rows.length:Int))=true by simp;omega) ?_;refine jB λx cx=>?_;refine jB λz cz=>?_;refine cZ λw1 X1 N1 sm g1 e1 th _=>?_;have h:=g1.ld
     repeat (first | refine lI rfl ?_ | refine cS ?_ | refine aY ?_ | refine iI ?_ | refine eR ?_ | refine fB ?_ | refine fJ ?_ | refine jU ?_ | refine iH ?_ | refine jR ?_)
     refine jI h cx (λ_ h1=>?_);refine aF h1 qC.f0 (λ_ h2=>?_);refine aR h2 (λ_ h3=>?_)
     repeat (first | refine lI rfl ?_ | refine cS ?_ | refine aY ?_ | refine iI ?_ | refine eR ?_ | refine fB ?_ | refine fJ ?_ | refine jU ?_ | refine iH ?_ | refine jR ?_)
     refine jI h3 cz (λ_ h4=>?_);refine aP h4 (λ_=>?_)
     repeat (first | refine lI rfl ?_ | refine cS ?_ | refine aY ?_ | refine iI ?_ | refine eR ?_ | refine fB ?_ | refine fJ ?_ | refine jU ?_ | refine iH ?_ | refine jR ?_)
     refine jif (λhz=>?_) (λhz=>?_)
     ·repeat (first | refine lI rfl ?_ | refine cS ?_ | refine aY ?_ | refine iI ?_ | refine eR ?_ | refine fB ?_ | refine fJ ?_ | refine jU ?_ | refine iH ?_ | refine jR ?_)
      refine c_kg ?_
      repeat (first | refine lI rfl ?_ | refine cS ?_ | refine aY ?_ | refine iI ?_ | refine eR ?_ | refine fB ?_ | refine fJ ?_ | refine jU ?_ | refine iH ?_ | refine jR ?_)
      refine bN (show ck (at'+1)=some (at'+1) by unfold ck;rw[if_pos];have:=ha.2.1;have:=il.2;omega) ?_
      repeat (first | refine lI rfl ?_ | refine cS ?_ | refine aY ?_ | refine iI ?_ | refine eR ?_ | refine fB ?_ | refine fJ ?_ | refine jU ?_ | refine iH ?_ | refine jR ?_)
      refine aI th ?_;exact jg ⟨⟨by omega,by have:=ha.2.1;omega,by have:=il.2;omega⟩,ls⟩
     ·refine jbk ?_
      refine aI th ?_
      repeat (first | refine c_x ?_ | refine c_E ?_ | refine c_B ?_ | refine aY ?_)
      exact jf ⟨⟨ha.2,by omega⟩,ls⟩
   ·repeat (first | refine lI rfl ?_ | refine cS ?_ | refine aY ?_ | refine iI ?_ | refine eR ?_ | refine fB ?_ | refine fJ ?_ | refine jU ?_ | refine iH ?_ | refine jR ?_)
    refine jLc (λH=>H.l 0 rfl) (λil=>?_)
    repeat (first | refine lI rfl ?_ | refine cS ?_ | refine aY ?_ | refine iI ?_ | refine eR ?_ | refine fB ?_ | refine fJ ?_ | refine jU ?_ | refine iH ?_ | refine jR ?_)
    refine jif (λhz=>?_) (λhz=>?_)
    ·repeat (first | refine c_x ?_ | refine c_E ?_ | refine c_B ?_ | refine aY ?_)
     repeat (first | refine lI rfl ?_ | refine cS ?_ | refine aY ?_ | refine iI ?_ | refine eR ?_ | refine fB ?_ | refine fJ ?_ | refine jU ?_ | refine iH ?_ | refine jR ?_)
     refine xU (vY hu iu) ?_
     repeat (first | refine lI rfl ?_ | refine cS ?_ | refine aY ?_ | refine iI ?_ | refine eR ?_ | refine fB ?_ | refine fJ ?_ | refine jU ?_ | refine iH ?_ | refine jR ?_)
     exact jg ⟨_,hd,ls⟩
    ·repeat (first | refine lI rfl ?_ | refine cS ?_ | refine aY ?_ | refine iI ?_ | refine eR ?_ | refine fB ?_ | refine fJ ?_ | refine jU ?_ | refine iH ?_ | refine jR ?_)
     refine jB λx cx=>?_;refine jB λy cy=>?_;refine jB λr0 cr0=>?_;refine jB λz cz=>?_;refine jB λr1 cr1=>?_;have hx:=(aE cx).2;have hy:=(aE cy).2;have lx:=(Ac.1 hx).1;have ly:=(Ac.1 hy).1;refine xMa (γ:=Nat×Nat×List Vl) (E:=λu=>[bx u.1 u.2.2 177,rc 3 qC u.2.2 (rows.map some)]) (λH=>H.opn (by omega)) (λ⟨g,c,cs⟩ hV=>?_);refine jfc (λH=>H.sw.one1) (λqg=>?_);have qd:rows.length*3<=cs.length:=hV.le;obtain⟨rfl,qh⟩:=hV;have dl:0<=done/\done<(rows.length:Int):=⟨hd.2,by omega⟩;have al:0<=at'/\at'<(rows.length:Int):=⟨ha.2,by omega⟩;have k1:=xAt (cs:=cs) (sz:=3) lx qd;have k2:=xAt (cs:=cs) (sz:=3) ly qd;refine jix dl ?_;refine aG 0 ⟨rfl,rfl,(rfl:_=cl cs 3 done.toNat)⟩ ?_ k1
     repeat (first | refine lI rfl ?_ | refine cS ?_ | refine aY ?_ | refine iI ?_ | refine eR ?_ | refine fB ?_ | refine fJ ?_ | refine jU ?_ | refine iH ?_ | refine jR ?_)
     refine aK rfl (λb8=>?_);refine zX (hv:=λ_ v hv=>qg _ _ hx v hv) ⟨rfl,rfl,(show _=cl cs 3 done.toNat by simp [k1])⟩ ?_ k1 (ho:=by rw[k1];rfl)
     repeat (first | refine lI rfl ?_ | refine cS ?_ | refine aY ?_ | refine iI ?_ | refine eR ?_ | refine fB ?_ | refine fJ ?_ | refine jU ?_ | refine iH ?_ | refine jR ?_)
     refine jix al ?_;refine aG 1 ⟨rfl,rfl,(rfl:_=cl cs 3 at'.toNat)⟩ ?_ k2;refine jix dl ?_;refine js [1,0,2] rfl ?_;refine zX (hv:=λ_ v hv=>qg _ _ hy v hv) ⟨rfl,rfl,(rfl:_=wr cs (done.toNat*3) (cl cs 3 at'.toNat))⟩ ?_ k2 (ho:=by rw[k2,Nat.ble_eq];omega)
     repeat (first | refine lI rfl ?_ | refine cS ?_ | refine aY ?_ | refine iI ?_ | refine eR ?_ | refine fB ?_ | refine fJ ?_ | refine jU ?_ | refine iH ?_ | refine jR ?_)
     refine aG 1 ⟨rfl,rfl,(show _=cl cs 3 done.toNat by rw[Er];exact Ck (by omega))⟩ ?_ k1;refine jix al ?_;refine zX (hv:=λ_ v hv=>qg _ _ hx v hv) ⟨rfl,rfl,(rfl:_=wr (wr cs (done.toNat*3) (cl cs 3 at'.toNat)) (at'.toNat*3) (cl cs 3 done.toNat))⟩ ?_ k1 (ho:=by rw[k1,wM (by omega),Nat.ble_eq];omega)
     repeat (first | refine lI rfl ?_ | refine cS ?_ | refine aY ?_ | refine iI ?_ | refine eR ?_ | refine fB ?_ | refine fJ ?_ | refine jU ?_ | refine iH ?_ | refine jR ?_)
     refine js [2,0] rfl ?_;refine jh (λH=>(H.swp hx hy qd).sw) ?_
     have qi:(wr (wr cs (done.toNat*3) (cl cs 3 at'.toNat)) (at'.toNat*3) (cl cs 3 done.toNat)).length=cs.length:=by rw[wM (by rw[wM (by omega)];omega),wM (by omega)]
     have qe:((rows.set done.toNat y).set at'.toNat x).length=rows.length:=by simp
     generalize wr (wr cs (done.toNat*3) (cl cs 3 at'.toNat)) (at'.toNat*3) (cl cs 3 done.toNat)=cs2 at qi ⊢;generalize (rows.set done.toNat y).set at'.toNat x=rows1 at qe cr0 ⊢;have h0:=(aE cr0).2;refine xMa (γ:=Vl×Vl) (E:=λu=>[ow (V:=Sl 1 xF) u.1 r0.left,ow (V:=Sl 1 xF) u.2 r0.bys,rc 3 qC cs2 ((rows1.map some).set done.toNat none),bx g cs2 177]) (λH=>H.sw.tk7 done.toNat (by rw[Ay,h0];rfl) (by omega)) (λ⟨va,vb⟩ ⟨q0,q1,q2,i0⟩=>?_);refine js [3,0,1,2] rfl ?_;refine jh (λH=>H.mg) ?_;refine cZ λw1 X1 N1 sm g1 e1 th _=>?_;have K:=g1.l.bk;have h:=g1.r.od;refine jD ?_;refine zF [0,1] rfl ?_;refine xGm 2 rfl dl ?_;refine zF [3,4] rfl ?_;refine xGm 5 rfl dl ?_;refine kB 6 rfl e2 ?_;refine iG 7 rfl K ⟨rfl,q0⟩ ?_;refine zF [8] rfl ?_;refine pQ 9 rfl h cz (λ_ h1=>?_);refine aW 10 rfl h1 (λiz=>?_);refine zF [11] rfl ?_;refine jvN 12 rfl A0 ?_;refine iO 13 rfl A0 oR.f0 (λ_ h2=>?_);refine aW (s:=λH w l=>sm.trans (Sm.mono (H.v w l) th.2.2)) 14 rfl h2 (λip=>?_);refine jF9 15 rfl ?_;refine aI th ?_;refine jh (λH=>H.um) ?_;refine jko 3 (λS H=>sT r1 cr1 _ H.hN S q0 q1 q2 i0 iz ip) (λi1=>?_);refine cS ?_;refine aY ?_;refine iT ?_;refine js [1,2,3,0] rfl ?_;refine jh (λH=>(H.bk7 (i:=done.toNat) (Al (by simp;omega)) q0 (by omega) q2 i1).sw) ?_;rw[xOq];refine jh (λH=>H.cls (v:=.slice (some ⟨g,0,none⟩) rows.length c) ⟨by rw[Cn,qe],(show(rows1.set done.toNat r1).length<=c/\c<=maxLen/\(cs2.set (done.toNat*3+1) (.int .i64 r1.right)).length=c*3 by simp only[Cn];rw[qe,qi];exact qh)⟩) ?_
     have qj:(rows1.set done.toNat r1).length=rows.length:=by simp [qe]
     generalize rows1.set done.toNat r1=rows2 at qj ⊢
     repeat (first | refine lI rfl ?_ | refine cS ?_ | refine aY ?_ | refine iI ?_ | refine eR ?_ | refine fB ?_ | refine fJ ?_ | refine jU ?_ | refine iH ?_ | refine jR ?_)
     refine qZ (λrows'=>.fa (rows'.length=rows.length) <| .st [(0,v0),(4,.slice (some ⟨g,0,none⟩) rows.length c),(5,.int .i64 done),(6,.int .i64 (u:Int))] [rl 3 qC 177 (.slice (some ⟨g,0,none⟩) rows.length c) rows']) ?_ (λrows' qc=>?_)
     ·refine c_k ?_
      refine jc (λi rows'=>.fa (rows'.length=rows.length) <| .st [(9,.int .i64 (i:Int)),(0,v0),(4,.slice (some ⟨g,0,none⟩) rows.length c),(5,.int .i64 done),(6,.int .i64 (u:Int))] [rl 3 qC 177 (.slice (some ⟨g,0,none⟩) rows.length c) rows']) ⟨qj,ls⟩ (λi rows' K hi qc=>?_) (λq3 i rows' hi qc=>?_)
      ·repeat (first | refine lI rfl ?_ | refine cS ?_ | refine aY ?_ | refine iI ?_ | refine eR ?_ | refine fB ?_ | refine fJ ?_ | refine jU ?_ | refine iH ?_ | refine jR ?_)
       refine jLc (λH=>H.l 0 rfl) (λil=>?_)
       repeat (first | refine lI rfl ?_ | refine cS ?_ | refine aY ?_ | refine iI ?_ | refine eR ?_ | refine fB ?_ | refine fJ ?_ | refine jU ?_ | refine iH ?_ | refine jR ?_)
       refine kJ (show decide ((i:Int)<(rows'.length:Int))=false by simp;omega) ?_
       repeat (first | refine c_x ?_ | refine c_E ?_ | refine c_B ?_ | refine aY ?_)
       exact jf ⟨qc,ls⟩
      ·repeat (first | refine lI rfl ?_ | refine cS ?_ | refine aY ?_ | refine iI ?_ | refine eR ?_ | refine fB ?_ | refine fJ ?_ | refine jU ?_ | refine iH ?_ | refine jR ?_)
       refine jLc (λH=>H.l 0 rfl) (λil=>?_)
       repeat (first | refine lI rfl ?_ | refine cS ?_ | refine aY ?_ | refine iI ?_ | refine eR ?_ | refine fB ?_ | refine fJ ?_ | refine jU ?_ | refine iH ?_ | refine jR ?_)
       refine kO (show decide ((i:Int)<(rows'.length:Int))=true by simp;omega) ?_
       repeat (first | refine lI rfl ?_ | refine cS ?_ | refine aY ?_ | refine iI ?_ | refine eR ?_ | refine fB ?_ | refine fJ ?_ | refine jU ?_ | refine iH ?_ | refine jR ?_)
       refine oKw ?_
       repeat (first | refine lI rfl ?_ | refine cS ?_ | refine aY ?_ | refine iI ?_ | refine eR ?_ | refine fB ?_ | refine fJ ?_ | refine jU ?_ | refine iH ?_ | refine jR ?_)
       refine fD 82 (λqk=>?_) (λqk=>?_)
       ·have qa:i≠done.toNat:=by simp at qk;omega
        refine jB λri cri=>?_;refine jB λzi czi=>?_;refine cZ λw1 X1 N1 sm g1 e1 th _=>?_;have h:=g1.ld
        repeat (first | refine lI rfl ?_ | refine cS ?_ | refine aY ?_ | refine iI ?_ | refine eR ?_ | refine fB ?_ | refine fJ ?_ | refine jU ?_ | refine iH ?_ | refine jR ?_)
        refine jI h cri (λ_ h1=>?_);refine aF h1 qC.f0 (λ_ h2=>?_);refine aR h2 (λ_ h3=>?_)
        repeat (first | refine lI rfl ?_ | refine cS ?_ | refine aY ?_ | refine iI ?_ | refine eR ?_ | refine fB ?_ | refine fJ ?_ | refine jU ?_ | refine iH ?_ | refine jR ?_)
        refine jI h3 czi (λ_ h4=>?_);refine aP h4 (λ_=>?_)
        repeat (first | refine lI rfl ?_ | refine cS ?_ | refine aY ?_ | refine iI ?_ | refine eR ?_ | refine fB ?_ | refine fJ ?_ | refine jU ?_ | refine iH ?_ | refine jR ?_)
        refine jif (λhz=>?_) (λhz=>?_)
        ·refine jB λrd crd=>?_
         refine jB λr' cr'=>?_;refine aI th ?_;have ql:=(aE cri).2;have qf:=(aE crd).2;refine xMa (γ:=Nat×Nat×List Vl) (E:=λu=>[bx u.1 u.2.2 177,rc 3 qC u.2.2 (rows'.map some)]) (λH=>H.opn (by omega)) (λ⟨g',c',cs⟩ hV=>?_);have qd:rows'.length*3<=cs.length:=hV.le;obtain⟨he,qh⟩:=hV;simp only[Value.slice.injEq,Option.some.injEq,Addr.mk.injEq,and_true] at he;obtain⟨rfl,_,rfl⟩:=he
         have m1:(rows'.map some)[i]?=some (some ri):=by rw[Ay];exact congrArg (Option.map some) ql
         have m2:((rows'.map some).set i none)[done.toNat]?=some (some rd):=by rw[Aj qa,Ay,qf];rfl
         refine xMa (γ:=Vl×Vl) (E:=λu=>[ow (V:=Sl 1 xF) u.1 ri.left,ow (V:=Sl 1 xF) u.2 ri.bys,rc 3 qC cs ((rows'.map some).set i none),bx g cs 177]) (λH=>H.sw.tk7 i m1 (by omega)) (λ⟨va,vb⟩ ⟨q0,q1,q2,i0⟩=>?_);refine js [2,0,1,3] rfl ?_;refine xMa (γ:=Vl×Vl) (E:=λu=>[ow (V:=Sl 1 xF) u.1 rd.left,ow (V:=Sl 1 xF) u.2 rd.bys,rc 3 qC cs (((rows'.map some).set i none).set done.toNat none),ow (V:=Sl 1 xF) va ri.left,ow (V:=Sl 1 xF) vb ri.bys,bx g cs 177]) (λH=>H.tk7 done.toNat m2 (by have:=(Ac.1 qf).1;omega)) (λ⟨wa,wb⟩ ⟨d0,d1,d2,j0⟩=>?_);refine jh (λH=>H.mg) ?_;refine cZ λw2 X2 N2 sm2 g2 e2' th2 _=>?_;have A1:=g2.l.od;have A2:=g2.r.od;refine js [3,1,2,0] rfl ?_;refine jh (λH=>H.mg) ?_;refine cZ λw3 X3 N3 sm3 g3 e3' th3 _=>?_;have K:=g3.l.bk;have h:=g3.r.od
         have il2:(0:Int)<=(i:Int)/\(i:Int)<(rows.length:Int):=by omega
         refine jD ?_;refine zF [0,1] rfl ?_;refine xGm 2 rfl il2 ?_;refine zF [3,4] rfl ?_;refine xGm 5 rfl dl ?_;refine zF [6,7] rfl ?_;refine xGm 8 rfl il2 ?_;refine kB 9 rfl e2 ?_;refine iG 10 rfl K ⟨rfl,q0⟩ ?_;refine zF [11] rfl ?_;refine pQ 12 rfl h czi (λ_ h1=>?_);refine aW 13 rfl h1 (λiz=>?_);refine zF [14] rfl ?_;refine jvN 15 rfl A0 ?_;refine iO 16 rfl A0 oR.f0 (λ_ h2=>?_);refine aW (s:=λH w l=>sm2.trans (Sm.mono (sm3.trans (Sm.mono (H.v w l) th3.2.2)) th2.2.2)) 17 rfl h2 (λip=>?_);refine jF9 18 rfl ?_;refine aI th3 ?_;refine jh (λH=>H.um) ?_;refine jko 3 (λS H=>xDe r' cr' _ H.hN S q0 q1 q2 i0 (H.u A1) (H.u A2) d0 d1 d2 j0 (by omega) iz ip) (λi1=>?_);refine cS ?_;refine aY ?_;refine iT ?_;refine aI th2 ?_;refine jh (λH=>H.um) ?_;refine js [3,4,5,0,1,2] rfl ?_;have qm:i<rows'.length:=(Ac.1 ql).1;have qn:done.toNat<rows'.length:=(Ac.1 qf).1;refine jh (λH=>H.bk7 (i:=i) (by rw[Aj (λh=>qa h.symm)];exact Al (by simpa using qm)) q0 (by omega) q2 i1) ?_;refine js [1,2,0,3] rfl ?_;refine jh (λH=>(H.pt7 done.toNat (by rw[Aj qa];exact Al (by simpa using qn)) (by rw[Aj (by omega)];exact d0) (by rw[Aj (by omega)];exact d1) (by rw[Aj (by omega)];exact d2) j0).sw) ?_;rw[oEx qa qf];refine jh (λH=>H.cls (v:=.slice (some ⟨g,0,none⟩) rows.length c) ⟨by rw[Cn,qc],(show(rows'.set i r').length<=c/\c<=maxLen/\(cs.set (i*3+1) (.int .i64 r'.right)).length=c*3 by simp only[Cn];exact qh)⟩) ?_
         repeat (first | refine lI rfl ?_ | refine cS ?_ | refine aY ?_ | refine iI ?_ | refine eR ?_ | refine fB ?_ | refine fJ ?_ | refine jU ?_ | refine iH ?_ | refine jR ?_)
         refine xU (qG qm il) ?_
         repeat (first | refine lI rfl ?_ | refine cS ?_ | refine aY ?_ | refine iI ?_ | refine eR ?_ | refine fB ?_ | refine fJ ?_ | refine jU ?_ | refine iH ?_ | refine jR ?_)
         exact jg ⟨by rw[Cn];exact qc,ls⟩
        ·refine aI th ?_
         repeat (first | refine lI rfl ?_ | refine cS ?_ | refine aY ?_ | refine iI ?_ | refine eR ?_ | refine fB ?_ | refine fJ ?_ | refine jU ?_ | refine iH ?_ | refine jR ?_)
         refine xU (qG (show i<rows'.length by omega) il) ?_
         repeat (first | refine lI rfl ?_ | refine cS ?_ | refine aY ?_ | refine iI ?_ | refine eR ?_ | refine fB ?_ | refine fJ ?_ | refine jU ?_ | refine iH ?_ | refine jR ?_)
         exact jg ⟨qc,ls⟩
       ·repeat (first | refine lI rfl ?_ | refine cS ?_ | refine aY ?_ | refine iI ?_ | refine eR ?_ | refine fB ?_ | refine fJ ?_ | refine jU ?_ | refine iH ?_ | refine jR ?_)
        refine kJ rfl ?_
        repeat (first | refine lI rfl ?_ | refine cS ?_ | refine aY ?_ | refine iI ?_ | refine eR ?_ | refine fB ?_ | refine fJ ?_ | refine jU ?_ | refine iH ?_ | refine jR ?_)
        refine xU (qG (show i<rows'.length by omega) il) ?_
        repeat (first | refine lI rfl ?_ | refine cS ?_ | refine aY ?_ | refine iI ?_ | refine eR ?_ | refine fB ?_ | refine fJ ?_ | refine jU ?_ | refine iH ?_ | refine jR ?_)
        exact jg ⟨qc,ls⟩
     ·repeat (first | refine lI rfl ?_ | refine cS ?_ | refine aY ?_ | refine iI ?_ | refine eR ?_ | refine fB ?_ | refine fJ ?_ | refine jU ?_ | refine iH ?_ | refine jR ?_)
      refine jB λd cd=>?_;refine bN cd ?_
      repeat (first | refine lI rfl ?_ | refine cS ?_ | refine aY ?_ | refine iI ?_ | refine eR ?_ | refine fB ?_ | refine fJ ?_ | refine jU ?_ | refine iH ?_ | refine jR ?_)
      refine xU (vY hu iu) ?_
      repeat (first | refine lI rfl ?_ | refine cS ?_ | refine aY ?_ | refine iI ?_ | refine eR ?_ | refine fB ?_ | refine fJ ?_ | refine jU ?_ | refine iH ?_ | refine jR ?_)
      exact jg ⟨_,⟨kA cd,by unfold ck at cd;split at cd<;>cases cd;omega⟩,ls⟩
 ·repeat (first | refine lI rfl ?_ | refine cS ?_ | refine aY ?_ | refine iI ?_ | refine eR ?_ | refine fB ?_ | refine fJ ?_ | refine jU ?_ | refine iH ?_ | refine jR ?_)
  exact j2 (rt rfl) (rt rfl) ⟨_,hd.1,lv⟩
end Go.Proofs.YtnjlbbfcngjhmaaGreat
