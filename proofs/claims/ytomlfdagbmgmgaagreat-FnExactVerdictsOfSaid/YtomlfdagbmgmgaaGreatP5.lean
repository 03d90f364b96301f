import Derived.Test.YtomlfdagbmgmgaaGreatNW
namespace Go.Proofs.YtomlfdagbmgmgaaGreat
set_option linter.unusedVariables false
set_option linter.unusedSimpArgs false
section
open Go.RowKit
def gdk (k:Nat):List Oper->Bool
 | []=>false
 | o::_=>match o.op with
  | .nilCheck _=>false
  | _=>match o.guard with
   | none=>true
   | some (j,_)=>Nat.beq (j+1) k
def gdf:List Oper->Nat
 | []=>0
 | o::_=>match o.guard with
  | none=>0
  | some (j,_)=>j+1
def oCn (ops:Array Oper) (n g:Nat):Nat->List (Nat×Vl)->List Oper->Option (List (Nat×Vl)×List Oper)
 | 0,L,l=>some (L,l)
 | k+1,L,l=>match gdk g l with
  | true=>match mX ops n 1 L l with
   | some (L',l')=>oCn ops n g k L' l'
   | none=>some (L,l)
  | false=>some (L,l)
def oLa (ops:Array Oper) (n:Nat) (L:List (Nat×Vl)) (l:List Oper):Option (List (Nat×Vl)×List Oper):= match mX ops n 1 L l with
 | some (L',l')=>oCn ops n (gdf l) 100 L' l'
 | none=>none
def noG:List Oper->Bool
 | []=>true
 | o::l=>match o.guard with
  | none=>noG l
  | some _=>false
class NT {ρ:Type} (t:Option ρ):Prop
instance {ρ α:Type} {e:Option α} {f:α->Option ρ}:NT (xH e f):=⟨⟩
instance {ρ:Type} {c:Prop} [Decidable c] {a b:Option ρ}:NT (if c then a else b):=⟨⟩
instance {ρ:Type} {x:ρ}:NT (some x):=⟨⟩
instance {ρ σ:Type} {body:Nat->σ->Option (Ctl σ ρ)} {l k:Nat} {s:σ}:NT (qU body l k s):=⟨⟩
section
variable {P:Program} {ops:Array Oper} {Q Q':Exit->Act->Wd->Prop} {fn:Func} {n:Nat} {X X':List Nat} {N N' M N1 Mv:Nat->Prop} {w0 w w1:Wd} {L L':List (Nat×Vl)} {D D' D0:List As} {A B:As} {ρ σ τ:Type} {tt:Option ρ} {CC:ρ->Prop} {G G' K:Act->Wd->Prop} {R:Ending->Wd->Prop} {l l' rest:List Oper} {d f:Nat} {ls:Array Bool} {ty:Ty} {pos:String} {af:Array Edge} {g:Option (Nat×Bool)}
theorem oLc {i}:∀ (k:Nat) {a:Act} {w:Wd} {L:List (Nat×Vl)} {l:List Oper} (F:Sk a n L) (e:oCn ops n i k L l=some (L',l')) (c:∀ a',Sk a' n L'->wpList P ops Q l' a' w),wpList P ops Q l a w
 | 0,a,w,L,l,F,e,c=>by cases e;exact c a F
 | k+1,a,w,L,l,F,e,c=>by
  unfold oCn at e
  split at e
  ·split at e
   ·rename_i L' l' h
    exact xXk 1 F h (λa' F'=>oLc k F' e c)
   ·cases e;exact c a F
  ·cases e;exact c a F
theorem jAm (e:oLa ops n L l=some (L',l')) (h:J n X N w0 L' D tt CC (wpList P ops Q l')):J n X N w0 L D tt CC (wpList P ops Q l):=⟨λa w F H x h1 h2=>by
 unfold oLa at e
 split at e
 ·rename_i L1 l1 h3
  exact xXk 1 F h3 (λa' F'=>oLc 100 F' e (λa' F'=>h.h a' w F' H x h1 h2))
 ·cases e⟩
theorem c_s {a b} (h:J n X N w0 L D tt CC (a.wp P (Exit.then (b.wp P Q) Q))):J n X N w0 L D tt CC ((Code.seq a b).wp P Q):=⟨λa w F H x p q=>kQ (h.h a w F H x p q)⟩
theorem c_g {i} [NT tt] (h:J n X N w0 L D tt CC (wpList P l.toArray Q l)):J n X N w0 L D tt CC ((Code.region i l.toArray false).wp P Q):=⟨λa w F H x p q=>bL (h.h a w F H x p q)⟩
theorem c_G {i} (h:J n X N w0 L D tt CC (wpList P l.toArray Q l)) (hg:noG l=true:=by rfl):J n X N w0 L D tt CC ((Code.region i l.toArray false).wp P Q):=⟨λa w F H x p q=>bL (h.h a w F H x p q)⟩
theorem c_e (h:J n X N w0 L D tt CC (Q .normal)):J n X N w0 L D tt CC (wpList P ops Q []):=⟨λa w F H x p q=>dM (h.h a w F H x p q)⟩
theorem c_n (h:J n X N w0 L D tt CC K):J n X N w0 L D tt CC (Exit.then K Q .normal):=⟨λa w F H x p q=>aU (h.h a w F H x p q)⟩
theorem c_E {i} (h:J n X N w0 L D tt CC (Q (.exit i))):J n X N w0 L D tt CC (Exit.then K Q (.exit i)):=⟨λa w F H x p q=>xNa (h.h a w F H x p q)⟩
theorem c_R (h:J n X N w0 L D tt CC (Q .ret)):J n X N w0 L D tt CC (Exit.then K Q .ret):=⟨λa w F H x p q=>uR (h.h a w F H x p q)⟩
theorem c_N {i} (h:J n X N w0 L D tt CC (Q .normal)):J n X N w0 L D tt CC (Exit.inBlock i Q .normal):=⟨λa w F H x p q=>xNc (h.h a w F H x p q)⟩
theorem c_B {i} (h:J n X N w0 L D tt CC (Q .normal)):J n X N w0 L D tt CC (Exit.inBlock i Q (.exit i)):=⟨λa w F H x p q=>xUw (h.h a w F H x p q)⟩
theorem c_k {i b} [NT tt] (h:J n X N w0 L D tt CC (b.wp P (Exit.inBlock i Q))):J n X N w0 L D tt CC ((Code.block i b).wp P Q):=⟨λa w F H x p q=>pU (h.h a w F H x p q)⟩
theorem oMg {i b c} (h:J n X N w0 L D tt CC ((Code.seq b c).wp P (Exit.inBlock i Q))):J n X N w0 L D tt CC ((Code.block i (Code.seq b c)).wp P Q):=⟨λa w F H x p q=>pU (h.h a w F H x p q)⟩
theorem c_kg {i j b op} (h:J n X N w0 L D tt CC ((Code.region j op b).wp P (Exit.inBlock i Q))):J n X N w0 L D tt CC ((Code.block i (Code.region j op b)).wp P Q):=⟨λa w F H x p q=>pU (h.h a w F H x p q)⟩
theorem c_K (h:J n X N w0 L D tt CC (Q .normal)):J n X N w0 L D tt CC (Code.skip.wp P Q):=⟨λa w F H x p q=>gT (h.h a w F H x p q)⟩
theorem c_x {i} (h:J n X N w0 L D tt CC (Q (.exit i))):J n X N w0 L D tt CC ((Code.exit i).wp P Q):=⟨λa w F H x p q=>xDw (h.h a w F H x p q)⟩
theorem c_t (h:J n X N w0 L D tt CC (Q .ret)):J n X N w0 L D tt CC (Code.ret.wp P Q):=⟨λa w F H x p q=>uZ (h.h a w F H x p q)⟩
end
section
variable {P:Program} {ops:Array Oper} {Q Q':Exit->Act->Wd->Prop} {fn:Func} {n:Nat} {X X':List Nat} {N N' M N1 Mv:Nat->Prop} {w0 w w1:Wd} {L L':List (Nat×Vl)} {D D' D0 E E0 Kd:List As} {A B:As} {ρ σ τ:Type} {tt:Option ρ} {CC:ρ->Prop} {G G' K:Act->Wd->Prop} {R:Ending->Wd->Prop} {l l' rest:List Oper} {d f:Nat} {ls:Array Bool} {ty:Ty} {pos:String} {af:Array Edge} {g:Option (Nat×Bool)}
section
variable {t:Ty} {x y c:Operand} {kk:Nat} {bo:BinOp} {t':Ty} {pa:Array (Nat×Operand)} {ag:Array Operand} {at':Array Ty} {bb:Builtin} {o:Oper} {v:ρ} {c0:Code} {dd:Option Tmp}
end
end
section
variable {P:Program} {ops:Array Oper} {Q Q':Exit->Act->Wd->Prop} {fn:Func} {n:Nat} {X X':List Nat} {N N' M N1 Mv:Nat->Prop} {w0 w w1:Wd} {L L':List (Nat×Vl)} {D D' D0 E E0 Kd:List As} {A B:As} {ρ σ τ:Type} {tt:Option ρ} {CC:ρ->Prop} {G G' K:Act->Wd->Prop} {R:Ending->Wd->Prop} {l l' rest:List Oper} {d f:Nat} {ls:Array Bool} {ty:Ty} {pos:String} {af:Array Edge} {g:Option (Nat×Bool)}
end
end
section

end
section
set_option maxHeartbeats 1000000
set_option maxRecDepth 100000
open Go.RowKit
variable {D:List As} {X:List Nat} {N:Nat->Prop} {cs:List Vl} {vb:Vl} {va:Vl} {B:Nat->Prop}
theorem iW {p q:Prop} (hq:q) (h:q->p:=by intro hh;(repeat first | refine jAm rfl ?_ | refine c_e ?_ | refine c_n ?_ | refine c_N ?_ | refine c_s ?_ | refine c_g ?_ | refine c_G ?_ | refine c_t ?_ | refine c_K ?_ | refine c_R ?_);exact hh):p:=h hq
theorem nz1 {p q:Prop} (hq:q) (h:q->p:=by intro hh;(repeat first | refine c_e ?_ | refine c_n ?_);exact hh):p:=h hq
theorem nz2 {p q:Prop} (hq:q) (h:q->p:=by intro hh;(repeat first | refine c_s ?_ | refine c_g ?_ | refine c_G ?_);exact hh):p:=h hq
theorem nz3 {p q:Prop} (hq:q) (h:q->p:=by intro hh;(repeat first | refine c_x ?_ | refine c_E ?_ | refine c_B ?_ | refine c_n ?_);exact hh):p:=h hq
theorem nz4 {p q:Prop} (hq:q) (h:q->p:=by intro hh;(repeat first | refine c_N ?_ | refine c_n ?_ | refine c_g ?_);exact hh):p:=h hq
theorem nz5 {p q:Prop} (hq:q) (h:q->p:=by intro hh;(repeat first | refine c_e ?_ | refine c_n ?_ | refine c_N ?_ | refine c_s ?_ | refine c_g ?_ | refine c_G ?_ | refine c_t ?_ | refine c_K ?_ | refine c_R ?_);exact hh):p:=h hq
instance:Fd Tryz.prog 194 0 0:=⟨oDm⟩
instance:Sz Tryz.prog 194 3:=⟨Tryz.sizeOf194⟩
instance:Ag Tryz.prog 194 true:=⟨Tryz.isAgg194⟩
theorem Sep.l07o {w0 w:Wd} {vs:List Vl} {x:B2} (H:Sep X N w0 w (ow (V:=qR 3 qO) (.agg vs.toArray) x::D)):∃ u:Vl×Vl,Sep X N w0 w (ow (V:=Sl 1 xF) u.1 x.left::ow (V:=Sl 1 xF) u.2 x.bys::D)/\vs=[u.1,.int .i64 x.right,u.2]/\xM x.right:=by
 obtain⟨Y0,⟨b0,r0,_⟩,_⟩:=H.hd;obtain⟨v0,v2,b00,b02,e,k0,k1,k2,eb⟩:=qO.rd r0
 have e2:vs=[v0,.int .i64 x.right,v2]:=by have:=congrArg Value.cells e;simpa [Value.cells] using this
 refine⟨(v0,v2),Sep.um (H.imp (B:=pr (ow (V:=Sl 1 xF) v0 x.left) (ow (V:=Sl 1 xF) v2 x.bys)) (λ{Y} hP hY=>?_) (λc hc=>hc.elim (λh=>h.elim) (λh=>h.elim))),e2,k1⟩;obtain⟨bs,r,o,hY⟩:=hP;obtain⟨u0,u2,c0,c2,e,k0,k1,k2,eb⟩:=qO.rd r;subst eb;rw[e2] at e
 simp at e
 obtain⟨rfl,rfl⟩:=e;exact⟨c0,c2,⟨c0,k0,o.left,λ_ h=>h⟩,⟨c2,k2,o.right,λ_ h=>h⟩,o.disj,λc hc=>hY c (Bq _ hc),λc hc=>hY c (Bm _ hc)⟩
theorem Sep.l07c {w0 w:Wd} {v0 v2:Vl} {l b:List Int} {r:Int} (H:Sep X N w0 w (ow (V:=Sl 1 xF) v0 l::ow (V:=Sl 1 xF) v2 b::D)) (hr:xM r):Sep X N w0 w (ow (V:=qR 3 qO) (.agg [v0,.int .i64 r,v2].toArray) (B2.mk l r b)::D):=by
 refine H.mg.imp (λ{Y} hP hY=>?_) (λc hc=>hc.elim);obtain⟨Y1,Y2,⟨c0,k0,o0,y0⟩,⟨c2,k2,o2,y2⟩,dj,y3,y4⟩:=hP;exact⟨c0++c2,qO.mk2 k0 hr k2,o0.append o2 (λc h1 h2=>dj c (y0 c h1) (y2 c h2)),λc hc=>(Aj.1 hc).elim (λh=>y3 c (y0 c h)) (λh=>y4 c (y2 c h))⟩
def bO (x:B2) (b p:Int):Option B2:= qD (σ:=List Int) (qU (λk s=>xH (ix s (k:Int)) λz=>xH (ck (z*b)) λz1=>xH (rm z1 p) λz2=>some (.go (s.set ((k:Int)).toNat z2))) x.left.length 0 x.left) λs=>xH (ck (x.right*b)) λz3=>xH (rm z3 p) λz4=>qD (σ:=List Int) (qU (λk s=>xH (ix s (k:Int)) λz=>xH (ck (z*b)) λz1=>xH (rm z1 p) λz2=>some (.go (s.set ((k:Int)).toNat z2))) x.bys.length 0 x.bys) λs2=>some (B2.mk s z4 s2)
theorem sN {x0:B2} {x1 x2:Int} (r:B2) (hR:bO x0 x1 x2=some r) {g o:Nat} {T:Ty} {X0:List Nat} (w0:Wd) (hN:HN B w0) (S0:Sep X0 B w0 w0 [bx g cs T,ow (V:=Sl 1 xF) va x0.left,ow (V:=Sl 1 xF) vb x0.bys]) (c0:cs[o]?=some va) (c1:cs[o+1]?=some (.int .i64 x0.right)) (c2:cs[o+2]?=some vb) (hr:xM x0.right) (hx1:xM x1) (qa:xM x2) :
 Calls Tryz.prog 143 #[.pointer (some ⟨g,o,none⟩),.int .i64 x1,.int .i64 x2] w0 (Gt B w0 X0 (.fa (xM r.right) <| .st (.tuple #[]) λD=>bx g (cs.set (o+1) (.int .i64 r.right)) T::ow (V:=Sl 1 xF) va r.left::ow (V:=Sl 1 xF) vb r.bys::D)):=by
 unfold bO at hR
 revert r
 refine jin Tryz.func143 [(0,.pointer (some ⟨g,o,none⟩)),(1,.int .i64 x1),(2,.int .i64 x2)] S0 λr=>?_;refine nz2 ?_;refine jo rfl ?_
 repeat (first | refine c_s ?_ | refine c_e ?_ | refine c_n ?_)
 refine vA (λs=>.fa (s.length=x0.left.length) <| .st [(0,.pointer (some ⟨g,o,none⟩)),(1,.int .i64 x1),(2,.int .i64 x2)] [bx g cs T,ow (V:=Sl 1 xF) va s,ow (V:=Sl 1 xF) vb x0.bys]) ?_ (λs hs=>?_)
 ·refine c_k ?_
  refine jc (λk s=>.fa (s.length=x0.left.length) <| .st [(6,.int .i64 (k:Int)),(0,.pointer (some ⟨g,o,none⟩)),(1,.int .i64 x1),(2,.int .i64 x2)] [bx g cs T,ow (V:=Sl 1 xF) va s,ow (V:=Sl 1 xF) vb x0.bys]) ⟨rfl,ls⟩ (λk s K hk hs=>?_) (λq k s hk hs=>?_)
  ·refine nz2 ?_
   refine jA 3 rfl ?_;refine oH e2 ?_;refine jb 0 ⟨rfl,rfl,c0⟩ ?_;refine nO (λH=>H.o 1 rfl) (λi13=>?_);refine jo rfl ?_;refine nz1 ?_;refine zX (show decide ((k:Int)<(s.length:Int))=false by simp;omega) ?_;refine nz3 ?_;exact jf ⟨hs,ls⟩
  ·refine nz2 ?_
   refine jA 3 rfl ?_;refine oH e2 ?_;refine jb 0 ⟨rfl,rfl,c0⟩ ?_;refine nO (λH=>H.o 1 rfl) (λi13=>?_);refine jo rfl ?_;refine nz1 ?_;refine kA (show decide ((k:Int)<(s.length:Int))=true by simp;omega) ?_;refine c_K ?_;refine c_n ?_;refine c_s ?_;refine c_k ?_;refine jB λz cz=>?_;refine jB λz1 cz1=>?_;refine jB λz2 cz2=>?_;refine jh (λH=>H.mg) ?_;refine cM λw1 X1 N1 sm g1 e1 th _=>?_;have K:=g1.l.bk;have h:=g1.r.od;refine jD ?_;refine zG [0,1] rfl ?_;refine kJ 2 rfl e2 ?_;refine gH 3 rfl K ⟨rfl,c0⟩ ?_;refine zG [4,5,6] rfl ?_;refine kJ 7 rfl e2 ?_;refine gH 8 rfl K ⟨rfl,c0⟩ ?_;refine zG [9] rfl ?_;refine nM 10 rfl h cz (λ_ hp=>?_);refine aY 11 rfl hp (λiz=>?_);refine zG [12] rfl ?_;refine jvz 13 rfl (λF H w l=>yB F rfl rfl cz1) ?_;refine zG [14] rfl ?_;refine jvz 15 rfl (λF H w l=>xEv F rfl rfl cz2) ?_;refine jF9 16 rfl ?_;refine kY th ?_;refine jh (λH=>H.um) ?_;refine jRo 1 cz (λ_ rp=>?_);refine c_e ?_;refine c_n ?_;refine jF9 17 rfl ?_;refine js [1,0,2] rfl ?_;refine jSo rp (cI cz) (xHh cz2 (zI cz1) qa) rfl ?_;refine c_e ?_;refine c_n ?_;refine gV ?_;refine nz4 ?_;refine jo rfl ?_;refine oE (qE (show k<s.length by omega) i13) ?_;refine jo rfl ?_;refine nz1 ?_;refine js [1,0,2] rfl ?_;exact jg ⟨by simpa using hs,ls⟩
 ·refine c_n ?_
  refine nz2 ?_;refine jA 3 rfl ?_;refine oH e2 ?_;refine jb 0 ⟨rfl,rfl,c1⟩ ?_;refine jo rfl ?_;refine jB λz3 cz3=>?_;refine wT cz3 ?_;refine jo rfl ?_;refine jB λz4 cz4=>?_;refine xOs cz4 ?_;refine jo rfl ?_;refine oH e2 ?_;refine jW (ho:=by rw[Nat.blt_eq];exact(Ac.1 c1).1) e3 ?_
  repeat (first | refine c_e ?_ | refine c_n ?_ | refine c_s ?_ | refine c_g ?_ | refine c_G ?_)
  refine jo rfl ?_;refine nz1 ?_
  have c2':(cs.set (o+1) (.int .i64 z4))[o+2]?=some vb:=by rw[Ak xG];exact c2
  refine vA (λs'=>.fa (s'.length=x0.bys.length) <| .st [(0,.pointer (some ⟨g,o,none⟩)),(1,.int .i64 x1),(2,.int .i64 x2)] [bx g (cs.set (o+1) (.int .i64 z4)) T,ow (V:=Sl 1 xF) va s,ow (V:=Sl 1 xF) vb s']) ?_ (λs' hs'=>?_)
  ·refine c_k ?_
   refine jc (λk s'=>.fa (s'.length=x0.bys.length) <| .st [(7,.int .i64 (k:Int)),(0,.pointer (some ⟨g,o,none⟩)),(1,.int .i64 x1),(2,.int .i64 x2)] [bx g (cs.set (o+1) (.int .i64 z4)) T,ow (V:=Sl 1 xF) va s,ow (V:=Sl 1 xF) vb s']) ⟨rfl,ls⟩ (λk s' K hk hs=>?_) (λq k s' hk hs=>?_)
   ·refine nz2 ?_
    refine jA 3 rfl ?_;refine oH e2 ?_;refine jb 0 ⟨rfl,rfl,c2'⟩ ?_;refine nO (λH=>H.o 2 rfl) (λi13=>?_);refine jo rfl ?_;refine nz1 ?_;refine zX (show decide ((k:Int)<(s'.length:Int))=false by simp;omega) ?_;refine nz3 ?_;exact jf ⟨hs,ls⟩
   ·refine nz2 ?_
    refine jA 3 rfl ?_;refine oH e2 ?_;refine jb 0 ⟨rfl,rfl,c2'⟩ ?_;refine nO (λH=>H.o 2 rfl) (λi13=>?_);refine jo rfl ?_;refine nz1 ?_;refine kA (show decide ((k:Int)<(s'.length:Int))=true by simp;omega) ?_;refine c_K ?_;refine c_n ?_;refine c_s ?_;refine c_k ?_;refine jB λz cz=>?_;refine jB λz1 cz1=>?_;refine jB λz2 cz2=>?_;refine js [0,2,1] rfl ?_;refine jh (λH=>H.mg) ?_;refine cM λw1 X1 N1 sm g1 e1 th _=>?_;have K:=g1.l.bk;have h:=g1.r.od;refine jD ?_;refine zG [0,1] rfl ?_;refine kJ 2 rfl e2 ?_;refine gH 3 rfl K ⟨rfl,c2'⟩ ?_;refine zG [4,5,6] rfl ?_;refine kJ 7 rfl e2 ?_;refine gH 8 rfl K ⟨rfl,c2'⟩ ?_;refine zG [9] rfl ?_;refine nM 10 rfl h cz (λ_ hp=>?_);refine aY 11 rfl hp (λiz=>?_);refine zG [12] rfl ?_;refine jvz 13 rfl (λF H w l=>yB F rfl rfl cz1) ?_;refine zG [14] rfl ?_;refine jvz 15 rfl (λF H w l=>xEv F rfl rfl cz2) ?_;refine jF9 16 rfl ?_;refine kY th ?_;refine jh (λH=>H.um) ?_;refine jRo 1 cz (λ_ rp=>?_);refine c_e ?_;refine c_n ?_;refine jF9 17 rfl ?_;refine js [1,0,2] rfl ?_;refine jSo rp (cI cz) (xHh cz2 (zI cz1) qa) rfl ?_;refine c_e ?_;refine c_n ?_;refine gV ?_;refine nz4 ?_;refine jo rfl ?_;refine oE (qE (show k<s'.length by omega) i13) ?_;refine jo rfl ?_;refine nz1 ?_;refine js [1,2,0] rfl ?_;exact jg ⟨by simpa using hs,ls⟩
  ·repeat (first | refine c_e ?_ | refine c_n ?_ | refine c_s ?_ | refine c_g ?_ | refine c_G ?_ | refine c_t ?_ | refine c_K ?_ | refine c_R ?_)
   exact j0 ⟨xHh cz4 (zI cz3) qa,lv⟩
def cF (x y:B2) (t p:Int):Option B2:= qD (σ:=List Int) (qU (λk s=>xH (ix s (k:Int)) λz=>xH (ix y.left (k:Int)) λz'=>xH (ck (t*z')) λz1=>xH (ck (z - z1)) λz2=>xH (kX z2 p) λz3=>some (.go (s.set ((k:Int)).toNat z3))) x.left.length 0 x.left) λs=>xH (ck (t*y.right)) λa1=>xH (ck (x.right - a1)) λa2=>xH (kX a2 p) λa3=>qD (σ:=List Int) (qU (λk s=>xH (ix s (k:Int)) λz=>xH (ix y.bys (k:Int)) λz'=>xH (ck (t*z')) λz1=>xH (ck (z - z1)) λz2=>xH (kX z2 p) λz3=>some (.go (s.set ((k:Int)).toNat z3))) x.bys.length 0 x.bys) λs2=>some (B2.mk s a3 s2)
theorem xDp {x0 x1:B2} {x2 x3:Int} (r:B2) (hR:cF x0 x1 x2 x3=some r) {g o o2:Nat} {T:Ty} {wa wb:Vl} {X0:List Nat} (w0:Wd) (hN:HN B w0) (S0:Sep X0 B w0 w0 [bx g cs T,ow (V:=Sl 1 xF) va x0.left,ow (V:=Sl 1 xF) vb x0.bys]) (c0:cs[o]?=some va) (c1:cs[o+1]?=some (.int .i64 x0.right)) (c2:cs[o+2]?=some vb) (hr:xM x0.right)
 (A1:Bo B w0 (Sl 1 xF) wa x1.left) (A2:Bo B w0 (Sl 1 xF) wb x1.bys) (d0:cs[o2]?=some wa) (d1:cs[o2+1]?=some (.int .i64 x1.right)) (d2:cs[o2+2]?=some wb) (hr1:xM x1.right) (ho:o2+2≠o+1) (hx2:xM x2) (qa:xM x3) :
 Calls Tryz.prog 202 #[.pointer (some ⟨g,o,none⟩),.pointer (some ⟨g,o2,none⟩),.int .i64 x2,.int .i64 x3] w0 (Gt B w0 X0 (.fa (xM r.right) <| .st (.tuple #[]) λD=>bx g (cs.set (o+1) (.int .i64 r.right)) T::ow (V:=Sl 1 xF) va r.left::ow (V:=Sl 1 xF) vb r.bys::D)):=by
 unfold cF at hR
 revert r
 refine jin Tryz.func202 [(0,.pointer (some ⟨g,o,none⟩)),(1,.pointer (some ⟨g,o2,none⟩)),(2,.int .i64 x2),(3,.int .i64 x3)] S0 λr=>?_;refine nz2 ?_;refine jo rfl ?_
 repeat (first | refine c_s ?_ | refine c_e ?_ | refine c_n ?_)
 refine vA (λs=>.fa (s.length=x0.left.length) <| .st [(0,.pointer (some ⟨g,o,none⟩)),(1,.pointer (some ⟨g,o2,none⟩)),(2,.int .i64 x2),(3,.int .i64 x3)] [bx g cs T,ow (V:=Sl 1 xF) va s,ow (V:=Sl 1 xF) vb x0.bys]) ?_ (λs hs=>?_)
 ·
  refine c_k ?_;refine jc (λk s=>.fa (s.length=x0.left.length) <| .st [(8,.int .i64 (k:Int)),(0,.pointer (some ⟨g,o,none⟩)),(1,.pointer (some ⟨g,o2,none⟩)),(2,.int .i64 x2),(3,.int .i64 x3)] [bx g cs T,ow (V:=Sl 1 xF) va s,ow (V:=Sl 1 xF) vb x0.bys]) ⟨rfl,ls⟩ (λk s K hk hs=>?_) (λq k s hk hs=>?_)
  ·refine nz2 ?_;refine jA 3 rfl ?_;refine oH e2 ?_;refine jb 0 ⟨rfl,rfl,c0⟩ ?_;refine nO (λH=>H.o 1 rfl) (λi13=>?_);refine jo rfl ?_;refine nz1 ?_;refine zX (show decide ((k:Int)<(s.length:Int))=false by simp;omega) ?_;refine nz3 ?_;exact jf ⟨hs,ls⟩
  ·refine nz2 ?_;refine jA 3 rfl ?_;refine oH e2 ?_;refine jb 0 ⟨rfl,rfl,c0⟩ ?_;refine nO (λH=>H.o 1 rfl) (λi13=>?_);refine jo rfl ?_;refine nz1 ?_;refine kA (show decide ((k:Int)<(s.length:Int))=true by simp;omega) ?_;refine c_K ?_;refine c_n ?_;refine c_s ?_;refine c_k ?_;refine jB λz cz=>?_;refine jB λz' cz'=>?_;refine jB λz1 cz1=>?_;refine jB λz2 cz2=>?_;refine jB λz3 cz3=>?_;refine jh (λH=>H.mg) ?_;refine cM λw1 X1 N1 sm g1 e1 th _=>?_;have K:=g1.l.bk;have h:=g1.r.od;refine jD ?_;refine zG [0,1] rfl ?_;refine kJ 2 rfl e2 ?_;refine gH 3 rfl K ⟨rfl,c0⟩ ?_;refine zG [4,5,6] rfl ?_;refine kJ 7 rfl e2 ?_;refine gH 8 rfl K ⟨rfl,c0⟩ ?_;refine zG [9] rfl ?_;refine nM 10 rfl h cz (λ_ hp=>?_);refine aY 11 rfl hp (λiz=>?_);refine zG [12,13,14] rfl ?_;refine kJ 15 rfl e2 ?_;refine gH 16 rfl K ⟨rfl,d0⟩ ?_;refine zG [17] rfl ?_;refine nM 18 rfl A1 cz' (λ_ qc=>?_);refine aY (s:=λH w l=>sm.trans (Sm.mono (H.v w l) th.2.2)) 19 rfl qc (λiz'=>?_);refine jvz 20 rfl (λF H w l=>yB F rfl rfl cz1) ?_;refine jvz 21 rfl (λF H w l=>xBi F rfl rfl cz2) ?_;refine zG [22] rfl ?_;refine jE 23 rfl ?_;refine jk (λH=>iL aA (zI cz2) qa z3 cz3) (λiz3=>?_);refine qT ?_;refine jF9 24 rfl ?_;refine kY th ?_;refine jh (λH=>H.um) ?_;refine jRo 1 cz (λ_ rp=>?_);refine c_e ?_;refine c_n ?_;refine jF9 25 rfl ?_;refine js [1,0,2] rfl ?_;refine jSo rp (cI cz) iz3 rfl ?_;refine c_e ?_;refine c_n ?_;refine gV ?_;refine nz4 ?_;refine jo rfl ?_;refine oE (qE (show k<s.length by omega) i13) ?_;refine jo rfl ?_;refine nz1 ?_;refine js [1,0,2] rfl ?_;exact jg ⟨by simpa using hs,ls⟩
 ·refine c_n ?_
  refine nz2 ?_;refine jB λa1 ca1=>?_;refine jB λa2 ca2=>?_;refine jB λa3 ca3=>?_;refine cM λw1 X1 N1 sm g1 e1 th _=>?_;have K:=g1.bk;refine jD ?_;refine zG [0,1,2] rfl ?_;refine kJ 3 rfl e2 ?_;refine gH 4 rfl K ⟨rfl,c1⟩ ?_;refine zG [5,6,7] rfl ?_;refine kJ 8 rfl e2 ?_;refine gH 9 rfl K ⟨rfl,d1⟩ ?_;refine jvz 10 rfl (λF H w l=>yB F rfl rfl ca1) ?_;refine jvz 11 rfl (λF H w l=>xBi F rfl rfl ca2) ?_;refine zG [12] rfl ?_;refine jE 13 rfl ?_;refine jk (λH=>iL aA (zI ca2) qa a3 ca3) (λia3=>?_);refine qT ?_;refine zG [14] rfl ?_;refine kJ 15 rfl e2 ?_;refine jF9 16 rfl ?_;refine kY th ?_;refine jW (ho:=by rw[Nat.blt_eq];exact(Ac.1 c1).1) e3 ?_;refine c_e ?_;refine c_n ?_;refine gV ?_;refine nz5 ?_;refine jo rfl ?_;refine nz1 ?_
  have c2':(cs.set (o+1) (.int .i64 a3))[o+2]?=some vb:=by rw[Ak xG];exact c2
  have d2':(cs.set (o+1) (.int .i64 a3))[o2+2]?=some wb:=by rw[Ak xG];exact d2
  refine vA (λs'=>.fa (s'.length=x0.bys.length) <| .st [(0,.pointer (some ⟨g,o,none⟩)),(1,.pointer (some ⟨g,o2,none⟩)),(2,.int .i64 x2),(3,.int .i64 x3)] [bx g (cs.set (o+1) (.int .i64 a3)) T,ow (V:=Sl 1 xF) va s,ow (V:=Sl 1 xF) vb s']) ?_ (λs' hs'=>?_)
  ·
   refine c_k ?_;refine jc (λk s'=>.fa (s'.length=x0.bys.length) <| .st [(9,.int .i64 (k:Int)),(0,.pointer (some ⟨g,o,none⟩)),(1,.pointer (some ⟨g,o2,none⟩)),(2,.int .i64 x2),(3,.int .i64 x3)] [bx g (cs.set (o+1) (.int .i64 a3)) T,ow (V:=Sl 1 xF) va s,ow (V:=Sl 1 xF) vb s']) ⟨rfl,ls⟩ (λk s' K hk hs=>?_) (λq k s' hk hs=>?_)
   ·refine nz2 ?_;refine jA 3 rfl ?_;refine oH e2 ?_;refine jb 0 ⟨rfl,rfl,c2'⟩ ?_;refine nO (λH=>H.o 2 rfl) (λi13=>?_);refine jo rfl ?_;refine nz1 ?_;refine zX (show decide ((k:Int)<(s'.length:Int))=false by simp;omega) ?_;refine nz3 ?_;exact jf ⟨hs,ls⟩
   ·refine nz2 ?_;refine jA 3 rfl ?_;refine oH e2 ?_;refine jb 0 ⟨rfl,rfl,c2'⟩ ?_;refine nO (λH=>H.o 2 rfl) (λi13=>?_);refine jo rfl ?_;refine nz1 ?_;refine kA (show decide ((k:Int)<(s'.length:Int))=true by simp;omega) ?_;refine c_K ?_;refine c_n ?_;refine c_s ?_;refine c_k ?_;refine jB λz cz=>?_;refine jB λz' cz'=>?_;refine jB λz1 cz1=>?_;refine jB λz2 cz2=>?_;refine jB λz3 cz3=>?_;refine js [0,2,1] rfl ?_;refine jh (λH=>H.mg) ?_;refine cM λw1 X1 N1 sm g1 e1 th _=>?_;have K:=g1.l.bk;have h:=g1.r.od;refine jD ?_;refine zG [0,1] rfl ?_;refine kJ 2 rfl e2 ?_;refine gH 3 rfl K ⟨rfl,c2'⟩ ?_;refine zG [4,5,6] rfl ?_;refine kJ 7 rfl e2 ?_;refine gH 8 rfl K ⟨rfl,c2'⟩ ?_;refine zG [9] rfl ?_;refine nM 10 rfl h cz (λ_ hp=>?_);refine aY 11 rfl hp (λiz=>?_);refine zG [12,13,14] rfl ?_;refine kJ 15 rfl e2 ?_;refine gH 16 rfl K ⟨rfl,d2'⟩ ?_;refine zG [17] rfl ?_;refine nM 18 rfl A2 cz' (λ_ qc=>?_);refine aY (s:=λH w l=>sm.trans (Sm.mono (H.v w l) th.2.2)) 19 rfl qc (λiz'=>?_);refine jvz 20 rfl (λF H w l=>yB F rfl rfl cz1) ?_;refine jvz 21 rfl (λF H w l=>xBi F rfl rfl cz2) ?_;refine zG [22] rfl ?_;refine jE 23 rfl ?_;refine jk (λH=>iL aA (zI cz2) qa z3 cz3) (λiz3=>?_);refine qT ?_;refine jF9 24 rfl ?_;refine kY th ?_;refine jh (λH=>H.um) ?_;refine jRo 1 cz (λ_ rp=>?_);refine c_e ?_;refine c_n ?_;refine jF9 25 rfl ?_;refine js [1,0,2] rfl ?_;refine jSo rp (cI cz) iz3 rfl ?_;refine c_e ?_;refine c_n ?_;refine gV ?_;refine nz4 ?_;refine jo rfl ?_;refine oE (qE (show k<s'.length by omega) i13) ?_;refine jo rfl ?_;refine nz1 ?_;refine js [1,2,0] rfl ?_;exact jg ⟨by simpa using hs,ls⟩
  ·refine nz5 ?_
   exact j0 ⟨ia3,lv⟩
theorem Sep.tk7 {w0 w:Wd} {m:List (Option B2)} {x:B2} (H:Sep X N w0 w (rc 3 qO cs m::D)) (i:Nat) (hi:m[i]?=some (some x)) (hl:i*3+3<=cs.length):∃ u:Vl×Vl,Sep X N w0 w (ow (V:=Sl 1 xF) u.1 x.left::ow (V:=Sl 1 xF) u.2 x.bys::rc 3 qO cs (m.set i none)::D)/\cs[i*3]?=some u.1/\cs[i*3+1]?=some (.int .i64 x.right)/\cs[i*3+2]?=some u.2/\xM x.right:=by
 have h3:(cl cs 3 i).length=3:=by unfold cl;simp only[Bd,Dq];omega
 obtain⟨u,H2,e,hr⟩:=(H.tk i hi h3).l07o;refine⟨u,H2,?_,?_,?_,hr⟩
 ·have:=mY (cs:=cs) (sz:=3) (i:=i) (j:=0) xG;rw[e] at this;exact this.symm
 ·have:=mY (cs:=cs) (sz:=3) (i:=i) (j:=1) xG;rw[e] at this;exact this.symm
 ·have:=mY (cs:=cs) (sz:=3) (i:=i) (j:=2) xG;rw[e] at this;exact this.symm
theorem Sep.pt7 {w0 w:Wd} {m:List (Option B2)} {r:B2} (H:Sep X N w0 w (ow (V:=Sl 1 xF) va r.left::ow (V:=Sl 1 xF) vb r.bys::rc 3 qO cs m::D)) (i:Nat) (hi:m[i]?=some none) (h0:cs[i*3]?=some va) (h1:cs[i*3+1]?=some (.int .i64 r.right)) (h2:cs[i*3+2]?=some vb) (hr:xM r.right):Sep X N w0 w (rc 3 qO cs (m.set i (some r))::D):=by
 refine(H.l07c hr).pt hi ?_
 apply Cr
 intro q
 by_cases hq:q<3
 ·rw[mY hq]
  match q,hq with
  | 0,_=>exact h0.symm
  | 1,_=>exact h1.symm
  | 2,_=>exact h2.symm
 ·rw[Ce (by simp;omega),Ce (by unfold cl;simp only[Bd,Dq];omega)]
theorem Sep.bk7 {w0 w:Wd} {i:Nat} {m:List (Option B2)} {r:B2} (H:Sep X N w0 w (ow (V:=Sl 1 xF) va r.left::ow (V:=Sl 1 xF) vb r.bys::rc 3 qO cs m::D)) (hm:m[i]?=some none) (h0:cs[i*3]?=some va) (h1:i*3+1<cs.length) (h2:cs[i*3+2]?=some vb) (hr:xM r.right) :
 Sep X N w0 w (rc 3 qO (cs.set (i*3+1) (.int .i64 r.right)) (m.set i (some r))::D):=by
 have H2:Sep X N w0 w (ow (V:=qR 3 qO) (.agg [va,.int .i64 r.right,vb].toArray) (B2.mk r.left r.right r.bys)::rc 3 qO cs m::D):=H.l07c hr
 have H3:Sep X N w0 w (rc 3 qO (cs.set (i*3+1) (.int .i64 r.right)) m::ow (V:=qR 3 qO) (.agg [va,.int .i64 r.right,vb].toArray) (B2.mk r.left r.right r.bys)::D):=by
  refine H2.sw.ct (λj z hz q hq=>?_)
  have hj:j≠i:=by rintro rfl;rw[hm] at hz;cases hz
  exact Ak xG
 refine H3.sw.pt hm ?_
 apply Cr
 intro q
 by_cases hq:q<3
 ·rw[mY hq]
  match q,hq with
  | 0,_=>rw[Ak xG];exact h0.symm
  | 1,_=>rw[Ai h1];rfl
  | 2,_=>rw[Ak xG];exact h2.symm
 ·rw[Ce (by simp;omega),Ce (by unfold cl;simp only[Bd,Dq];omega)]
theorem xPk {α:Type} {l:List α} {i:Nat} {x:α}:((l.map some).set i none).set i (some x)=(l.set i x).map some:=by rw[Ed,List.map_set]
theorem oFv {α:Type} {l:List α} {i d:Nat} {x y:α} (h:i≠d) (hy:l[d]?=some y):((((l.map some).set i none).set d none).set i (some x)).set d (some y)=(l.set i x).map some:=by
 have hd:=(Ac.1 hy).1;rw[List.map_set]
 apply Cr
 intro q
 by_cases h1:d=q
 ·subst h1
  rw[Ai (vV hd),Ak h,Bc,hy];rfl
 ·rw[Ak h1]
  by_cases h2:i=q
  ·subst h2
   by_cases hl:i<l.length
   ·rw[Ai (vV hl),Ai (vV hl)]
   ·rw[Ce (by simp;omega),Ce (by simp;omega)]
  ·rw[Ak h2,Ak h1,Ak h2,Ak h2]
def cS (x0:B3):Option (List B2×Int):= xH (tC x0) λrs=>qD (σ:=(List B2)×Int) (qU (λu s=>match s with | (rows,done)=>qD (σ:=Int) (qU (λk at'=>xH (ix rows at') λx=>xH (ix x.left (u:Int)) λz=>if (z==0) then some (.go (at'+1)) else some (.brk at')) ((rows.length:Int) - done).toNat 0 done) λat'=>if (at'==(rows.length:Int)) then some (.go (rows,done)) else xH (ix rows done) λx=>xH (ix rows at') λy=>xH (ix ((rows.set done.toNat y).set at'.toNat x) done) λr0=>xH (ix r0.left (u:Int)) λz=>xH (bO r0 z x0.prime) λr1=>qD (σ:=List B2) (qU (λi (rows:List B2)=>if ((i:Int) != done) then xH (ix rows (i:Int)) λri=>xH (ix ri.left (u:Int)) λzi=>if (zi != 0) then xH (ix rows done) λrd=>xH (cF ri rd zi x0.prime) λr'=>some (.go (rows.set ((i:Int)).toNat r')) else some (.go rows) else some (.go rows)) rows.length 0 (((rows.set done.toNat y).set at'.toNat x).set done.toNat r1)) λrows=>xH (ck (done+1)) λd=>some (.go (rows,d))) x0.unknowns.toNat 0 (rs,0)) λ(rows,done)=>some (rows,done)
set_option maxHeartbeats 2000000 in
theorem rE {x0:B3} (r:List B2×Int) (hR:cS x0=some r) {v0:Vl} (w0:Wd) (hN:HN B w0) (A0:Bo B w0 (Pt 3 oZ) v0 x0):CG B w0 140 #[v0] (.v λv1'=>.fa (xM r.2) <| .st (.tuple #[v1',.int .i64 r.2]) λD=>rl 3 qO 194 v1' r.1::D):=by
 unfold cS at hR
 revert r
 refine jiN Tryz.func140 [(0,v0)] hN λr=>?_;refine iW ?_;refine jB λrs crs=>?_;refine jk (λH=>xJx aA (H.a A0) rs crs) (λv11=>?_);refine iW ?_;refine vA (λ(rows,done)=>.v λv=>.fa (xM done/\0<=done) <| .st [(0,v0),(4,v),(5,.int .i64 done)] [rl 3 qO 194 v rows]) ?_ (λ(rows,done) v hd=>?_)
 ·refine c_k ?_
  refine jc (λu (rows,done)=>.v λv=>.fa (xM done/\0<=done) <| .st [(6,.int .i64 (u:Int)),(0,v0),(4,v),(5,.int .i64 done)] [rl 3 qO 194 v rows]) ⟨_,⟨kS,kS⟩,ls⟩ (λu (rows,done) K hu v hd=>?_) (λq u (rows,done) hu v hd=>?_)
  ·refine iW ?_
   refine jN A0 ?_;refine kZ A0 oZ.f1 (λ_ h=>?_);refine aJ h (λiu=>?_);refine iW ?_;refine zX (show decide ((u:Int)<x0.unknowns)=false by simp;omega) ?_;refine nz3 ?_;exact jf ⟨_,hd,ls⟩
  ·refine iW ?_
   refine jN A0 ?_;refine kZ A0 oZ.f1 (λ_ h=>?_);refine aJ h (λiu=>?_);refine iW ?_;refine kA (show decide ((u:Int)<x0.unknowns)=true by simp;omega) ?_;refine iW ?_;refine oMg ?_;refine iW ?_;refine vA (λat'=>.fa (xM at'/\0<=at') <| .st [(0,v0),(4,v),(5,.int .i64 done),(6,.int .i64 (u:Int)),(7,.int .i64 at')] [rl 3 qO 194 v rows]) ?_ (λat' ha=>?_)
   ·refine c_k ?_
    refine jc (λk at'=>.fa (at'=done+k/\xM at') <| .st [(7,.int .i64 at'),(0,v0),(4,v),(5,.int .i64 done),(6,.int .i64 (u:Int))] [rl 3 qO 194 v rows]) ⟨⟨vK,hd.1⟩,ls⟩ (λk at' K hk ha=>?_) (λq2 k at' hk ha=>?_)
    ·refine iW ?_
     refine nO (λH=>H.l 0 rfl) (λil=>?_);refine iW ?_;refine jeq 25 (show decide (at'<(rows.length:Int))=false by simp;omega) ?_;refine iW ?_;refine zX rfl ?_;refine nz3 ?_;exact jf ⟨⟨ha.2,xG⟩,ls⟩
    ·refine iW ?_
     refine nO (λH=>H.l 0 rfl) (λil=>?_);refine iW ?_;refine jeq 25 (show decide (at'<(rows.length:Int))=true by simp;omega) ?_;refine jB λx cx=>?_;refine jB λz cz=>?_;refine cM λw1 X1 N1 sm g1 e1 th _=>?_;have h:=g1.ld;refine iW ?_;refine jI h cx (λ_ h1=>?_);refine kZ h1 qO.f0 (λ_ h2=>?_);refine aT h2 (λ_ h3=>?_);refine iW ?_;refine jI h3 cz (λ_ h4=>?_);refine aJ h4 (λ_=>?_);refine iW ?_;refine jif (λhz=>?_) (λhz=>?_)
     ·refine iW ?_
      refine c_kg ?_;refine iW ?_;refine kE (show ck (at'+1)=some (at'+1) by unfold ck;rw[if_pos];have:=ha.2.1;have:=il.2;omega) ?_;refine iW ?_;refine kY th ?_;exact jg ⟨⟨xG,by have:=ha.2.1;omega,by have:=il.2;omega⟩,ls⟩
     ·refine jbk ?_
      refine kY th ?_;refine nz3 ?_;exact jf ⟨⟨ha.2,xG⟩,ls⟩
   ·refine iW ?_
    refine nO (λH=>H.l 0 rfl) (λil=>?_);refine iW ?_;refine jif (λhz=>?_) (λhz=>?_)
    ·refine nz3 ?_
     refine iW ?_;refine oE (vZ hu iu) ?_;refine iW ?_;exact jg ⟨_,hd,ls⟩
    ·refine iW ?_
     refine jB λx cx=>?_;refine jB λy cy=>?_;refine jB λr0 cr0=>?_;refine jB λz cz=>?_;refine jB λr1 cr1=>?_;have hx:=(aE cx).2;have hy:=(aE cy).2;have lx:=(Ac.1 hx).1;have ly:=(Ac.1 hy).1;refine xMs (γ:=Nat×Nat×List Vl) (E:=λu=>[bx u.1 u.2.2 194,rc 3 qO u.2.2 (rows.map some)]) (λH=>H.opn xG) (λ⟨g,c,cs⟩ hV=>?_);refine jfc (λH=>H.sw.one1) (λqg=>?_);have qd:rows.length*3<=cs.length:=hV.le;obtain⟨rfl,qh⟩:=hV;have dl:0<=done/\done<(rows.length:Int):=⟨hd.2,xG⟩;have al:0<=at'/\at'<(rows.length:Int):=⟨ha.2,xG⟩;have k1:=xAz (cs:=cs) (sz:=3) lx qd;have k2:=xAz (cs:=cs) (sz:=3) ly qd;refine jix dl ?_;refine aH 0 ⟨rfl,rfl,(rfl:_=cl cs 3 done.toNat)⟩ ?_ k1;refine iW ?_;refine aM rfl (λb8=>?_);refine kG (hv:=λ_ v hv=>qg _ _ hx v hv) ⟨rfl,rfl,(show _=cl cs 3 done.toNat by simp [k1])⟩ ?_ k1 (ho:=by rw[k1];rfl);refine iW ?_;refine jix al ?_;refine aH 1 ⟨rfl,rfl,(rfl:_=cl cs 3 at'.toNat)⟩ ?_ k2;refine jix dl ?_;refine js [1,0,2] rfl ?_;refine kG (hv:=λ_ v hv=>qg _ _ hy v hv) ⟨rfl,rfl,(rfl:_=wr cs (done.toNat*3) (cl cs 3 at'.toNat))⟩ ?_ k2 (ho:=by rw[k2,Nat.ble_eq];omega);refine iW ?_;refine aH 1 ⟨rfl,rfl,(show _=cl cs 3 done.toNat by rw[Ex];exact Cn xG)⟩ ?_ k1;refine jix al ?_;refine kG (hv:=λ_ v hv=>qg _ _ hx v hv) ⟨rfl,rfl,(rfl:_=wr (wr cs (done.toNat*3) (cl cs 3 at'.toNat)) (at'.toNat*3) (cl cs 3 done.toNat))⟩ ?_ k1 (ho:=by rw[k1,tS xG,Nat.ble_eq];omega);refine iW ?_;refine js [2,0] rfl ?_;refine jh (λH=>(H.swp hx hy qd).sw) ?_
     have qi:(wr (wr cs (done.toNat*3) (cl cs 3 at'.toNat)) (at'.toNat*3) (cl cs 3 done.toNat)).length=cs.length:=by rw[tS (by rw[tS xG];omega),tS xG]
     have qe:((rows.set done.toNat y).set at'.toNat x).length=rows.length:=vK;generalize wr (wr cs (done.toNat*3) (cl cs 3 at'.toNat)) (at'.toNat*3) (cl cs 3 done.toNat)=cs2 at qi ⊢;generalize (rows.set done.toNat y).set at'.toNat x=rows1 at qe cr0 ⊢;have h0:=(aE cr0).2;refine xMs (γ:=Vl×Vl) (E:=λu=>[ow (V:=Sl 1 xF) u.1 r0.left,ow (V:=Sl 1 xF) u.2 r0.bys,rc 3 qO cs2 ((rows1.map some).set done.toNat none),bx g cs2 194]) (λH=>H.sw.tk7 done.toNat (by rw[Bc,h0];rfl) xG) (λ⟨va,vb⟩ ⟨q0,q1,q2,i0⟩=>?_);refine js [3,0,1,2] rfl ?_;refine jh (λH=>H.mg) ?_;refine cM λw1 X1 N1 sm g1 e1 th _=>?_;have K:=g1.l.bk;have h:=g1.r.od;refine jD ?_;refine zG [0,1] rfl ?_;refine xHb 2 rfl dl ?_;refine zG [3,4] rfl ?_;refine xHb 5 rfl dl ?_;refine kJ 6 rfl e2 ?_;refine gH 7 rfl K ⟨rfl,q0⟩ ?_;refine zG [8] rfl ?_;refine nM 9 rfl h cz (λ_ h1=>?_);refine aY 10 rfl h1 (λiz=>?_);refine zG [11] rfl ?_;refine jvN 12 rfl A0 ?_;refine gR 13 rfl A0 oZ.f0 (λ_ h2=>?_);refine aY (s:=λH w l=>sm.trans (Sm.mono (H.v w l) th.2.2)) 14 rfl h2 (λip=>?_);refine jF9 15 rfl ?_;refine kY th ?_;refine jh (λH=>H.um) ?_;refine jko 3 (λS H=>sN r1 cr1 _ H.hN S q0 q1 q2 i0 iz ip) (λi1=>?_);refine c_e ?_;refine c_n ?_;refine gV ?_;refine js [1,2,3,0] rfl ?_;refine jh (λH=>(H.bk7 (i:=done.toNat) (Ai (by simp;omega)) q0 xG q2 i1).sw) ?_;rw[xPk];refine jh (λH=>H.cls (v:=.slice (some ⟨g,0,none⟩) rows.length c) ⟨by rw[Cl,qe],(show(rows1.set done.toNat r1).length<=c/\c<=maxLen/\(cs2.set (done.toNat*3+1) (.int .i64 r1.right)).length=c*3 by simp only[Cl];rw[qe,qi];exact qh)⟩) ?_
     have qj:(rows1.set done.toNat r1).length=rows.length:=by simp [qe]
     generalize rows1.set done.toNat r1=rows2 at qj ⊢;refine iW ?_;refine vA (λrows'=>.fa (rows'.length=rows.length) <| .st [(0,v0),(4,.slice (some ⟨g,0,none⟩) rows.length c),(5,.int .i64 done),(6,.int .i64 (u:Int))] [rl 3 qO 194 (.slice (some ⟨g,0,none⟩) rows.length c) rows']) ?_ (λrows' qc=>?_)
     ·refine c_k ?_
      refine jc (λi rows'=>.fa (rows'.length=rows.length) <| .st [(9,.int .i64 (i:Int)),(0,v0),(4,.slice (some ⟨g,0,none⟩) rows.length c),(5,.int .i64 done),(6,.int .i64 (u:Int))] [rl 3 qO 194 (.slice (some ⟨g,0,none⟩) rows.length c) rows']) ⟨qj,ls⟩ (λi rows' K hi qc=>?_) (λq3 i rows' hi qc=>?_)
      ·refine iW ?_
       refine nO (λH=>H.l 0 rfl) (λil=>?_);refine iW ?_;refine zX (show decide ((i:Int)<(rows'.length:Int))=false by simp;omega) ?_;refine nz3 ?_;exact jf ⟨qc,ls⟩
      ·refine iW ?_
       refine nO (λH=>H.l 0 rfl) (λil=>?_);refine iW ?_;refine kA (show decide ((i:Int)<(rows'.length:Int))=true by simp;omega) ?_;refine iW ?_;refine oMg ?_;refine iW ?_;refine dZ 82 (λqk=>?_) (λqk=>?_)
       ·have qa:i≠done.toNat:=by simp at qk;omega
        refine jB λri cri=>?_;refine jB λzi czi=>?_;refine cM λw1 X1 N1 sm g1 e1 th _=>?_;have h:=g1.ld;refine iW ?_;refine jI h cri (λ_ h1=>?_);refine kZ h1 qO.f0 (λ_ h2=>?_);refine aT h2 (λ_ h3=>?_);refine iW ?_;refine jI h3 czi (λ_ h4=>?_);refine aJ h4 (λ_=>?_);refine iW ?_;refine jif (λhz=>?_) (λhz=>?_)
        ·refine jB λrd crd=>?_
         refine jB λr' cr'=>?_;refine kY th ?_;have ql:=(aE cri).2;have qf:=(aE crd).2;refine xMs (γ:=Nat×Nat×List Vl) (E:=λu=>[bx u.1 u.2.2 194,rc 3 qO u.2.2 (rows'.map some)]) (λH=>H.opn xG) (λ⟨g',c',cs⟩ hV=>?_);have qd:rows'.length*3<=cs.length:=hV.le;obtain⟨he,qh⟩:=hV;simp only[Value.slice.injEq,Option.some.injEq,Addr.mk.injEq,and_true] at he;obtain⟨rfl,_,rfl⟩:=he
         have m1:(rows'.map some)[i]?=some (some ri):=by rw[Bc];exact congrArg (Option.map some) ql
         have m2:((rows'.map some).set i none)[done.toNat]?=some (some rd):=by rw[Ak qa,Bc,qf];rfl
         refine xMs (γ:=Vl×Vl) (E:=λu=>[ow (V:=Sl 1 xF) u.1 ri.left,ow (V:=Sl 1 xF) u.2 ri.bys,rc 3 qO cs ((rows'.map some).set i none),bx g cs 194]) (λH=>H.sw.tk7 i m1 xG) (λ⟨va,vb⟩ ⟨q0,q1,q2,i0⟩=>?_);refine js [2,0,1,3] rfl ?_;refine xMs (γ:=Vl×Vl) (E:=λu=>[ow (V:=Sl 1 xF) u.1 rd.left,ow (V:=Sl 1 xF) u.2 rd.bys,rc 3 qO cs (((rows'.map some).set i none).set done.toNat none),ow (V:=Sl 1 xF) va ri.left,ow (V:=Sl 1 xF) vb ri.bys,bx g cs 194]) (λH=>H.tk7 done.toNat m2 (by have:=(Ac.1 qf).1;omega)) (λ⟨wa,wb⟩ ⟨d0,d1,d2,j0⟩=>?_);refine jh (λH=>H.mg) ?_;refine cM λw2 X2 N2 sm2 g2 e2' th2 _=>?_;have A1:=g2.l.od;have A2:=g2.r.od;refine js [3,1,2,0] rfl ?_;refine jh (λH=>H.mg) ?_;refine cM λw3 X3 N3 sm3 g3 e3' th3 _=>?_;have K:=g3.l.bk;have h:=g3.r.od;have il2:(0:Int)<=(i:Int)/\(i:Int)<(rows.length:Int):=xG;refine jD ?_;refine zG [0,1] rfl ?_;refine xHb 2 rfl il2 ?_;refine zG [3,4] rfl ?_;refine xHb 5 rfl dl ?_;refine zG [6,7] rfl ?_;refine xHb 8 rfl il2 ?_;refine kJ 9 rfl e2 ?_;refine gH 10 rfl K ⟨rfl,q0⟩ ?_;refine zG [11] rfl ?_;refine nM 12 rfl h czi (λ_ h1=>?_);refine aY 13 rfl h1 (λiz=>?_);refine zG [14] rfl ?_;refine jvN 15 rfl A0 ?_;refine gR 16 rfl A0 oZ.f0 (λ_ h2=>?_);refine aY (s:=λH w l=>sm2.trans (Sm.mono (sm3.trans (Sm.mono (H.v w l) th3.2.2)) th2.2.2)) 17 rfl h2 (λip=>?_);refine jF9 18 rfl ?_;refine kY th3 ?_;refine jh (λH=>H.um) ?_;refine jko 3 (λS H=>xDp r' cr' _ H.hN S q0 q1 q2 i0 (H.u A1) (H.u A2) d0 d1 d2 j0 xG iz ip) (λi1=>?_);refine c_e ?_;refine c_n ?_;refine gV ?_;refine kY th2 ?_;refine jh (λH=>H.um) ?_;refine js [3,4,5,0,1,2] rfl ?_;have qm:i<rows'.length:=(Ac.1 ql).1;have qn:done.toNat<rows'.length:=(Ac.1 qf).1;refine jh (λH=>H.bk7 (i:=i) (by rw[Ak (λh=>qa h.symm)];exact Ai (vV qm)) q0 xG q2 i1) ?_;refine js [1,2,0,3] rfl ?_;refine jh (λH=>(H.pt7 done.toNat (by rw[Ak qa];exact Ai (vV qn)) (by rw[Ak xG];exact d0) (by rw[Ak xG];exact d1) (by rw[Ak xG];exact d2) j0).sw) ?_;rw[oFv qa qf];refine jh (λH=>H.cls (v:=.slice (some ⟨g,0,none⟩) rows.length c) ⟨by rw[Cl,qc],(show(rows'.set i r').length<=c/\c<=maxLen/\(cs.set (i*3+1) (.int .i64 r'.right)).length=c*3 by simp only[Cl];exact qh)⟩) ?_;refine iW ?_;refine oE (qE qm il) ?_;refine iW ?_;exact jg ⟨by rw[Cl];exact qc,ls⟩
        ·refine kY th ?_
         refine iW ?_;refine oE (qE (show i<rows'.length by omega) il) ?_;refine iW ?_;exact jg ⟨qc,ls⟩
       ·refine iW ?_
        refine zX rfl ?_;refine iW ?_;refine oE (qE (show i<rows'.length by omega) il) ?_;refine iW ?_;exact jg ⟨qc,ls⟩
     ·refine iW ?_
      refine jB λd cd=>?_;refine kE cd ?_;refine iW ?_;refine oE (vZ hu iu) ?_;refine iW ?_;exact jg ⟨_,⟨zI cd,by unfold ck at cd;split at cd<;>cases cd;omega⟩,ls⟩
 ·refine iW ?_
  exact j2 (rt rfl) (rt rfl) ⟨_,hd.1,lv⟩
end
section
set_option maxRecDepth 100000
open Go.RowKit
theorem Sep.owr {X:List Nat} {N:Nat->Prop} {w0 w:Wd} {D:List As} {α:Type} {V:VR α} [hV:VF V] {v:Vl} {x:α} (H:Sep X N w0 w (ow (V:=V) v x::D)):Sep X N w0 w (Go.Proofs.YtomlfdagbmgmgaaGreat.ro N0 (V:=V) v x::D):= H.imp (λ{Y} ⟨bs,h1,_,h3⟩ _=>⟨bs,h1,λc hc=>.inl (h3 c hc)⟩) n0
def fF (x0:B3):Option (List Int×Int):= xH (uB x0) λok=>if (!ok) then some ([],1) else xH (cS x0) λz=>xH (dS z.1 z.2) λat'=>if (decide (at'<0)) then some ([],6) else xH (ix z.1 at') λr0=>xH (bO r0 r0.right x0.prime) λr1=>some (r1.bys,0)
set_option maxHeartbeats 1000000 in
theorem xDd {B:Nat->Prop} {x0:B3} (r:List Int×Int) (hR:fF x0=some r) {v0:Vl} (w0:Wd) (hN:HN B w0) (A0:Bo B w0 (qR 3 oZ) v0 x0):CG B w0 95 #[v0] (.v λv1'=>.fa (xM r.2) <| .st (.tuple #[v1',.int .i64 r.2]) λD=>ro N0 (V:=(Sl 1 xF)) v1' r.1::D):=by
 unfold fF at hR
 revert r
 refine jiN Tryz.func95 [(0,v0)] hN λr=>?_;obtain⟨vl,rfl,ip,iu,hl⟩:=oZ.o A0;refine iW ?_;refine jX e2 (λb=>?_);refine iW ?_;refine jB λok cok=>?_;refine jk (λH=>xEy aA (oZ.b (H.g 0 rfl).bk ip iu (H.a hl)) ok cok) ?_;refine iW ?_;refine jif (λh=>?_) (λh=>?_)
 ·refine iW ?_
  refine jR0 xF (λv9=>?_);refine iW ?_;refine jh (λH=>H.os.owr) ?_;refine js [0] rfl ?_;exact j2 (rt rfl) (rt rfl) ⟨_,(show xM (1:Int) by decide),lv⟩
 ·refine iW ?_
  refine jB λz cz=>?_;refine jk (λH=>rE z cz _ aA (oZ.b (H.g 0 rfl).bk ip iu (H.a hl))) (λv iz=>?_);refine iW ?_;refine jB λat' ca=>?_;refine jk (λH=>sD aA (H.l 0 rfl) iz at' ca) (λia=>?_);refine iW ?_;refine jif (λh=>?_) (λh=>?_)
  ·refine iW ?_
   refine jR0 xF (λv9=>?_);refine iW ?_;refine jh (λH=>H.os.owr) ?_;refine js [0] rfl ?_;exact j2 (rt rfl) (rt rfl) ⟨_,(show xM (6:Int) by decide),lv⟩
  ·refine iW ?_
   refine jB λr0 cr0=>?_;refine jB λr1 cr1=>?_;have h0:=(aE cr0).2;have h1:=(aE cr0).1;have h2:=(Ac.1 h0).1;refine xMs (γ:=Nat×Nat×List Vl) (E:=λu=>[bx u.1 u.2.2 194,rc 3 qO u.2.2 (z.1.map some),bx b [.int .i64 x0.prime,.int .i64 x0.unknowns,vl] 150]) (λH=>H.opn xG) (λ⟨g,c,cs⟩ hV=>?_);have hle:z.1.length*3<=cs.length:=hV.le;obtain⟨rfl,hVh⟩:=hV;have al:0<=at'/\at'<(z.1.length:Int):=⟨h1,xG⟩;refine xMs (γ:=Vl×Vl) (E:=λu=>[ow (V:=Sl 1 xF) u.1 r0.left,ow (V:=Sl 1 xF) u.2 r0.bys,rc 3 qO cs ((z.1.map some).set at'.toNat none),bx g cs 194,bx b [.int .i64 x0.prime,.int .i64 x0.unknowns,vl] 150]) (λH=>H.sw.tk7 at'.toNat (by rw[Bc,h0];rfl) xG) (λ⟨va,vb⟩ ⟨q0,q1,q2,i0⟩=>?_);refine js [3,4,0,1,2] rfl ?_;refine jh (λH=>H.mg) ?_;refine cM λw1 X1 N1 sm g1 e1 th _=>?_;have K:=g1.l.bk;have K2:=g1.r.bk;refine jD ?_;refine zG [0,1] rfl ?_;refine xHb 2 rfl al ?_;refine zG [3,4] rfl ?_;refine xHb 5 rfl al ?_;refine kJ 6 rfl e2 ?_;refine gH 7 rfl K ⟨rfl,q1⟩ ?_;refine kJ 8 rfl e2 ?_;refine gH 9 rfl K2 ⟨rfl,rfl⟩ ?_;refine jF9 10 rfl ?_;refine kY th ?_;refine jh (λH=>H.um) ?_;refine js [0,2,3,4] rfl ?_;refine jko 3 (λS H=>sN r1 cr1 _ H.hN S q0 q1 q2 i0 i0 ip) (λi1=>?_);refine c_e ?_;refine c_n ?_;refine gV ?_;refine iW ?_;refine jix al ?_;refine oH e2 ?_;refine jb 0 ⟨rfl,rfl,(show _=some vb by rw[Ak xG];exact q2)⟩ ?_;refine iW ?_;refine js [2] rfl ?_;refine jh (λH=>H.owr) ?_;exact j2 (rt rfl) (rt rfl) ⟨_,(show xM (0:Int) by decide),lv⟩
end
section
open Go.Proofs.Tryz
set_option maxRecDepth 100000
open Go.RowKit
instance:Sz prog 150 3:=⟨sizeOf150⟩
instance:Sz prog 186 2:=⟨sizeOf186⟩
instance:Sz prog 148 1:=⟨sizeOf148⟩
instance:Ag prog 150 true:=⟨isAgg150⟩
instance:type_of% (Zv.mk zeroValue150):=⟨zeroValue150⟩
instance:type_of% (Zv.mk zeroValue186):=⟨zeroValue186⟩
instance:type_of% (BdT.mk underlying150 zeroValue150 (λw=>by simp [sizeOf148,sizeOf2];rfl)):=⟨underlying150,zeroValue150,(λw=>by simp [sizeOf148,sizeOf2])⟩
instance:type_of% (BdT.mk underlying186 zeroValue186 (λw=>by simp [sizeOf2,sizeOf53];rfl)):=⟨underlying186,zeroValue186,(λw=>by simp [sizeOf2,sizeOf53])⟩
theorem Sep.eqw {X:List Nat} {N:Nat->Prop} {w0 w:Wd} {D:List As} {v0:Vl} {l:List Int} {r:Int} (H:Sep X N w0 w (ow (V:=Sl 1 xF) v0 l::D)) (hr:xM r):Sep X N w0 w (ow (V:=qR 2 xL) (.agg #[v0,.int .i64 r]) (A8.mk l r)::D):= H.imp (λ{Y} ⟨bs,h1,h2,h3⟩ _=>⟨bs,xL.mk2 h1 hr,h2,h3⟩) n0
def hol {α:Type} (k:Nat) (l:List α):List (Option α):=List.replicate k none++(l.drop k).map some
theorem oDe {α:Type} {k:Nat} {l:List α} {x:α} (h:l[k]?=some x):(hol k l)[k]?=some (some x):=by
 unfold hol
 rw[Bb vK]
 simp [h]
theorem oEo {α:Type} {k:Nat} {l:List α} (h:k<l.length):(hol k l).set k none=hol (k+1) l:=by
 unfold hol
 rw[Ey _ _ vK,Bt h];have e:(l.drop (k+1)).map some=List.drop (k+1) (l.map some):=List.map_drop ..
 simp [List.replicate_succ',e]
 rw[Bt (vV h)]
 rfl
def eW (x0:B3):Option B3:= xH (cS x0) λz12=>xH (dS z12.1 z12.2) λz60=>if (decide (0<=z60)) then xH (nJ (0:Int) x0.unknowns) λz66=>xH (ap ([]) ([(A8.mk z66 1)])) λz73=>some ((B3.mk x0.prime x0.unknowns z73)) else qD (σ:=List A8) (qU (λk230 s224=>xH (ix z12.1 (k230:Int)) λz236=>xH (ap s224 ([(A8.mk z236.left z236.right)])) λz251=>some (.go z251)) z12.2.toNat 0 []) λs227=>some ((B3.mk x0.prime x0.unknowns s227))
set_option maxHeartbeats 1000000 in
theorem xGb {B:Nat->Prop} {x0:B3} (r:B3) (hR:eW x0=some r) {v0:Vl} (w0:Wd) (hN:HN B w0) (A0:Bo B w0 (Pt 3 oZ) v0 x0):CG B w0 199 #[v0] (.v λv1'=>.fa (xM r.prime) <| .fa (xM r.unknowns) <| .st (.agg #[.int .i64 r.prime,.int .i64 r.unknowns,v1']) λD=>rl 2 xL 186 v1' r.list::D):=by
 unfold eW at hR
 revert r
 refine vW func199 [(0,v0)] hN λr=>?_;refine aM rfl (λb11=>?_);refine qS ?_;refine jo rfl ?_;refine jB λz12 c13=>?_;refine jk (λH=>rE z12 c13 _ aA (H.a A0)) (λv14 i16=>?_);refine jA 5 rfl ?_;refine xAo ?_;refine jD ?_;refine jdp (f:=1) (ls:=(bi 12 2047)) (.n λb52=>.v λv58=>.fa (xM 0) <| .fa (xM 0) <| .fa (xM 0) <| .fa (xM 0) <| .fa (xM x0.prime) <| .fa (xM x0.unknowns) <| .st [(0,v0),(2,.pointer (some ⟨b11,0,none⟩)),(3,v14),(4,.int .i64 z12.2),(5,.pointer (some ⟨b52,0,none⟩)),(21,(.agg #[.int .i64 x0.prime,.int .i64 x0.unknowns,v58]))] [bx b52 [.int .i64 0,.int .i64 0,(.slice none 0 0)] 150,rl 2 xL 186 v58 ([]),rl 3 qO 194 v14 z12.1,bx b11 [.int .i64 0,.int .i64 0,(.slice none 0 0)] 150]) (λb52 v58 _ _ _ _ i55 i56=>?_) (λH59=>?_)
 ·
  refine jE 11 rfl ?_;refine kG (hv:=(λH=>oc rfl (oc rfl (oc (H.l 1 rfl).one on)))) e3 ?_;refine qT ?_;refine gV ?_;refine bX ?_;refine jA 2 rfl ?_;refine jB λz60 c61=>?_;refine jk (λH=>sD aA (H.l 2 rfl) i16 z60 c61) (λiz60=>?_);refine jo rfl ?_;refine aI ?_;refine xW ?_ ?_
  ·refine iW ?_;refine jB λz66 c67=>?_;refine jB λz73 c74=>?_;refine cM λw1 X1 N1 sm g1 e1 th _=>?_;have K:=g1.bk;refine jD ?_;refine kJ 0 rfl e2 ?_;refine gH 1 rfl K e2 ?_;refine zG [2] rfl ?_;refine jvN 3 rfl A0 ?_;refine gR 4 rfl A0 oZ.f1 (λ_ qc=>?_);refine aY (s:=λH w l=>sm.trans (Sm.mono (H.v w l) th.2.2)) 5 rfl qc (λ_=>?_);refine jE 6 rfl ?_;refine jRM (R:=xF) (λw=>⟨rfl,kS,rfl⟩) c67 (λv91=>?_);refine qT ?_;refine jE 7 rfl ?_;refine qC (hone:=(λH=>oc (H.l 0 rfl).one (oc rfl on))) e5 ?_;refine qT ?_;refine jE 8 rfl ?_;refine jh (λH=>xL.w zD H) ?_;refine tD (λH=>El.agg) (λv93=>?_);refine qT ?_;refine jE 9 rfl ?_;refine js [1,0,3] rfl ?_;refine jPL c74 (λv108=>?_);refine qT ?_;refine kJ 10 rfl e2 ?_;refine jF9 11 rfl ?_;refine kY th ?_;refine jW (hv:=(λH=>(H.l 1 rfl).one)) e3 ?_;refine c_e ?_;refine c_n ?_;refine gV ?_;refine iW ?_;refine aH 0 e3 ?_;refine js [2,0,1] rfl ?_;refine kG (hv:=(λH=>oc rfl (oc rfl (oc (H.l 2 rfl).one on)))) e3 ?_;refine iW ?_;exact j1m (λH=>H.s [2] rfl rfl) (cN 0 e2) ⟨_,i55,i56,lv⟩
  ·
   refine iW ?_;refine vA (λs227=>.v λv229=>.st [(2,.pointer (some ⟨b11,0,none⟩)),(5,.pointer (some ⟨b52,0,none⟩))] [bx b52 [.int .i64 x0.prime,.int .i64 x0.unknowns,v229] 150,rl 2 xL 186 v229 s227,bx b11 [.int .i64 0,.int .i64 0,(.slice none 0 0)] 150]) ?_ (λs227 v229=>?_)
   ·by_cases hz:z12.1=[]
    ·refine c_k ?_
     refine js [0,1,3] rfl ?_;refine jc (λk230 s224=>.v λv226=>.st [(6,.int .i64 (k230:Int)),(2,.pointer (some ⟨b11,0,none⟩)),(5,.pointer (some ⟨b52,0,none⟩)),(4,.int .i64 z12.2)] [bx b52 [.int .i64 x0.prime,.int .i64 x0.unknowns,v226] 150,rl 2 xL 186 v226 s224,bx b11 [.int .i64 0,.int .i64 0,(.slice none 0 0)] 150]) ⟨_,ls⟩ (λk s K hk v226=>?_) (λq k s hk v226=>?_)
     ·refine iW ?_
      refine zX (show decide ((k:Int)<z12.2)=false by simp;omega) ?_;refine nz3 ?_;exact jf ⟨_,ls⟩
     ·refine jB λz236 c237=>?_
      rw[hz] at c237;exact absurd (aE c237).2 vK
    ·have qa:0<z12.1.length:=List.length_pos_iff.2 hz
     refine js [2,0,1,3] rfl ?_;refine xMs (λH=>H.opn qa) (λ⟨g,c,cs⟩ hV=>?_);have hle:z12.1.length*3<=cs.length:=hV.le;refine jev 3 hV.e ?_;refine c_k ?_;refine js [2,3,0,1,4] rfl ?_;refine jc (λk230 s224=>.v λv226=>.st [(6,.int .i64 (k230:Int)),(2,.pointer (some ⟨b11,0,none⟩)),(5,.pointer (some ⟨b52,0,none⟩)),(3,.slice (some ⟨g,0,none⟩) z12.1.length c),(4,.int .i64 z12.2)] [bx b52 [.int .i64 x0.prime,.int .i64 x0.unknowns,v226] 150,rl 2 xL 186 v226 s224,bx g cs 194,rc 3 qO cs (hol k230 z12.1),bx b11 [.int .i64 0,.int .i64 0,(.slice none 0 0)] 150]) ⟨_,ls⟩ (λk s K hk v226=>?_) (λq k s hk v226=>?_)
     ·refine iW ?_
      refine zX (show decide ((k:Int)<z12.2)=false by simp;omega) ?_;refine nz3 ?_;refine js [0,1,4] rfl ?_;exact jf ⟨_,ls⟩
     ·refine iW ?_
      refine kA (show decide ((k:Int)<z12.2)=true by simp;omega) ?_;refine iW ?_;refine c_k ?_;refine jB λz236 c237=>?_;refine jB λz251 c252=>?_;have h0:=(aE c237).2;have qd:k<z12.1.length:=(Ac.1 h0).1;have al:(0:Int)<=(k:Int)/\(k:Int)<(z12.1.length:Int):=xG;refine js [3,0,1,2,4] rfl ?_;refine xMs (γ:=Vl×Vl) (E:=λu=>[ow (V:=Sl 1 xF) u.1 z236.left,ow (V:=Sl 1 xF) u.2 z236.bys,rc 3 qO cs ((hol k z12.1).set k none),bx b52 [.int .i64 x0.prime,.int .i64 x0.unknowns,v226] 150,rl 2 xL 186 v226 s,bx g cs 194,bx b11 [.int .i64 0,.int .i64 0,(.slice none 0 0)] 150]) (λH=>H.tk7 k (oDe h0) xG) (λ⟨va,vb⟩ ⟨q0,q1,q2,i0⟩=>?_);rw[oEo qd];refine jfc (λH=>(H.o 0 rfl).one) (λh1=>?_);refine js [0,2,3,4,5,6] rfl ?_;refine jh (λH=>H.eqw i0) ?_;refine js [2,4,0,1,3,5] rfl ?_;refine jh (λH=>H.mg) ?_;refine cM λw1 X1 N1 sm g1 e1 th _=>?_;have K:=g1.l.bk;have K2:=g1.r.bk;refine jD ?_;refine kJ 0 rfl e2 ?_;refine gH 1 rfl K e2 ?_;refine zG [2,3] rfl ?_;refine xHb 4 rfl al ?_;refine kJ 5 rfl e2 ?_;refine gH 6 rfl K2 ⟨rfl,q0⟩ ?_;refine zG [7,8] rfl ?_;refine xHb 9 rfl al ?_;refine kJ 10 rfl e2 ?_;refine gH 11 rfl K2 ⟨rfl,q1⟩ ?_;refine jvv 12 rfl (λF H w l=>xPr underlying186 zeroValue186 (λw=>by simp [sizeOf2,sizeOf53];rfl) F rfl rfl rfl rfl (oc h1 (oc rfl on)) rfl rfl) ?_;refine jE 13 rfl ?_;refine tD (λH=>El.agg) (λv93=>?_);refine qT ?_;refine jE 14 rfl ?_;refine js [2,0,1,3] rfl ?_;refine jPL c252 (λv282=>?_);refine qT ?_;refine kJ 15 rfl e2 ?_;refine jF9 16 rfl ?_;refine kY th ?_;refine jh (λH=>H.um) ?_;refine js [0,2,1,3,4] rfl ?_;refine jW (hv:=(λH=>(H.l 1 rfl).one)) e3 ?_;refine c_e ?_;refine c_n ?_;refine gV ?_;refine iW ?_;refine oE (vZ hk i16) ?_;refine iW ?_;exact jg ⟨_,ls⟩
   ·refine iW ?_
    refine aH 0 e3 ?_;refine js [2,0,1] rfl ?_;refine kG (hv:=(λH=>oc rfl (oc rfl (oc (H.l 2 rfl).one on)))) e3 ?_;refine iW ?_;exact j1m (λH=>H.s [2] rfl rfl) (cN 0 e2) ⟨_,i55,i56,lv⟩
 refine jdp (f:=2) (ls:=(bi 12 1535)) (.n λb42=>.v λv48=>.fa (xM 0) <| .fa (xM 0) <| .fa (xM 0) <| .fa (xM 0) <| .fa (xM x0.prime) <| .fa (xM x0.unknowns) <| .st [(0,v0),(2,.pointer (some ⟨b11,0,none⟩)),(3,v14),(4,.int .i64 z12.2),(5,.pointer (some ⟨b42,0,none⟩)),(15,.int .i64 x0.prime),(19,.int .i64 x0.unknowns),(20,v48)] [bx b42 [.int .i64 0,.int .i64 0,(.slice none 0 0)] 150,rl 2 xL 186 v48 ([]),rl 3 qO 194 v14 z12.1,bx b11 [.int .i64 0,.int .i64 0,(.slice none 0 0)] 150]) (λb42 v48 i40 i41 i43 i44 i45 i46=>?_) (λH49=>?_)
 ·refine jE 9 rfl ?_;refine qC (hone:=(λH=>oc rfl (oc rfl (oc (H.l 1 rfl).one on)))) e5 ?_;refine qT ?_;exact H59 ⟨_,_,i40,i41,i43,i44,i45,i46,ls⟩
 refine zG [0] rfl ?_;refine jvN 1 rfl A0 ?_;refine gR 2 rfl A0 oZ.f0 (λ_ qe=>?_);refine aY 3 rfl qe (λi29=>?_);refine zG [4] rfl ?_;refine jvN 5 rfl A0 ?_;refine gR 6 rfl A0 oZ.f1 (λ_ qf=>?_);refine aY 7 rfl qf (λi32=>?_);refine dV (λH=>H) 8 10 rfl rfl ?_ ?_
 ·
  refine jR0 xL (λv33=>?_);refine qT ?_;refine dV (λH=>H) 9 10 rfl rfl ?_ ?_
  ·refine qC (hone:=(λH=>oc rfl (oc rfl (oc (H.l 0 rfl).one on)))) e5 ?_;refine qT ?_;refine jE 10 rfl ?_;refine aM rfl (λb35=>?_);refine qT ?_;exact H59 ⟨_,_,xU,xU,xU,xU,i29,i32,ls⟩
  ·refine aM rfl (λb36=>?_);refine qT ?_;exact H49 ⟨_,_,xU,xU,xU,xU,i29,i32,ls⟩
 ·refine aM rfl (λb37=>?_);refine qT ?_;refine jE 8 rfl ?_;refine jR0 xL (λv38=>?_);refine qT ?_;refine js [1,0,2,3] rfl ?_;exact H49 ⟨_,_,xU,xU,xU,xU,i29,i32,ls⟩
end
section
open Go.Proofs.Tryz
set_option maxHeartbeats 1000000
set_option maxRecDepth 100000
open Go.RowKit
variable {B:Nat->Prop} {N:Nat}
def dO (c:Int):Option Bool:= xH (kR c 1 4) λd=>some d
theorem pB {c} {d} (hN:HN B d) (e:xM c):∀ r,dO c=some r->CG B d 50 #[xB c] (sB r):=by
 refine jiN func50 [(0,xB c)] hN λr=>?_;exact xN (xK rfl (jo rfl (jB λf h=>(jk (λH=>kM aA e zD tY f h) (xX rfl (qJ lv))))))
def rG (c:Int):Option Bool:= xH (kR c 1 4) λd=>some d
theorem xJi {c} {d} (hN:HN B d) (e:xM c):∀ r,rG c=some r->CG B d 73 #[xB c] (sB r):=by
 refine jiN func73 [(0,xB c)] hN λr=>?_;exact xN (xK rfl (jo rfl (jB λf h=>(jk (λH=>kM aA e zD tY f h) (xX rfl (qJ lv))))))
def mI (d e:Int) (c:List Int):Option Bool:= qD (σ:=Unit) (oM (λj (f:Int) s=>match s with | _=>xH (ck (d - 1)) λh=>xH (kR f 0 h) λi=>if (!i) then some (.ret false) else some (.go ())) c 0 ()) λ_=>some (((c.length:Int)==e))
theorem xJd {d c j} {e} {i} (hN:HN B i) (G:xM d) (I:xM c) (f:Bo B i (Sl 1 xF) e j):∀ r,mI d c j=some r->CG B i 74 #[xB d,xB c,e] (sB r):=by
 refine vW func74 [(0,xB d),(1,xB c),(2,e)] hN λr=>?_;refine xI rfl (xA rfl (vA (λ_=>.st [(1,xB c),(2,e)] []) ?_ (λ_=>?_)))
 ·
  refine zH (jl (λp _=>.st [(7,xB (p:Int)),(0,xB d),(1,xB c),(2,e)] []) ls (λ_ _ _ y=>?_) (λp _ _ h z=>?_))
  ·have A:=oO y;exact xV (jA 2 rfl (jL f λ_=>xA rfl (zX A (xP (jf ls)))))
  refine xV (jA 2 rfl (jL f λt=>xA rfl (kA (xZ h) (oJ ?_))));have j1:=bV (Ae h) t;refine qH (jA 2 rfl (jI f z λ_ C=>aJ C λD=>jo rfl (jB λK x=>(fR x (jB λE F=>(jk (λH=>kM aA D xU (zI x) E F) (xA rfl (xW ?_ ?_))))))))
  ·exact xN (qA 1 rfl (dB (zC (cV (eT (qJ lv))))))
  exact qM (jo rfl (oE (qE h t) (xA rfl (jg ls))))
 exact oQ (jo rfl (jL f λ_=>qZ 3 rfl (qJ lv)))
def iY (e f:List Int):Option Bool:= qD (σ:=Unit) (oM (λh (c:Int) s=>match s with | _=>xH (ix f (h:Int)) λd=>if (c != d) then some (.ret ((decide (c<d)))) else some (.go ())) e 0 ()) λ_=>some false
theorem xGy {i j} {c d} {e} (hN:HN B e) (f:Bo B e (Sl 1 xF) c i) (p:Bo B e (Sl 1 xF) d j):∀ r,iY i j=some r->CG B e 75 #[c,d] (sB r):=by
 refine vW func75 [(0,c),(1,d)] hN λr=>?_;refine xI rfl (xA rfl (vA (λ_=>.st [] []) ?_ (λ_=>?_)))
 ·
  refine zH (jl (λt _=>.st [(5,xB (t:Int)),(0,c),(1,d)] []) ls (λ_ _ _ A=>?_) (λt _ _ h x=>?_))
  ·have C:=oO A;exact xV (jA 2 rfl (jL f λ_=>xA rfl (zX C (xP (jf ls)))))
  refine xV (jA 2 rfl (jL f λy=>xA rfl (kA (xZ h) (oJ ?_))));have j1:=bV (Ae h) y;refine sJ (jQ (vY 2 rfl (gU f x λ_ D=>kN D λ_=>vY 2 rfl (jB λH z=>(gU p z λ_ E=>kN E λ_=>vY 1 rfl (lE (dA (xW ?_ ?_))))))))
  ·refine a_s (jQ (vY 2 rfl (gU f x λ_ F=>kN F λ_=>vY 2 rfl (gU p z λ_ G=>kN G λ_=>vY 2 rfl (lE (xQf (dB (zC (cV (eT ?_))))))))));exact qJ lv
  exact qM (jo rfl (oE (qE h y) (xA rfl (jg ls))))
 exact oQ (xX rfl (qJ lv))
def pW (d:Int) (c:Rel):Option Bool:= qD (σ:=Bool) (xH (dO d) λh=>if (!h) then some (.nx true) else xH (rG c.arity) λi=>some (.nx (!i))) λj=>if j then some false else qD (σ:=Unit) (oM (λe (f:(List Int)) s=>match s with | _=>qD (σ:=Bool) (xH (mI d c.arity f) λp=>if (!p) then some (.nx true) else if (decide (0<(e:Int))) then xH (ck ((e:Int) - 1)) λt=>xH (ix c.tuples t) λx=>xH (iY x f) λy=>some (.nx (!y)) else some (.nx false)) λz=>if z then some (.ret false) else some (.go ())) c.tuples 0 ()) λ_=>some true
theorem xPt {d p} {e} {h} (hN:HN B h) (j:xM d) (c:Bo B h (Pt 2 oR) e p):∀ r,pW d p=some r->CG B h 49 #[xB d,e] (sB r):=by
 refine vW func49 [(0,xB d),(1,e)] hN λr=>?_;refine jo rfl (gL (vA (λL=>.st [(0,xB d),(1,e),(16,.bool L)] []) ?_ (λ_=>?_)))
 ·
  refine iQ (jo rfl (jB λM N=>(jk (λH=>pB aA j M N) (jA 2 rfl (dZ 9 (λ_=>?_) (λ_=>?_))))))
  ·exact oD 7 rfl (jf ls)
  exact jo rfl (jN c (kZ c oR.f0 λ_ O=>aJ O λP=>jB λQ R=>(jk (λH=>xJi aA P Q R) (oD 2 rfl (jf ls)))))
 refine dA (xW ?_ ?_)
 ·exact xN (xT rfl (qJ lv))
 refine qY (xA rfl (vA (λ_=>.st [] []) ?_ (λ_=>?_)))
 ·
  refine zH (jl (λi _=>.st [(5,xB (i:Int)),(0,xB d),(1,e)] []) ls (λ_ _ _ S=>?_) (λi _ _ f t=>?_))
  ·have T:=oO S;exact xV (jA 2 rfl (jN c (kZ c oR.f1 λ_ U=>aT U λ_ W=>jL W λ_=>xA rfl (zX T (xP (jf ls))))))
  refine xV (jA 2 rfl (jN c (kZ c oR.f1 λ_ X=>aT X λ_ Y=>jL Y λx=>xA rfl (kA (xZ f) (oJ ?_)))));have j1:=bV (Ae f) x;refine sJ (vA (λZ=>.st [(0,xB d),(1,e),(5,xB (i:Int)),(62,.bool Z)] []) ?_ (λ_=>?_))
  ·
   refine jQ (vY 2 rfl (jqN c (cA c oR.f0 λ_ h6=>kN h6 λi3=>vY 1 rfl (jqN c (cA c oR.f1 λ_ h7=>eN h7 λ_ h8=>vY 1 rfl (gU h8 t λ_ h9=>eN h9 λ_ y=>jB λz3 c3=>(jqk (λH=>xJd aA j i3 (H.a y) z3 c3) (vY 2 rfl ?_))))))));refine dZ 40 (λ_=>?_) (λ_=>?_)
   ·exact vY 22 rfl (lE (dA (jf ls)))
   refine vY 3 rfl (dZ 43 (λ_=>?_) (λ_=>?_))
   ·refine vY 1 rfl (jqN c (cA c oR.f1 λ_ z=>eN z λ_ A=>vY 1 rfl (jB λz4 c4=>(jqv (λF H w l=>xBi F rfl rfl c4) (jB λz5 c5=>(gU A c5 λ_ C=>eN C λ_ D=>vY 1 rfl (jqN c (cA c oR.f1 λ_ E=>eN E λ_ G=>vY 1 rfl ?_))))))));exact gU G t λ_ I=>eN I λ_ K=>jB λz6 c6=>(jqk (λH=>xGy aA (H.a D) (H.a K) z6 c6) (vY 3 rfl (lE (dA (jf ls)))))
   exact vY 19 rfl (lE (dA (jf ls)))
  refine dA (xW ?_ ?_)
  ·exact xN (qA 1 rfl (dB (zC (cV (eT (qJ lv))))))
  exact qM (jo rfl (oE (qE f x) (xA rfl (jg ls))))
 exact oQ (xX rfl (qJ lv))
def bH (c:A6):Option Bool:= qD (σ:=Unit) (oM (λi (d:Rel) s=>match s with | _=>xH (pW c.size d) λe=>if (!e) then some (.ret false) else some (.go ())) c.rels 0 ()) λ_=>qD (σ:=Bool) (xH (dO c.size) λf=>if f then some (.nx (decide ((c.rels.length:Int)<=6))) else some (.nx false)) λh=>some h
theorem mZ {h} {d} {f} (hN:HN B f) (c:Bo B f (Pt 2 xC) d h):∀ r,bH h=some r->CG B f 32 #[d] (sB r):=by
 refine vW func32 [(0,d)] hN λr=>?_;refine xI rfl (xA rfl (vA (λ_=>.st [(0,d)] []) ?_ (λ_=>?_)))
 ·
  refine zH (jl (λi _=>.st [(3,xB (i:Int)),(0,d)] []) ls (λ_ _ _ x=>?_) (λi _ _ e y=>?_))
  ·have z:=oO x;exact xV (jA 2 rfl (jN c (kZ c xC.f1 λ_ A=>aT A λ_ C=>jL C λ_=>xA rfl (zX z (xP (jf ls))))))
  refine xV (jA 2 rfl (jN c (kZ c xC.f1 λ_ D=>aT D λ_ E=>jL E λj=>xA rfl (kA (xZ e) (oJ ?_)))));have j1:=bV (Ae e) j;refine sJ (jQ (vY 1 rfl (jqN c (cA c xC.f0 λ_ F=>kN F λG=>vY 1 rfl (jqN c (cA c xC.f1 λ_ I=>eN I λ_ K=>vY 1 rfl (gU K y λ_ L=>jB λM N=>(jqk (λH=>xPt aA G (H.a L) M N) (vY 1 rfl ?_)))))))));refine lE (dA (xW ?_ ?_))
  ·exact xN (qA 1 rfl (dB (zC (cV (eT (qJ lv))))))
  exact qM (jo rfl (oE (qE e j) (xA rfl (jg ls))))
 refine xNh (vA (λO=>.st [(2,.bool O)] []) ?_ (λ_=>?_))
 ·
  refine iQ (jo rfl (jN c (kZ c xC.f0 λ_ P=>aJ P λQ=>jB λR S=>(jk (λH=>pB aA Q R S) (jo rfl (dZ 30 (λ_=>?_) (λ_=>?_)))))))
  ·exact jo rfl (jN c (kZ c xC.f1 λ_ p=>aT p λ_ t=>jL t λ_=>oD 3 rfl (jf ls)))
  exact oD 8 rfl (jf ls)
 exact lY (qJ lv)
def nX (c:List Int) (d:Int):Option Bool:= qD (σ:=Unit) (oM (λi (e:Int) s=>match s with | _=>xH (ck (d - 1)) λf=>xH (kR e 0 f) λh=>if (!h) then some (.ret false) else some (.go ())) c 0 ()) λ_=>some true
theorem xGx {i c} {d} {f} (hN:HN B f) (h:Bo B f (Sl 1 xF) d i) (F:xM c):∀ r,nX i c=some r->CG B f 76 #[d,xB c] (sB r):=by
 refine vW func76 [(0,d),(1,xB c)] hN λr=>?_;refine xI rfl (xA rfl (vA (λ_=>.st [] []) ?_ (λ_=>?_)))
 ·
  refine zH (jl (λj _=>.st [(5,xB (j:Int)),(0,d),(1,xB c)] []) ls (λ_ _ _ x=>?_) (λj _ _ e y=>?_))
  ·have z:=oO x;exact xV (jA 2 rfl (jL h λ_=>xA rfl (zX z (xP (jf ls)))))
  refine xV (jA 2 rfl (jL h λp=>xA rfl (kA (xZ e) (oJ ?_))));have j1:=bV (Ae e) p;refine qH (jA 2 rfl (jI h y λ_ A=>aJ A λC=>jo rfl (jB λG t=>(fR t (jB λD E=>(jk (λH=>kM aA C xU (zI t) D E) (xA rfl (xW ?_ ?_))))))))
  ·exact xN (qA 1 rfl (dB (zC (cV (eT (qJ lv))))))
  exact qM (jo rfl (oE (qE e p) (xA rfl (jg ls))))
 exact oQ (xX rfl (qJ lv))
def lD (e:A6) (c:A7):Option Bool:= qD (σ:=Bool) (xH (bH e) λf=>if (!f) then some (.nx true) else xH (kR c.vars 1 10) λh=>if (!h) then some (.nx true) else some (.nx (decide (24<(c.cons.length:Int))))) λi=>if i then some false else qD (σ:=Unit) (oM (λz (d:Con) s=>match s with | _=>qD (σ:=Bool) (xH (ck ((e.rels.length:Int) - 1)) λj=>xH (kR d.rel 0 j) λp=>if (!p) then some (.nx true) else xH (ix e.rels d.rel) λt=>if ((d.scope.length:Int) != t.arity) then some (.nx true) else xH (nX d.scope c.vars) λx=>some (.nx (!x))) λy=>if y then some (.ret false) else some (.go ())) c.cons 0 ()) λ_=>some true
theorem sP {t x} {e f} {i} (hN:HN B i) (h:Bo B i (Pt 2 xC) e t) (c:Bo B i (Pt 2 xJ) f x):∀ r,lD t x=some r->CG B i 51 #[e,f] (sB r):=by
 refine vW func51 [(0,e),(1,f)] hN λr=>?_;refine jo rfl (gL (vA (λR=>.st [(0,e),(1,f),(25,.bool R)] []) ?_ (λ_=>?_)))
 ·
  refine iQ (jo rfl (jB λS T=>(jk (λH=>mZ aA (H.a h) S T) (jA 2 rfl (dZ 10 (λ_=>?_) (λ_=>?_))))))
  ·exact oD 15 rfl (jf ls)
  refine jo rfl (jN c (kZ c xJ.f0 λ_ U=>aJ U λW=>jB λX Y=>(jk (λH=>kM aA W zD xQg X Y) (jA 3 rfl (dZ 18 (λ_=>?_) (λ_=>?_))))))
  ·exact oD 7 rfl (jf ls)
  exact jo rfl (jN c (kZ c xJ.f1 λ_ Z=>aT Z λ_ h3=>jL h3 λ_=>oD 2 rfl (jf ls)))
 refine dA (xW ?_ ?_)
 ·exact xN (xT rfl (qJ lv))
 refine qY (xA rfl (vA (λ_=>.st [] []) ?_ (λ_=>?_)))
 ·
  refine zH (jl (λp _=>.st [(5,xB (p:Int)),(0,e),(1,f)] []) ls (λ_ _ _ q1=>?_) (λp x2 _ j y1=>?_))
  ·have l1:=oO q1;exact xV (jA 2 rfl (jN c (kZ c xJ.f1 λ_ h4=>aT h4 λ_ h5=>jL h5 λ_=>xA rfl (zX l1 (xP (jf ls))))))
  refine xV (jA 2 rfl (jN c (kZ c xJ.f1 λ_ h6=>aT h6 λ_ h7=>jL h7 λy=>xA rfl (kA (xZ j) (oJ ?_)))));have j1:=bV (Ae j) y;refine qH (jo rfl (jN c (kZ c xJ.f1 λ_ h8=>aT h8 λ_ h9=>jo rfl (jI h9 y1 λ_ d=>xR rfl (vA (λs2=>.st [(0,e),(1,f),(5,xB (p:Int)),(83,.bool s2)] []) ?_ (λ_=>?_))))))
  ·
   refine jQ (vY 1 rfl (jqN d (cA d vH.f0 λ_ A=>kN A λi3=>vY 1 rfl (jqN h (cA h xC.f1 λ_ C=>eN C λ_ D=>jqL D λ_=>jB λz3 z=>(jqv (λF H w l=>xBi F rfl rfl z) (jB λz4 c4=>(jqk (λH=>kM aA i3 xU (zI z) z4 c4) (vY 2 rfl ?_)))))))));refine dZ 53 (λ_=>?_) (λ_=>?_)
   ·exact vY 30 rfl (lE (dA (jf ls)))
   refine vY 1 rfl (jqN d (cA d vH.f1 λ_ E=>eN E λ_ G=>jqL G λ_=>vY 1 rfl (jqN h (cA h xC.f1 λ_ I=>eN I λ_ K=>vY 1 rfl (jqN d (cA d vH.f0 λ_ L=>kN L λ_=>jB λz5 c5=>(gU K c5 (λ_ M=>?_))))))));refine cA M oR.f0 λ_ N=>kN N λ_=>vY 3 rfl (dZ 72 (λ_=>?_) (λ_=>?_))
   ·exact vY 11 rfl (lE (dA (jf ls)))
   exact vY 1 rfl (jqN d (cA d vH.f1 λ_ O=>eN O λ_ P=>vY 1 rfl (jqN c (cA c xJ.f0 λ_ Q=>kN Q λi4=>jB λz6 c6=>(jqk (λH=>xGx aA (H.a P) i4 z6 c6) (vY 2 rfl (lE (dA (jf ls)))))))))
  refine dA (xW ?_ ?_)
  ·exact xN (qA 1 rfl (dB (zC (cV (eT (qJ lv))))))
  exact qM (jo rfl (oE (qE j y) (xA rfl (jg ls))))
 exact oQ (xX rfl (qJ lv))
def dU (c:Int):Option Bool:= xH (kR c 1 3) λd=>some d
theorem rW {c} {d} (hN:HN B d) (e:xM c):∀ r,dU c=some r->CG B d 120 #[xB c] (sB r):=by
 refine jiN func120 [(0,xB c)] hN λr=>?_;exact xN (xK rfl (jo rfl (jB λf h=>(jk (λH=>kM aA e zD iV f h) (xX rfl (qJ lv))))))
def qQ (N:Nat) (f h:Int):Option Int:= qD (σ:=Int×Int) (lF (λs=>match s with | (c,d)=>if (decide (0<c)) then xH (ck (d*f)) λi=>xH (ck (c - 1)) λj=>some (.go (j,i)) else some (.brk (c,d))) N (h,1)) λ(p,e)=>some e
theorem zN {c d} {i} (hN:HN B i) (C:xM c) (x:xM d):∀ r,qQ N c d=some r->CG B i 121 #[xB c,xB d] (sI r):=by
 refine vW func121 [(0,xB c),(1,xB d)] hN λr=>?_;refine xK rfl (xR rfl (vA (λ(j,e)=>.fa (xM j) <| .fa (xM e) <| .st [(5,xB e)] []) ?_ (λ(j,e) _ y=>?_)))
 ·
  refine zH ?_;refine jw (λ(f,h)=>.fa (xM f) <| .fa (xM h) <| .st [(0,xB c),(1,xB f),(5,xB h)] []) ⟨x,zD,ls⟩ (λ_ (f,h) z A=>?_);refine xV (oD 2 rfl (xW ?_ ?_))
  ·refine xPm (jA 2 rfl (jB λD p=>(wT p (zL 1 rfl (jo rfl (jB λE t=>(fR t (xA rfl ?_))))))));exact jg ⟨(zI t),(zI p),ls⟩
  refine mK (jbk (wI ?_));exact jf ⟨z,A,ls⟩
 refine oQ (qZ 2 rfl ?_);exact qJ ⟨y,lv⟩
def bW (N:Nat) (c d f:Int):Option (Op×Int):= xH (dO c) λj=>if (!j) then some ((Op.mk 0 ([])),1) else qD (σ:=Bool) (xH (dU d) λp=>if (!p) then some (.nx true) else xH (ck (c - 1)) λt=>xH (kR f 0 t) λi=>some (.nx (!i))) λx=>if x then some ((Op.mk 0 ([])),2) else xH (qQ N c d) λy=>qD (σ:=Int×(List Int)) (lF (λs=>match s with | (e,h)=>if (decide (0<e)) then xH (ap h ([f])) λz=>xH (ck (e - 1)) λA=>some (.go (A,z)) else some (.brk (e,h))) N (y,[])) λ(C,B)=>some ((Op.mk d B),0)
theorem wB {f c d} {A} (hN:HN B A) (x:xM f) (i:xM c) (y:xM d):∀ r,bW N f c d=some r->CG B A 77 #[xB f,xB c,xB d] (.v λz=>.fa (xM r.1.arity) <| .fa (xM r.2) <| .st (.tuple #[.agg #[xB r.1.arity,z],xB r.2]) λD=>rl 1 xF 2 z r.1.table::D):=by
 refine vW func77 [(0,xB f),(1,xB c),(2,xB d)] hN λr=>?_;refine aM rfl λe=>xI rfl (jo rfl (jB λM O=>(jk (λH=>pB aA x M O) (xA rfl (xW ?_ ?_)))))
 ·refine xN (qC e5 (kG e3 (xT rfl ?_)));exact mA (λH=>(H.nl 1 xF 2).s [0] rfl rfl) (cN 0 e2) (rt rfl) ⟨_,xU,zD,lv⟩
 refine xLr ?_;refine vA (λP=>.st [(0,xB f),(1,xB c),(2,xB d),(6,oU e),(23,.bool P)] [bx e [xB 0,aB] 104]) ?_ (λ_=>?_)
 ·
  refine iQ (jo rfl (jB λQ R=>(jk (λH=>rW aA i Q R) (jA 2 rfl (dZ 17 (λ_=>?_) (λ_=>?_))))))
  ·exact oD 6 rfl (jf ls)
  exact jA 2 rfl (jB λY C=>(fR C (jB λK S=>(jk (λH=>kM aA y xU (zI C) K S) (oD 2 rfl (jf ls))))))
 refine dA (xW ?_ ?_)
 ·refine xN (qC e5 (kG e3 (xT rfl ?_)));exact mA (λH=>(H.nl 1 xF 2).s [0] rfl rfl) (cN 0 e2) (rt rfl) ⟨_,xU,pV,lv⟩
 refine qG (jo rfl (qC e5 (aM rfl λh=>kG e3 (cY (jA 2 rfl (jB λT U=>(jk (λH=>zN aA x i T U) λL=>xA rfl ?_)))))));refine vA (λ(E,F)=>.v λj=>.fa (xM E) <| .st [(6,oU e),(8,oU h)] [rl 1 xF 2 j F,bx h [xB c,j] 104,bx e [xB 0,aB] 104]) ?_ (λ(E,F) j _=>?_)
 ·
  refine zH (jh (λH=>H.nl 1 xF 2) ?_);refine jw (λ(p,G)=>.v λt=>.fa (xM p) <| .st [(2,xB d),(6,oU e),(8,oU h),(9,xB p)] [rl 1 xF 2 t G,bx h [xB c,t] 104,bx e [xB 0,aB] 104]) ⟨_,L,ls⟩ (λ_ (p,G) t W=>?_);refine xV (oD 2 rfl (xW ?_ ?_))
  ·refine xPm (oH e2 (jb 1 e3 (jo rfl (iX (λH=>Eo.int y) λ_=>jB λZ X=>(js [1,0,2,3] rfl (jPL X λv3=>oH e2 (js [1,0,2] rfl (jW (hv:=(λH=>(H.l 1 rfl).one)) e3 (dI (jo rfl (jB λz6 I=>(fR I ?_))))))))))));refine xA rfl (js [1,0,2] rfl ?_);exact jg ⟨_,(zI I),ls⟩
  refine mK (jbk (wI ?_));exact jf ⟨_,W,ls⟩
 refine oQ (aH 1 e3 (js [2,0,1] rfl ?_));refine kG (hv:=(λH=>oc rfl (oc (H.l 1 rfl).one on))) e3 (xX rfl ?_);exact mA (λH=>H.s [1] rfl rfl) (cN 0 e2) (rt rfl) ⟨_,i,xU,lv⟩
def rI (N:Nat) (c d:Int):Option (Int×Int×(List Bool)):= xH (qQ N c d) λe=>xH (nJ (false:Bool) e) λf=>some ((c,d,f))
theorem xJc {c d} {j} (hN:HN B j) (e:xM c) (f:xM d):∀ r,rI N c d=some r->CG B j 251 #[xB c,xB d] (.n λh=>.v λi=>.fa (xM r.1) <| .fa (xM r.2.1) <| .st (oU h) λD=>bx h [xB r.1,xB r.2.1,i] 292::rl 1 aF 4 i r.2.2::D):=by
 refine vW func251 [(0,xB c),(1,xB d)] hN λr=>?_;refine xK rfl (jA 4 rfl (jB λp t=>(jk (λH=>zN aA e f p t) λy=>jB λz x=>?_)));refine jRM (R:=aF) (λw=>⟨rfl,rfl⟩) x (λA=>?_);refine qC (hone:=(λH=>oc rfl (oc rfl (oc (H.l 0 rfl).one on)))) e5 (jX e2 λC=>xX rfl ?_);exact j1 (rt rfl) ⟨_,_,e,f,lv⟩
def aG (c:Int) (d:List Int):Option Int:= qD (σ:=Int) (oM (λp e f=>xH (ck (f*c)) λh=>xH (ck (h+e)) λi=>some (.go i)) d 0 0) λj=>some j
theorem jM {c p} {d} {f} (hN:HN B f) (I:xM c) (h:Bo B f (Sl 1 xF) d p):∀ r,aG c p=some r->CG B f 193 #[xB c,d] (sI r):=by
 refine vW func193 [(0,xB c),(1,d)] hN λr=>?_;refine xK rfl (xI rfl (xA rfl (vA (λt=>.fa (xM t) <| .st [(5,xB t)] []) ?_ (λ_ D=>?_))))
 ·
  refine zH ?_;refine jl (λj i=>.fa (xM i) <| .st [(6,xB (j:Int)),(0,xB c),(1,d),(5,xB i)] []) ⟨xU,ls⟩ (λ_ i _ z E=>?_) (λj _ _ e A _=>?_)
  ·have C:=oO z;refine xV (jA 2 rfl (jL h λ_=>xA rfl (zX C (xP ?_))));exact jf ⟨E,ls⟩
  refine xV (jA 2 rfl (jL h λx=>xA rfl (kA (xZ e) (oJ ?_))));have H:=bV (Ae e) x;refine yP (jA 2 rfl (jB λK F=>(wT F (jA 2 rfl (jI h A λ_ G=>aJ G λ_=>jB λL y=>(kE y (zL 1 rfl (jo rfl (oE (qE e x) (xA rfl ?_))))))))));exact jg ⟨(zI y),ls⟩
 refine oQ (qZ 2 rfl ?_);exact qJ ⟨D,lv⟩
def dT (N:Nat) (d:Int) (e:Rel):Option (Int×Int×(List Bool)):= xH (rI N d e.arity) λc=>qD (σ:=List Bool) (oM (λp (i:(List Int)) f=>xH (aG d i) λh=>xH (ix f h) λt=>some (.go (f.set (h).toNat true))) e.tuples 0 c.2.2) λj=>some ((c.1,c.2.1,j))
theorem rX {d F} {h} {t} (hN:HN B t) (z:xM d) (c:Bo B t (Pt 2 oR) h F):∀ r,dT N d F=some r->CG B t 178 #[xB d,h] (.n λA=>.v λC=>.fa (xM r.1) <| .fa (xM r.2.1) <| .st (oU A) λD=>bx A [xB r.1,xB r.2.1,C] 292::rl 1 aF 4 C r.2.2::D):=by
 refine vW func178 [(0,xB d),(1,h)] hN λr=>?_;refine xK rfl (jA 2 rfl (jN c (kZ c oR.f0 λ_ M=>aJ M λO=>jB λe P=>(jk (λH=>xJc aA z O e P) λf v2 Q R=>xI rfl (xA rfl ?_)))));refine vA (λS=>.v λx=>.st [(5,oU f)] [bx f [xB e.1,xB e.2.1,x] 292,rl 1 aF 4 x S]) ?_ (λ_ x=>?_)
 ·
  refine zH ?_;refine jl (λG y=>.v λi=>.st [(6,xB (G:Int)),(0,xB d),(1,h),(5,oU f)] [bx f [xB e.1,xB e.2.1,i] 292,rl 1 aF 4 i y]) ⟨_,ls⟩ (λ_ y _ T i=>?_) (λG _ y j U i=>?_)
  ·have W:=oO T;refine xV (jA 2 rfl (jN c (kZ c oR.f1 λ_ X=>aT X λ_ Y=>jL Y λ_=>xA rfl (zX W (xP ?_)))));exact jf ⟨_,ls⟩
  refine xV (jA 2 rfl (jN c (kZ c oR.f1 λ_ Z=>aT Z λ_ h5=>jL h5 λI=>xA rfl (kA (xZ j) (oJ ?_)))));have j2:=bV (Ae j) I;refine zH (jB λz2 c2=>(jB λz3 K=>(cM λ_ _ _ E g1 e1 p _=>(jD (zG [0,1] rfl (kJ 2 rfl e2 (gH 3 rfl g1.bk e2 (zG [4,5] rfl (jvN 6 rfl c (gR 7 rfl c oR.f1 λ_ h6=>rB (s:=λH w l=>(E.trans (Sm.mono (H.v w l) p.2.2))) 8 rfl h6 λ_ h7=>zG [9] rfl (nM 10 rfl h7 U λ_ h8=>rB (s:=λH w l=>(E.trans (Sm.mono (H.v w l) p.2.2))) 11 rfl h8 (λ_ h9=>?_))))))))))));refine jE 12 rfl (jk (λH=>jM aA z (H.a (e1 h9)) z2 c2) λa9=>qT (jE 13 rfl (jRl 0 K λ_ L=>qT (jE 14 rfl (jh (λH=>H.lw) (jS L (cI K) (λH=>Eo.bool) rfl (jh (λH=>H.tl) (qT (gV (aK (jo rfl (oE (qE j I) ?_))))))))))));refine xA rfl (kY p ?_);exact jg ⟨_,ls⟩
 refine oQ (qZ 2 rfl ?_);exact j1 (rt rfl) ⟨_,_,Q,R,lv⟩
def zJ (N:Nat) (f h i:Int):Option (List Int):= xH (nJ (0:Int) h) λj=>xH (ck (h - 1)) λp=>qD (σ:=Int×Int×(List Int)) (lF (λs=>match s with | (e,c,d)=>if (decide (0<=c)) then xH (rm e f) λt=>xH (ix d c) λA=>xH (dv e f) λx=>xH (ck (c - 1)) λy=>some (.go (x,y,(d.set (c).toNat t))) else some (.brk (e,c,d))) N (i,p,j)) λ(B,C,z)=>some z
theorem bK {c d e} {y} (hN:HN B y) (L:xM c) (S:xM d) (M:xM e):∀ r,zJ N c d e=some r->CG B y 128 #[xB c,xB d,xB e] (.v λp=>.st (p) λD=>rl 1 xF 2 p r::D):=by
 refine vW func128 [(0,xB c),(1,xB d),(2,xB e)] hN λr=>?_;refine xK rfl (jo rfl (jB λT P=>?_));refine jRM (R:=xF) (λw=>⟨rfl,kS,rfl⟩) P λU=>xI rfl (jo rfl (jB λW t=>(fR t (xA rfl (vA (λ(z,A,C)=>.v λf=>.fa (xM z) <| .fa (xM A) <| .st [(7,f)] [rl 1 xF 2 f C]) ?_ (λ(z,A,C) f _ _=>?_))))))
 ·
  refine zH ?_;refine jw (λ(h,i,x)=>.v λj=>.fa (xM h) <| .fa (xM i) <| .st [(0,xB c),(2,xB h),(7,j),(8,xB i)] [rl 1 xF 2 j x]) ⟨_,M,(zI t),ls⟩ (λ_ (h,i,x) j E Q=>?_);refine xV (oD 2 rfl (xW ?_ ?_))
  ·refine mB (jA 4 rfl (jB λX F=>(xOs F (jB λY G=>(jRl 0 G λ_ O=>jh (λH=>H.lw) (jS O (cI G) (λH=>Eo.int (xHh F E L)) rfl (jh (λH=>H.tl) (eR (jA 2 rfl (jB λZ I=>(xSe I (zL 1 rfl ?_))))))))))));refine jo rfl (jB λz6 K=>(fR K (xA rfl ?_)));exact jg ⟨_,(oDd I),(zI K),ls⟩
  refine mK (jbk (wI ?_));exact jf ⟨_,E,Q,ls⟩
 refine oQ (qZ 2 rfl ?_);exact j1 (rt rfl) ⟨_,lv⟩
def vE (c:Int) (d:Op) (e:List Int):Option Int:= xH (aG c e) λf=>xH (ix d.table f) λh=>some h
theorem aD {c h i} {e f} {d} (hN:HN B d) (p:xM c) (j:Bo B d (Pt 2 vX) e h) (x:Bo B d (Sl 1 xF) f i):∀ r,vE c h i=some r->CG B d 134 #[xB c,e,f] (sI r):=by
 refine vW func134 [(0,xB c),(1,e),(2,f)] hN λr=>?_;refine xR rfl (jQ (vY 1 rfl (jqN j (cA j vX.f1 λ_ y=>eN y λ_ z=>vY 2 rfl (jB λA t=>(xSk (λH=>jM aA p (H.a x) A t) λ_=>jB λF C=>(gU z C λ_ D=>kN D λE=>vY 1 rfl ?_)))))));refine lE (lY ?_);exact qJ ⟨E,lv⟩
def pQ (d:Int) (e:Op) (c:List (List Int)):Option (List Int):= xH (ix c 0) λf=>qD (σ:=List Int) (qU (λh i=>qD (σ:=List Int) (oM (λC j p=>xH (ix j (h:Int)) λt=>xH (ap p ([t])) λx=>some (.go x)) c 0 []) λy=>xH (vE d e y) λz=>xH (ap i ([z])) λA=>some (.go A)) (f.length:Int).toNat 0 []) λB=>some B
theorem xKw {d C E} {e f} {p} (hN:HN B p) (N:xM d) (P:Bo B p (Pt 2 vX) e C) (i:Bo B p (Sl 1 (zV 1 xF)) f E):∀ r,pQ d C E=some r->CG B p 250 #[xB d,e,f] (.v λA=>.st (A) λD=>rl 1 xF 2 A r::D):=by
 refine vW func250 [(0,xB d),(1,e),(2,f)] hN λr=>?_;refine xK rfl (jR0 xF λv3=>xI rfl (xA rfl (jB λz1 F=>(vA (λQ=>.v λy=>.st [(7,y)] [rl 1 xF 2 y Q]) ?_ (λ_ y=>?_)))))
 ·
  refine zH ?_;refine jc (λt j=>.v λc=>.st [(8,xB (t:Int)),(0,xB d),(1,e),(2,f),(7,c)] [rl 1 xF 2 c j]) ⟨_,ls⟩ (λ_ j _ h c=>?_) (λ_ t j h c=>?_)
  ·have R:=vJ h;refine xV (jA 2 rfl (jI i F λ_ S=>aT S λ_ T=>jL T λ_=>xA rfl (zX R (xP ?_))));exact jf ⟨_,ls⟩
  refine xV (jA 2 rfl (jI i F λ_ U=>aT U λ_ W=>jL W λG=>xA rfl (kA (qW h) (oJ ?_))));have j2:=dL h G;refine qH (jR0 xF λv6=>xI rfl (xA rfl (vA (λX=>.v λI=>.st [(0,xB d),(1,e),(2,f),(7,c),(8,xB (t:Int)),(9,I)] [rl 1 xF 2 I X,rl 1 xF 2 c j]) ?_ (λ_ _=>?_))))
  ·
   refine zH ?_;refine jl (λK L=>.v λz=>.st [(10,xB (K:Int)),(0,xB d),(1,e),(2,f),(7,c),(8,xB (t:Int)),(9,z)] [rl 1 xF 2 z L,rl 1 xF 2 c j]) ⟨_,ls⟩ (λ_ L _ Y z=>?_) (λK _ _ x Z _=>?_)
   ·have l2:=oO Y;refine xV (jA 2 rfl (jL i λ_=>xA rfl (zX l2 (xP ?_))));exact jf ⟨_,ls⟩
   refine xV (jA 2 rfl (jL i λM=>xA rfl (kA (xZ x) (oJ ?_))));have j3:=bV (Ae x) M;refine yP (jA 3 rfl (jI i Z λ_ h5=>aT h5 λ_ h6=>jo rfl (jB λz2 c2=>(jI h6 c2 λ_ h7=>aJ h7 λi3=>iX (λH=>Eo.int i3) λ_=>jB λz3 c3=>(js [1,0,2] rfl (jPL c3 λv9=>zL 1 rfl (jo rfl ?_)))))));refine oE (qE x M) (xA rfl ?_);exact jg ⟨_,ls⟩
  refine xNl (jA 4 rfl (jB λz4 c4=>(jk (λH=>aD aA N (H.a P) (H.l 0 rfl) z4 c4) λO=>iX (λH=>Eo.int O) λ_=>jB λz5 c5=>(js [2,0,1] rfl (jPL c5 λaa=>zL 1 rfl (jo rfl (oE (vZ h G) (xA rfl (js [0] rfl ?_)))))))));exact jg ⟨_,ls⟩
 refine oQ (qZ 2 rfl ?_);exact j1 (rt rfl) ⟨_,lv⟩
def nP (N:Nat) (d:Int) (e:Op) (c:Rel):Option ((List (List Int))×(List Int)×Bool):= xH (dT N d c) λi=>xH (qQ N (c.tuples.length:Int) e.arity) λj=>qD (σ:=Unit) (qU (λp s=>match s with | _=>xH (zJ N (c.tuples.length:Int) e.arity (p:Int)) λt=>qD (σ:=List (List Int)) (oM (λI (x:Int) y=>xH (ix c.tuples x) λz=>xH (ap y ([z])) λA=>some (.go A)) t 0 []) λf=>xH (pQ d e f) λh=>xH (aG d h) λB=>xH (ix i.2.2 B) λC=>if (!C) then qD (σ:=List (List Int)) (oM (λK (D:(List Int)) E=>xH (kF D) λF=>xH (ap E ([F])) λG=>some (.go G)) f 0 []) λH=>some (.ret (H,h,true)) else some (.go ())) j.toNat 0 ()) λ_=>some ([],[],false)
theorem xGw {e Z y} {f i} {E} (hN:HN B E) (K:xM e) (z:Bo B E (Pt 2 vX) f Z) (A:Bo B E (Pt 2 oR) i y):∀ r,nP N e Z y=some r->CG B E 177 #[xB e,f,i] (.v λU=>.v λW=>.st (.tuple #[U,W,.bool r.2.2]) λD=>rl 1 (zV 1 xF) 53 U r.1::rl 1 xF 2 W r.2.1::D):=by
 refine vW func177 [(0,xB e),(1,f),(2,i)] hN λr=>?_;refine kW 3 rfl (jo rfl (jN A (kZ A oR.f1 λ_ h1=>aT h1 λ_ h2=>jL h2 λi1=>xK rfl (jA 2 rfl (jB λd c1=>(jk (λH=>rX aA K (H.a A) d c1) λj p _ _=>xK rfl ?_))))));refine jA 2 rfl (jN z (kZ z vX.f0 λ_ h3=>aJ h3 λi2=>jB λF c2=>(jk (λH=>zN aA i1 i2 F c2) λX=>xI rfl (xA rfl (vA (λ_=>.st [] []) ?_ (λ_=>?_))))))
 ·
  refine zH ?_;refine jc (λG _=>.st [(12,xB (G:Int)),(0,xB e),(1,f),(2,i),(9,xB (y.tuples.length:Int)),(10,oU j),(11,xB F)] [bx j [xB d.1,xB d.2.1,p] 292,rl 1 aF 4 p d.2.2]) ls (λ_ _ _ t=>?_) (λ_ G _ t=>?_)
  ·have l1:=vJ t;exact xV (oD 3 rfl (zX l1 (xP (js [] rfl (jf ls)))))
  refine xV (oD 3 rfl (kA (qW t) (oJ (qH (jA 2 rfl (jN z (kZ z vX.f0 λ_ h4=>aJ h4 λi3=>jo rfl (jB λz2 c3=>(jk (λH=>bK aA i1 i3 (dL t X) z2 c3) λv4=>xK rfl ?_)))))))));refine jR0 (zV 1 xF) λv5=>xI rfl (xA rfl ?_);refine vA (λR=>.v λC=>.st [(0,xB e),(1,f),(2,i),(9,xB (y.tuples.length:Int)),(10,oU j),(11,xB F),(12,xB (G:Int)),(14,C)] [rw B 1 (zV 1 xF) 53 C R,bx j [xB d.1,xB d.2.1,p] 292,rl 1 aF 4 p d.2.2]) ?_ (λR C=>?_)
  ·
   refine zH (jh (λH=>H.lw) (jh (λH=>H.wk) ?_));refine jl (λk2 s2=>.v λS=>.st [(15,xB (k2:Int)),(0,xB e),(1,f),(2,i),(9,xB (y.tuples.length:Int)),(10,oU j),(11,xB F),(12,xB (G:Int)),(13,v4),(14,S)] [rw B 1 (zV 1 xF) 53 S s2,rl 1 xF 2 v4 z2,bx j [xB d.1,xB d.2.1,p] 292,rl 1 aF 4 p d.2.2]) ⟨_,ls⟩ (λ_ s2 _ q1 S=>?_) (λk2 _ _ L y1 _=>?_)
   ·have l2:=oO q1;refine xV (jA 2 rfl (nO (λH=>H.l 1 rfl) λ_=>xA rfl (zX l2 (xP (js [0,2,3] rfl ?_)))));exact jf ⟨_,ls⟩
   refine xV (jA 2 rfl (nO (λH=>H.l 1 rfl) λi4=>xA rfl (kA (xZ L) (oJ ?_))));have j1:=bV (Ae L) i4;refine zH (jB λz3 c4=>(jB λz4 c5=>(js [1,0,2,3] rfl (cM λ_ _ _ M g1 _ x _=>(jD (zG [0,1] rfl (jvN 2 rfl A (gR 3 rfl A oR.f1 λ_ h5=>rB (s:=λH w l=>(M.trans (Sm.mono (H.v w l) x.2.2))) 4 rfl h5 λ_ h6=>zG [5,6] rfl (nM 7 rfl g1.ld y1 λ_ h7=>aY 8 rfl h7 λ_=>nM 9 rfl h6 c4 λ_ h8=>rB (s:=λH w l=>(M.trans (Sm.mono (H.v w l) x.2.2))) 10 rfl h8 (λ_ h9=>?_))))))))));refine jE 11 rfl (jR1 (N1:=B) (λc h=>(x.2.2 c h)) (λH=>Eo.sl (Bo.to h9 (M.trans (Sm.mono H.sm x.2.2)))) λ_=>qT (jE 12 rfl (js [1,0,2,3] rfl (jP c5 λv8=>qT (zG [13] rfl (gV (aK (jo rfl (oE (qE L i4) (xA rfl (kY x ?_)))))))))));refine js [1,0,2,3] rfl ?_;exact jg ⟨_,ls⟩
  refine oQ (jA 3 rfl (jB λT c6=>(jk (λH=>xKw aA K (H.a z) (H.r 0 rfl) T c6) λI=>xR rfl (js [3,0,1,2] rfl (cM λw1 X1 N2 _ g2 _ Y _=>(jQ (vY 2 rfl (sQ e2 (jqb 2 e3 (vY 2 rfl (jB λz6 c7=>(xSk (λH=>jM aA K (H.l 0 rfl) z6 c7) (λ_=>?_)))))))))))));refine jB λz7 c8=>(gU g2.ld c8 λ_ a9=>oLu a9 (vY 1 rfl (lE (dA (xW ?_ ?_)))))
  ·
   refine xN (jR0 (zV 1 xF) λbe=>xI rfl (xA rfl (vA (λs3=>.v λO=>.st [(16,I),(17,O)] [rl 1 (zV 1 xF) 53 O s3,rl 1 xF 2 I T]) ?_ (λ_ O=>?_))))
   ·
    refine zH (js [0,1,2] rfl ?_);refine jl (λk3 s4=>.v λP=>.st [(18,xB (k3:Int)),(14,C),(16,I),(17,P)] [rl 1 (zV 1 xF) 53 P s4,rl 1 xF 2 I T,rw B 1 (zV 1 xF) 53 C R]) ⟨_,ls⟩ (λ_ s4 _ q2 P=>?_) (λk3 _ _ Q y2 _=>?_)
    ·have l3:=oO q2;refine xV (jA 2 rfl (nO (λH=>H.r 2 rfl) λ_=>xA rfl (zX l3 (xP (js [0,1] rfl ?_)))));exact jf ⟨_,ls⟩
    refine xV (jA 2 rfl (nO (λH=>H.r 2 rfl) λi5=>xA rfl (kA (xZ Q) (oJ ?_))));have j2:=bV (Ae Q) i5;refine yP (jA 3 rfl (js [2,0,1] rfl (cM λ_ _ _ _ g3 _ aa _=>(jI g3.rd y2 λ_ ab=>aT ab λ_ ac=>jB λz8 c9=>(jk (λH=>dP aA (H.a ac) z8 c9) λ_=>jh (λH=>H.os) (tD (λH=>El.sl) λ_=>jB λz9 ad=>(js [1,0,2] rfl (jPL ad λbf=>zL 1 rfl ?_))))))));refine jo rfl (oE (qE Q i5) (xA rfl (kY aa (js [1,2,0] rfl ?_))));exact jg ⟨_,ls⟩
   refine oQ (qA 5 rfl (dB (zC (cV (eT (kY Y (js [1,2] rfl ?_)))))));exact j3 (rt rfl) (rt rfl) (rt rfl) ⟨_,_,lv⟩
  exact qM (jo rfl (oE (vZ t X) (xA rfl (js [2] rfl (kY Y (js [1,0] rfl (jg ls)))))))
 refine oQ (jR0 (zV 1 xF) λbg=>jR0 xF λbh=>qZ 3 rfl (js [1,0] rfl ?_));exact j3 (rt rfl) (rt rfl) (rt rfl) ⟨_,_,lv⟩
def kT (N:Nat) (c:Int) (d:Op) (e:Rel):Option Bool:= xH (nP N c d e) λf=>some ((!f.2.2))
theorem xAm {c h i} {e f} {d} (hN:HN B d) (j:xM c) (p:Bo B d (Pt 2 vX) e h) (t:Bo B d (Pt 2 oR) f i):∀ r,kT N c h i=some r->CG B d 122 #[xB c,e,f] (sB r):=by
 refine jiN func122 [(0,xB c),(1,e),(2,f)] hN λr=>?_;exact xN (xK rfl (jA 3 rfl (jB λx y=>(jk (λH=>xGw aA j (H.a p) (H.a t) x y) λ_ _=>kW 7 rfl (qZ 3 rfl (qJ lv))))))
def bC (N:Nat) (c:A6) (d:Op):Option Int:= qD (σ:=Unit) (oM (λe (f:Rel) s=>match s with | _=>xH (kT N c.size d f) λh=>if (!h) then some (.ret ((e:Int))) else some (.go ())) c.rels 0 ()) λ_=>some ((-1))
theorem sG {i j} {d e} {f} (hN:HN B f) (c:Bo B f (Pt 2 xC) d i) (x:Bo B f (Pt 2 vX) e j):∀ r,bC N i j=some r->CG B f 78 #[d,e] (sI r):=by
 refine vW func78 [(0,d),(1,e)] hN λr=>?_;refine xI rfl (xA rfl (vA (λ_=>.st [] []) ?_ (λ_=>?_)))
 ·
  refine zH (jl (λp _=>.st [(5,xB (p:Int)),(0,d),(1,e)] []) ls (λ_ _ _ y=>?_) (λp _ _ h z=>?_))
  ·have A:=oO y;exact xV (jA 2 rfl (jN c (kZ c xC.f1 λ_ C=>aT C λ_ D=>jL D λ_=>xA rfl (zX A (xP (jf ls))))))
  refine xV (jA 2 rfl (jN c (kZ c xC.f1 λ_ E=>aT E λ_ F=>jL F λt=>xA rfl (kA (xZ h) (oJ (sJ (jQ (vY 1 rfl (jqN c (cA c xC.f0 (λ_ G=>?_)))))))))));refine kN G λI=>vY 2 rfl (jqN c (cA c xC.f1 λ_ K=>eN K λ_ L=>vY 1 rfl (gU L z λ_ M=>jB λO P=>(jqk (λH=>xAm aA I (H.a x) (H.a M) O P) (vY 1 rfl (lE (dA (xW ?_ ?_))))))))
  ·refine xN (qA 2 rfl (dB (zC (cV (eT ?_)))));exact qJ ⟨(bV (Ae h) t),lv⟩
  exact qM (jo rfl (oE (qE h t) (xA rfl (jg ls))))
 refine oQ (xX rfl ?_);exact qJ ⟨kV,lv⟩
def rK (c:A6) (d:Int):Option Int:= xH (bH c) λe=>if (!e) then some 1 else xH (dU d) λf=>if (!f) then some 2 else some 0
theorem xJb {f c} {d} {e} (hN:HN B e) (i:Bo B e (Pt 2 xC) d f) (h:xM c):∀ r,rK f c=some r->CG B e 123 #[d,xB c] (sI r):=by
 refine vW func123 [(0,d),(1,xB c)] hN λr=>?_;refine xI rfl (jo rfl (jB λj p=>(jk (λH=>mZ aA (H.a i) j p) (xA rfl (xW ?_ ?_)))))
 ·refine xN (xT rfl ?_);exact qJ ⟨zD,lv⟩
 refine qY (jo rfl (jB λt x=>(jk (λH=>rW aA h t x) (xA rfl (xW ?_ ?_)))))
 ·refine xN (xT rfl ?_);exact qJ ⟨pV,lv⟩
 refine qG (xX rfl ?_);exact qJ ⟨xU,lv⟩
def nC (c d:Int):Option Int:= if (decide (d<c)) then some c else some d
theorem xNi {c d} {e} (hN:HN B e) (f:xM c) (h:xM d):∀ r,nC c d=some r->CG B e 252 #[xB c,xB d] (sI r):=by
 refine vW func252 [(0,xB c),(1,xB d)] hN λr=>?_;refine xI rfl (oD 3 rfl (xW ?_ ?_))
 ·refine xN (pC 2 rfl ?_);exact qJ ⟨f,lv⟩
 refine qG (qZ 2 rfl ?_);exact qJ ⟨h,lv⟩
def iB (N:Nat) (e:A6) (d:Int) (R:List B7) (p:List (List B4)) (S T:List Int) (U:Int) (W:Bool) (f:Int):Option (List (List B4)):= xH (ix e.rels f) λc=>xH (qQ N (c.tuples.length:Int) d) λz=>qD (σ:=List (List B4)) (qU (λA h=>xH (zJ N (c.tuples.length:Int) d (A:Int)) λB=>qD (σ:=Int×(List Int)) (qU (λC s=>match s with | (D,E)=>qD (σ:=List Int) (qU (λF G=>xH (ix B (F:Int)) λH=>xH (ix c.tuples H) λI=>xH (ix I (C:Int)) λK=>xH (ap G ([K])) λL=>some (.go L)) d.toNat 0 []) λM=>xH (aG e.size M) λi=>xH (ap E ([i])) λO=>xH (nC D i) λt=>some (.go (t,O))) c.arity.toNat 0 (0,[])) λ(j,P)=>xH (ix h j) λx=>xH (ap x ([(B4.mk f P)])) λy=>some (.go (h.set (j).toNat y))) z.toNat 0 p) λQ=>some Q
theorem nU {ac:A6} {p:Int} {x:List B7} {ad:List (List B4)} {y z:List Int} {t:Int} {A:Bool} {h:Int} (r:(List (List B4))) (hR:iB N ac p x ad y z t A h=some r) {f:Nat} {C:Vl} {c:Vl} {ae:Vl} {d:Vl} {e:Vl} {X0:List Nat} (K:Wd) (hN:HN B K) (S0:Sep X0 B K K [bx f [C,xB p,c,ae,d,e,xB t,.bool A] 230,rw B 1 (RP 3 kU) 231 c x,rl 1 (bM 2 vG 295) 296 ae ad,rl 1 xF 2 d y,rl 1 xF 2 e z]) (X:Bo B K (Pt 2 xC) C ac) (P:xM p) (hx0_6:xM t) (a1:xM h):Calls prog 179 #[oU f,xB h] K (Gt B K X0 (.v λaf=>.st (.tuple #[]) λD=>bx f [C,xB p,c,af,d,e,xB t,.bool A] 230::rw B 1 (RP 3 kU) 231 c x::rl 1 (bM 2 vG 295) 296 af r::rl 1 xF 2 d y::rl 1 xF 2 e z::D)):=by
 unfold iB at hR
 revert r
 refine jin func179 [(0,oU f),(1,xB h)] S0 λr=>?_;refine xN (jA 2 rfl (oH e2 (jb 0 e3 (jN X (kZ X xC.f1 λ_ h1=>aT h1 λ_ h2=>jo rfl (jB λT aw=>(jI h2 aw λU E=>xK rfl (jo rfl (jN E (kZ E oR.f1 (λ_ h4=>?_)))))))))));refine aT h4 λ_ h5=>jL h5 λi1=>xK rfl (xA rfl (jB λz2 c1=>?_));refine vA (λs1=>.v λv1=>.st [(0,oU f)] [bx f [C,xB p,c,v1,d,e,xB t,.bool A] 230,rw B 1 (RP 3 kU) 231 c x,rl 1 (bM 2 vG 295) 296 v1 s1,rl 1 xF 2 d y,rl 1 xF 2 e z]) ?_ (λ_ v1=>?_)
 ·
  refine zH ?_;refine jc (λL I=>.v λi=>.st [(6,xB (L:Int)),(0,oU f),(1,xB h),(4,U),(5,xB (T.tuples.length:Int))] [bx f [C,xB p,c,i,d,e,xB t,.bool A] 230,rw B 1 (RP 3 kU) 231 c x,rl 1 (bM 2 vG 295) 296 i I,rl 1 xF 2 d y,rl 1 xF 2 e z]) ⟨_,ls⟩ (λ_ I _ Q i=>?_) (λ_ L I Q i=>?_)
  ·have l1:=vJ Q;refine xV (jA 4 rfl (oH e2 (jb 0 e3 (jk (λH=>zN aA i1 P z2 c1) λa2=>xA rfl (zX l1 (xP ?_))))));exact jf ⟨_,ls⟩
  refine xV (jA 4 rfl (oH e2 (jb 0 e3 (jk (λH=>zN aA i1 P z2 c1) λa2=>xA rfl (kA (qW Q) (oJ ?_))))));have m1:=vZ Q a2;refine qH (jA 3 rfl (oH e2 (jb 0 e3 (jo rfl (jB λZ c2=>(jk (λH=>bK aA i1 P (dL Q a2) Z c2) λM=>xK rfl (jo rfl (qC e5 (aM rfl λF=>kG e3 (qS (jo rfl ?_)))))))))));refine cY (xA rfl ?_);refine vA (λ(s3,s4)=>.v λv4=>.fa (xM s3) <| .st [(0,oU f),(1,xB h),(4,U),(5,xB (T.tuples.length:Int)),(6,xB (L:Int)),(8,oU F),(9,xB s3)] [rl 1 xF 2 v4 s4,bx F [xB h,v4] 295,bx f [C,xB p,c,i,d,e,xB t,.bool A] 230,rw B 1 (RP 3 kU) 231 c x,rl 1 (bM 2 vG 295) 296 i I,rl 1 xF 2 d y,rl 1 xF 2 e z]) ?_ (λ(s3,s4) _ _=>?_)
  ·
   refine zH (jh (λH=>H.nl 1 xF 2) ?_);refine jc (λk2 (O,W)=>.v λG=>.fa (xM O) <| .st [(10,xB (k2:Int)),(0,oU f),(1,xB h),(4,U),(5,xB (T.tuples.length:Int)),(6,xB (L:Int)),(7,M),(8,oU F),(9,xB O)] [rl 1 xF 2 G W,bx F [xB h,G] 295,rl 1 xF 2 M Z,bx f [C,xB p,c,i,d,e,xB t,.bool A] 230,rw B 1 (RP 3 kU) 231 c x,rl 1 (bM 2 vG 295) 296 i I,rl 1 xF 2 d y,rl 1 xF 2 e z]) ⟨_,xU,ls⟩ (λ_ (O,W) _ R G i2=>?_) (λ_ k2 (O,W) R G i2=>?_)
   ·have l2:=vJ R;refine xV (jA 2 rfl (jN E (kZ E oR.f0 λ_ h6=>aJ h6 λ_=>xA rfl (zX l2 (xP (js [0,1,3,4,5,6,7] rfl ?_))))));exact jf ⟨_,i2,ls⟩
   refine xV (jA 2 rfl (jN E (kZ E oR.f0 λ_ h7=>aJ h7 λi3=>xA rfl (kA (qW R) (oJ ?_)))));have j1:=dL R i3;refine qH (jR0 xF λv6=>xI rfl (xA rfl ?_));refine vA (λs7=>.v λv7=>.st [(0,oU f),(1,xB h),(4,U),(5,xB (T.tuples.length:Int)),(6,xB (L:Int)),(7,M),(8,oU F),(9,xB O),(10,xB (k2:Int)),(11,v7)] [rl 1 xF 2 v7 s7,rl 1 xF 2 G W,bx F [xB h,G] 295,rl 1 xF 2 M Z,bx f [C,xB p,c,i,d,e,xB t,.bool A] 230,rw B 1 (RP 3 kU) 231 c x,rl 1 (bM 2 vG 295) 296 i I,rl 1 xF 2 d y,rl 1 xF 2 e z]) ?_ (λ_ _=>?_)
   ·
    refine zH ?_;refine jc (λk3 s8=>.v λv8=>.st [(12,xB (k3:Int)),(0,oU f),(1,xB h),(4,U),(5,xB (T.tuples.length:Int)),(6,xB (L:Int)),(7,M),(8,oU F),(9,xB O),(10,xB (k2:Int)),(11,v8)] [rl 1 xF 2 v8 s8,rl 1 xF 2 G W,bx F [xB h,G] 295,rl 1 xF 2 M Z,bx f [C,xB p,c,i,d,e,xB t,.bool A] 230,rw B 1 (RP 3 kU) 231 c x,rl 1 (bM 2 vG 295) 296 i I,rl 1 xF 2 d y,rl 1 xF 2 e z]) ⟨_,ls⟩ (λ_ s8 _ S v8=>?_) (λ_ k3 _ S _=>?_)
    ·have l3:=vJ S;refine xV (jA 3 rfl (oH e2 (jb 4 e3 (xA rfl (zX l3 (xP ?_))))));exact jf ⟨_,ls⟩
    refine xV (jA 3 rfl (oH e2 (jb 4 e3 (xA rfl (kA (qW S) (oJ ?_))))));have j2:=dL S P;refine zH (jB λz4 c3=>(jB λz5 c4=>(jB λz6 c5=>(jB λz7 c6=>(js [3,0,1,2,4,5,6,7,8] rfl (cM λ_ _ _ a3 g1 _ Y _=>(jD (zG [0,1] rfl (jvN 2 rfl E (gR 3 rfl E oR.f1 λ_ h8=>rB (s:=λH w l=>(a3.trans (Sm.mono (H.v w l) Y.2.2))) 4 rfl h8 λ_ h9=>zG [5,6] rfl (nM 7 rfl g1.ld c3 λ_ ax=>aY 8 rfl ax (λ_=>?_))))))))))));refine nM 9 rfl h9 c4 λ_ ay=>rB (s:=λH w l=>(a3.trans (Sm.mono (H.v w l) Y.2.2))) 10 rfl ay λ_ az=>zG [11] rfl (nM 12 rfl az c5 λ_ b0=>aY (s:=λH w l=>(a3.trans (Sm.mono (H.v w l) Y.2.2))) 13 rfl b0 λi4=>jE 14 rfl (iX (λH=>Eo.int i4) λ_=>qT (jE 15 rfl (js [1,0,2,3,4,5,6,7,8] rfl (jPL c6 λv9=>qT (zG [16] rfl (gV (aK ?_))))))));refine jo rfl (oE (vZ S P) (xA rfl (kY Y (js [1,2,3,0,4,5,6,7,8] rfl ?_))));exact jg ⟨_,ls⟩
   refine oQ (jA 2 rfl (oH e2 (jb 4 e3 (jN X (kZ X xC.f0 λ_ b1=>aJ b1 λi5=>jo rfl (jB λz8 c7=>(jk (λH=>jM aA i5 (H.l 0 rfl) z8 c7) λag=>xK rfl (oH e2 (jb 2 e3 (jo rfl ?_))))))))));refine iX (λH=>Eo.int ag) λ_=>jB λz9 c8=>(js [2,0,1,3,4,5,6,7,8,9] rfl (jPL c8 λv10=>oH e2 (js [2,0,1,3,4,5,6,7,8] rfl (jW (hv:=(λH=>(H.l 1 rfl).one)) e3 (eR (jA 2 rfl (jB λb2 c9=>(jk (λH=>xNi aA i2 ag b2 c9) λb3=>zL 1 rfl (jo rfl (oE (vZ R i3) ?_))))))))));refine xA rfl (js [1,0,3,4,5,6,7,8] rfl ?_);exact jg ⟨_,b3,ls⟩
  refine dA (jB λz11 j=>(jB λca a4=>(js [1,2,0,3,4,5,6] rfl (jh (λH=>H.mg) (cM λ_ _ _ _ g2 _ a5 _=>?_)))));have K1:=g2.r.bk;refine jD (zG [0,1] rfl (kJ 2 rfl e2 (gH 3 rfl K1 e2 (zG [4,5,6] rfl (kJ 7 rfl e2 (gH 8 rfl K1 e2 (zG [9] rfl (rQ 12 rfl g2.l.bk e2 (dV (λH=>H) 10 13 rfl rfl ?_ ?_)))))))))
  ·
   refine jRl 2 j λ_ ah=>qT (dV (λH=>H) 11 13 rfl rfl ?_ ?_)
   ·refine js [2,0,1,3,4] rfl (xWi ah (bD j) λ_=>qT (jE 13 rfl (js [2,0,1,3,4,5] rfl (jh (λH=>vG.w a1 H) (tD (λH=>El.agg) λ_=>qT (jE 14 rfl (js [1,0,2,3,4,5] rfl (jPL a4 λ_=>qT (jE 15 rfl (jRl 1 (ixh j) λ_ b4=>qT ?_))))))))));refine jE 16 rfl (js [1,0,2,3,4] rfl (xXy b4 (cI (ixh j)) rfl (qT (gV (aK (jo rfl (oE m1 (xA rfl (kY a5 (jh (λH=>H.um) (js [1,3,2,4,5] rfl ?_)))))))))));exact jg ⟨_,ls⟩
   refine jh (λH=>vG.w a1 H) (tD (λH=>El.agg) λ_=>qT (jE 11 rfl (js [2,0,1,3,4] rfl (xWi ah (bD j) λ_=>qT (jE 14 rfl (js [0,2,1,3,4,5] rfl (jPL a4 λ_=>qT (jE 15 rfl (jRl 1 (ixh j) λ_ b5=>qT (jE 16 rfl ?_))))))))));refine js [1,0,2,3,4] rfl (xXy b5 (cI (ixh j)) rfl (qT (gV (aK (jo rfl (oE m1 (xA rfl (kY a5 (jh (λH=>H.um) (js [1,3,2,4,5] rfl ?_))))))))));exact jg ⟨_,ls⟩
  refine jh (λH=>vG.w a1 H) (tD (λH=>El.agg) λ_=>qT (jE 10 rfl (jRl 2 j λ_ b6=>qT (jE 11 rfl (js [2,0,1,3,4] rfl (xWi b6 (bD j) λ_=>qT (jE 14 rfl (js [0,2,1,3,4,5] rfl (jPL a4 λ_=>qT (jE 15 rfl ?_))))))))));refine jRl 1 (ixh j) λ_ b7=>qT (jE 16 rfl (js [1,0,2,3,4] rfl (xXy b7 (cI (ixh j)) rfl (qT (gV (aK (jo rfl (oE m1 (xA rfl (kY a5 (jh (λH=>H.um) (js [1,3,2,4,5] rfl ?_))))))))))));exact jg ⟨_,ls⟩
 refine a_z ?_;exact j0 ⟨_,lv⟩
end
section
open Go.Proofs.Tryz
set_option maxHeartbeats 1000000
set_option maxRecDepth 100000
open Go.RowKit
variable {B:Nat->Prop} {N:Nat}
def iJ (N:Nat) (c:A6) (d:Int):Option ((A6×Int×(List B7)×(List (List B4))×(List Int)×(List Int)×Int×Bool)×Int):= qD (σ:=Int) (oM (λO (B:Rel) C=>xH (qQ N (B.tuples.length:Int) d) λD=>xH (ck (C+D)) λE=>some (.go E)) c.rels 0 0) λF=>if (decide (4000<F)) then some ((default,0,[],[],[],[],0,false),3) else xH (qQ N c.size d) λf=>xH (nJ ([]:(List B4)) f) λG=>xH (nJ (0:Int) f) λi=>qD (σ:=(List Int)×(List Int)) (qU (λe s=>match s with | (j,p)=>xH (ix j (e:Int)) λP=>xH (ix p (e:Int)) λQ=>some (.go ((j.set ((e:Int)).toNat (-1)),(p.set ((e:Int)).toNat (-1))))) f.toNat 0 (i,i)) λ(t,x)=>qD (σ:=(List B7)×(List (List B4))) (oM (λH (I:Rel) s=>match s with | (K,L)=>xH (dT N c.size I) λh=>xH (ap K ([(B7.mk h.1 h.2.1 h.2.2)])) λy=>xH (iB N c d y L t x 0 false (H:Int)) λz=>some (.go (y,z))) c.rels 0 ([],G)) λ(M,A)=>some ((c,d,M,A,t,x,0,false),0)
theorem xAn {x0 j} {e} {O} (hN:HN B O) (d:Bo B O (Pt 2 xC) e x0) (E:xM j):∀ r,iJ N x0 j=some r->CG B O 124 #[e,xB j] (bif r.2 != 0 then (.fa (xM r.2) <| .st (.tuple #[.pointer none,xB r.2]) λD=>D) else (.n λai=>.v λaj=>.v λak=>.v λal=>.v λam=>.v λan=>.fa (Bo B O (Pt 2 xC) aj r.1.1) <| .fa (xM r.1.2.1) <| .fa (xM r.1.2.2.2.2.2.2.1) <| .fa (xM r.2) <| .st (.tuple #[oU ai,xB r.2]) λD=>bx ai [aj,xB r.1.2.1,ak,al,am,an,xB r.1.2.2.2.2.2.2.1,.bool r.1.2.2.2.2.2.2.2] 230::rw B 1 (RP 3 kU) 231 ak r.1.2.2.1::rl 1 (zV 2 vG) 296 al r.1.2.2.2.1::rl 1 xF 2 am r.1.2.2.2.2.1::rl 1 xF 2 an r.1.2.2.2.2.2.1::D)):=by
 refine vW func124 [(0,e),(1,xB j)] hN λr=>?_;refine kW 2 rfl (xI rfl (xA rfl (vA (λs1=>.fa (xM s1) <| .st [(0,e),(1,xB j),(6,xB s1)] []) ?_ (λ_ _=>?_))))
 ·
  refine zH ?_;refine jl (λk1 s2=>.fa (xM s2) <| .st [(7,xB (k1:Int)),(0,e),(1,xB j),(6,xB s2)] []) ⟨xU,ls⟩ (λ_ s2 _ q1 i1=>?_) (λk1 _ _ W y1 _=>?_)
  ·have l1:=oO q1;refine xV (jA 2 rfl (jN d (kZ d xC.f1 λ_ h1=>aT h1 λ_ h2=>jL h2 λ_=>xA rfl (zX l1 (xP ?_)))));exact jf ⟨i1,ls⟩
  refine xV (jA 2 rfl (jN d (kZ d xC.f1 λ_ h3=>aT h3 λ_ h4=>jL h4 λi2=>xA rfl (kA (xZ W) (oJ ?_)))));have j1:=bV (Ae W) i2;refine yP (jA 2 rfl (jN d (kZ d xC.f1 λ_ h5=>aT h5 λ_ h6=>jo rfl (jI h6 y1 λ_ bg=>kZ bg oR.f1 λ_ h7=>aT h7 λ_ h8=>jL h8 λi3=>jo rfl (jB λz1 c1=>(jk (λH=>zN aA i3 E z1 c1) λda=>jB λz2 c2=>(kE c2 ?_)))))));refine zL 1 rfl (jo rfl (oE (qE W i2) (xA rfl ?_)));exact jg ⟨(zI c2),ls⟩
 refine bX (oD 2 rfl (xW ?_ ?_))
 ·refine xN (pC 2 rfl (js [] rfl ?_));exact j2 (rt rfl) (rt rfl) ⟨iV,lv⟩
 refine qG (jo rfl (jN d (kZ d xC.f0 λ_ h9=>aJ h9 λi4=>jo rfl (jB λi c3=>(jk (λH=>zN aA i4 E i c3) λp=>xR rfl (jB λL P=>(jB λI x=>(jD (jdp (f:=3) (ls:=(bi 11 255)) (.v λz=>.v λv2=>.v λv3=>.fa (xM i) <| .st [(0,e),(8,xB i),(42,e),(43,xB j),(45,z),(47,v2),(49,v3)] [rl 1 (bM 2 vG 295) 296 z L,rl 1 xF 2 v2 I,rl 1 xF 2 v3 I]) (λz v2 v3 i5=>?_) (λH1=>?_))))))))))
 ·
  refine jE 8 rfl ?_;refine qC (hone:=(λH=>oc (H.a d).pone (oc rfl (oc (H.l 0 rfl).one (oc (H.l 1 rfl).one (oc (H.l 2 rfl).one on)))))) e5 (qT (jE 9 rfl (jX e2 λy=>qT (zG [10] rfl (gV (bX (xA rfl ?_)))))));refine vA (λ(Q,S)=>.v λA=>.v λC=>.st [(0,e),(9,oU y)] [bx y [e,xB j,aB,z,A,C,xB 0,.bool false] 230,rl 1 (bM 2 vG 295) 296 z L,rl 1 xF 2 A Q,rl 1 xF 2 C S]) ?_ (λ(Q,S) A C=>?_)
  ·
   refine zH ?_;refine jc (λk2 (s5,s6)=>.v λT=>.v λU=>.st [(10,xB (k2:Int)),(0,e),(8,xB i),(9,oU y)] [bx y [e,xB j,aB,z,T,U,xB 0,.bool false] 230,rl 1 (bM 2 vG 295) 296 z L,rl 1 xF 2 T s5,rl 1 xF 2 U s6]) ⟨_,_,ls⟩ (λ_ (s5,s6) _ K T U=>?_) (λ_ k2 (s5,s6) K T U=>?_)
   ·have l2:=vJ K;refine xV (oD 3 rfl (zX l2 (xP ?_)));exact jf ⟨_,_,ls⟩
   refine xV (oD 3 rfl (kA (qW K) (oJ ?_)));have j3:=dL K i5;refine qH (jA 2 rfl (oH e2 (jb 0 e3 (jo rfl (jB λz6 c6=>(jRl 2 c6 λ_ bh=>js [2,0,1,3] rfl (jh (λH=>H.lw) (jS bh (cI c6) (λH=>Eo.int kV) rfl (jh (λH=>H.tl) (eR (jA 2 rfl (oH e2 (jb 1 e3 ?_)))))))))))));refine jo rfl (jB λz7 c7=>(jRl 3 c7 λ_ bj=>js [3,0,1,2] rfl (jh (λH=>H.lw) (jS bj (cI c7) (λH=>Eo.int kV) rfl (jh (λH=>H.tl) (dI (jo rfl (oE (vZ K i5) (xA rfl (js [2,3,1,0] rfl ?_))))))))));exact jg ⟨_,_,ls⟩
  refine bX (xA rfl ?_);refine vA (λ(s7,s8)=>.v λv8=>.v λv9=>.st [(9,oU y)] [rw B 1 (RP 3 kU) 231 v8 s7,bx y [e,xB j,v8,v9,A,C,xB 0,.bool false] 230,rl 1 (bM 2 vG 295) 296 v9 s8,rl 1 xF 2 A Q,rl 1 xF 2 C S]) ?_ (λ(s7,s8) v8 v9=>?_)
  ·
   refine zH (jh (λH=>H.nl 1 (RP 3 kU) 231) (jh (λH=>H.lw) (jh (λH=>H.wk) ?_)));refine jl (λk3 (s9,X)=>.v λY=>.v λM=>.st [(11,xB (k3:Int)),(0,e),(9,oU y)] [rw B 1 (RP 3 kU) 231 Y s9,bx y [e,xB j,Y,M,A,C,xB 0,.bool false] 230,rl 1 (bM 2 vG 295) 296 M X,rl 1 xF 2 A Q,rl 1 xF 2 C S]) ⟨_,_,ls⟩ (λ_ (s9,X) _ q2 Y M=>?_) (λk3 _ (s9,X) Z y2 _ M=>?_)
   ·have l3:=oO q2;refine xV (jA 2 rfl (jN d (kZ d xC.f1 λ_ bm=>aT bm λ_ bn=>jL bn λ_=>xA rfl (zX l3 (xP ?_)))));exact jf ⟨_,_,ls⟩
   refine xV (jA 2 rfl (jN d (kZ d xC.f1 λ_ bp=>aT bp λ_ br=>jL br λi6=>xA rfl (kA (xZ Z) (oJ ?_)))));have j4:=bV (Ae Z) i6;have m1:=qE Z i6;refine sJ (jB λz8 c8=>(jB λz9 c9=>(jD (zG [0,1,2] rfl (kJ 3 rfl e2 (zG [5] rfl (jvN 6 rfl d (gR 7 rfl d xC.f0 λ_ bs=>aY 8 rfl bs λi7=>zG [9] rfl (jvN 10 rfl d (gR 11 rfl d xC.f1 λ_ bt=>rB 12 rfl bt λ_ bu=>zG [13] rfl ?_))))))))));refine nM 14 rfl bu y2 λ_ ao=>dV (λH=>H) 4 15 rfl rfl ?_ ?_
   ·refine jb 1 e3 (qT (jE 15 rfl (jk (λH=>rX aA i7 (H.a ao) z8 c8) λ_ _ i8 i9=>qT (jE 16 rfl (jh (λH=>H.mg) (cM λw1 X1 N2 _ g1 e1 bv F=>(jR1 (N1:=N2) n1 (λH=>Eo.ptr (H.u (kU.b g1.l.bk i8 i9 g1.r.ld))) (λ_=>?_))))))));refine xHq (λH=>F Ab.rw H (Ns.all ⟨n1,⟨n0,⟨n0,⟨n0,⟨n0,trivial⟩⟩⟩⟩⟩)) ?_;refine jEt (λH=>F Ab.rw H (Ns.all ⟨n1,⟨n0,⟨n0,⟨n0,⟨n0,trivial⟩⟩⟩⟩⟩)) 17 rfl (js [1,0,2,3,4,5] rfl (jh (λH=>H.up (λc h=>(bv.2.2 c h))) (jP c9 (λdb=>?_))));refine xHq (λH=>F Ab.rw H (Ns.all ⟨n0,⟨n0,⟨n0,⟨n0,trivial⟩⟩⟩⟩)) (zG [18] rfl (kJ 19 rfl e2 ?_));refine jEt (λH=>F Ab.rw H (Ns.all ⟨n0,⟨n0,⟨n0,⟨n0,trivial⟩⟩⟩⟩)) 20 rfl (js [1,0,2,3,4] rfl (jW (hv:=(λH=>(H.r 1 rfl).one)) e3 ?_));refine xHq (λH=>F Ab.rw (H.s [1,0,2,3,4] rfl rfl) (Ns.all ⟨n0,⟨n0,⟨n0,⟨n0,trivial⟩⟩⟩⟩)) (gV (xNl (jA 2 rfl (jB λbw c0=>(jko 5 (λK1 H=>nU bw c0 _ H.hN K1 (H.u (e1 d)) E xU j4) λdc=>dI (jo rfl (oE m1 (xA rfl (js [1,0,2,3,4] rfl ?_)))))))));refine jh (λH=>F Ab.rw H (Ns.all ⟨n0,⟨n0,⟨n0,⟨n0,trivial⟩⟩⟩⟩)) ?_;exact jg ⟨_,_,ls⟩
   refine jk (λH=>rX aA i7 (H.a ao) z8 c8) λ_ _ aq ar=>qT (dV (λH=>H) 4 16 rfl rfl ?_ ?_)
   ·refine jb 3 e3 (qT (jE 16 rfl (jh (λH=>H.mg) (cM λw2 X2 N3 _ g2 e4 th2 G=>(jR1 (N1:=N3) n1 (λH=>Eo.ptr (H.u (kU.b g2.l.bk aq ar g2.r.ld))) (λ_=>?_))))));refine xHq (λH=>G Ab.rw H (Ns.all ⟨n1,⟨n0,⟨n0,⟨n0,⟨n0,trivial⟩⟩⟩⟩⟩)) ?_;refine jEt (λH=>G Ab.rw H (Ns.all ⟨n1,⟨n0,⟨n0,⟨n0,⟨n0,trivial⟩⟩⟩⟩⟩)) 17 rfl (js [1,0,2,3,4,5] rfl (jh (λH=>H.up (λc h=>(th2.2.2 c h))) (jP c9 (λdd=>?_))));refine xHq (λH=>G Ab.rw H (Ns.all ⟨n0,⟨n0,⟨n0,⟨n0,trivial⟩⟩⟩⟩)) (zG [18] rfl (kJ 19 rfl e2 ?_));refine jEt (λH=>G Ab.rw H (Ns.all ⟨n0,⟨n0,⟨n0,⟨n0,trivial⟩⟩⟩⟩)) 20 rfl (js [1,0,2,3,4] rfl (jW (hv:=(λH=>(H.r 1 rfl).one)) e3 ?_));refine xHq (λH=>G Ab.rw (H.s [1,0,2,3,4] rfl rfl) (Ns.all ⟨n0,⟨n0,⟨n0,⟨n0,trivial⟩⟩⟩⟩)) (gV (xNl (jA 2 rfl (jB λz11 c11=>(jko 5 (λK2 H=>nU z11 c11 _ H.hN K2 (H.u (e4 d)) E xU j4) λde=>dI (jo rfl (oE m1 (xA rfl (js [1,0,2,3,4] rfl ?_)))))))));refine jh (λH=>G Ab.rw H (Ns.all ⟨n0,⟨n0,⟨n0,⟨n0,trivial⟩⟩⟩⟩)) ?_;exact jg ⟨_,_,ls⟩
   refine jh (λH=>H.mg) (cM λw3 X3 N4 _ g3 e6 c4 t=>(jR1 (N1:=N4) n1 (λH=>Eo.ptr (H.u (kU.b g3.l.bk aq ar g3.r.ld))) (λ_=>?_)));refine xHq (λH=>t Ab.rw H (Ns.all ⟨n1,⟨n0,⟨n0,⟨n0,⟨n0,trivial⟩⟩⟩⟩⟩)) ?_;refine jEt (λH=>t Ab.rw H (Ns.all ⟨n1,⟨n0,⟨n0,⟨n0,⟨n0,trivial⟩⟩⟩⟩⟩)) 4 rfl (jb 2 e3 ?_);refine xHq (λH=>t Ab.rw H (Ns.all ⟨n1,⟨n0,⟨n0,⟨n0,⟨n0,trivial⟩⟩⟩⟩⟩)) ?_;refine jEt (λH=>t Ab.rw H (Ns.all ⟨n1,⟨n0,⟨n0,⟨n0,⟨n0,trivial⟩⟩⟩⟩⟩)) 17 rfl (js [1,0,2,3,4,5] rfl (jh (λH=>H.up (λc h=>(c4.2.2 c h))) (jP c9 (λdf=>?_))));refine xHq (λH=>t Ab.rw H (Ns.all ⟨n0,⟨n0,⟨n0,⟨n0,trivial⟩⟩⟩⟩)) (zG [18] rfl (kJ 19 rfl e2 ?_));refine jEt (λH=>t Ab.rw H (Ns.all ⟨n0,⟨n0,⟨n0,⟨n0,trivial⟩⟩⟩⟩)) 20 rfl (js [1,0,2,3,4] rfl (jW (hv:=(λH=>(H.r 1 rfl).one)) e3 ?_));refine xHq (λH=>t Ab.rw (H.s [1,0,2,3,4] rfl rfl) (Ns.all ⟨n0,⟨n0,⟨n0,⟨n0,trivial⟩⟩⟩⟩)) (gV (xNl (jA 2 rfl (jB λc5 c12=>(jko 5 (λK3 H=>nU c5 c12 _ H.hN K3 (H.u (e6 d)) E xU j4) λdg=>dI (jo rfl (oE m1 (xA rfl (js [1,0,2,3,4] rfl ?_)))))))));refine jh (λH=>t Ab.rw H (Ns.all ⟨n0,⟨n0,⟨n0,⟨n0,trivial⟩⟩⟩⟩)) ?_;exact jg ⟨_,_,ls⟩
  refine oQ (qZ 3 rfl (js [2,0,1,3,4] rfl (jh (λH=>Sep.rr H) (js [2,1,0,3,4] rfl ?_))));exact j2 (rt rfl) (rt rfl) ⟨_,_,_,_,_,_,d,E,xU,xU,lv⟩
 refine jdp (f:=4) (ls:=(bi 11 247)) (.v λa0=>.v λa1=>.fa (xM i) <| .fa (xM i) <| .st [(0,e),(8,xB i),(42,e),(43,xB j),(44,xB i),(47,a0),(49,a1)] [rl 1 xF 2 a0 I,rl 1 xF 2 a1 I]) (λa0 a1 i12 _=>?_) (λH2=>?_)
 ·refine jE 3 rfl (jRM (R:=(bM 2 vG 295)) (λw=>bM.nil w) P λdh=>qT ?_);exact H1 ⟨_,_,_,i12,ls⟩
 refine jdp (f:=4) (ls:=(bi 11 127)) (.v λa2=>.v λa3=>.fa (xM i) <| .fa (xM i) <| .st [(0,e),(8,xB i),(42,e),(43,xB j),(45,a2),(47,a3),(48,xB i)] [rl 1 (bM 2 vG 295) 296 a2 L,rl 1 xF 2 a3 I]) (λa2 a3 i13 _=>?_) (λH3=>?_)
 ·refine jE 7 rfl ?_;refine jRM (R:=xF) (λw=>⟨rfl,kS,rfl⟩) x λdi=>qT (js [1,2,0] rfl ?_);exact H1 ⟨_,_,_,i13,ls⟩
 refine jdp (f:=4) (ls:=(bi 11 223)) (.v λa4=>.v λa5=>.fa (xM i) <| .fa (xM i) <| .st [(0,e),(8,xB i),(42,e),(43,xB j),(45,a4),(46,xB i),(49,a5)] [rl 1 (bM 2 vG 295) 296 a4 L,rl 1 xF 2 a5 I]) (λa4 a5 i14 _=>?_) (λH4=>?_)
 ·refine jE 5 rfl ?_;refine jRM (R:=xF) (λw=>⟨rfl,kS,rfl⟩) x λdj=>qT (js [1,0,2] rfl ?_);exact H1 ⟨_,_,_,i14,ls⟩
 refine zG [0,1,2,4,6] rfl (xKp (λH=>H) 3 5 7 rfl rfl rfl ?_ ?_ ?_)
 ·
  refine jRM (R:=(bM 2 vG 295)) (λw=>bM.nil w) P λdk=>qT (dV (λH=>H) 5 7 rfl rfl ?_ ?_)
  ·refine jRM (R:=xF) (λw=>⟨rfl,kS,rfl⟩) x λdm=>qT (js [1,0] rfl ?_);exact H3 ⟨_,_,p,p,ls⟩
  refine jRM (R:=xF) (λw=>⟨rfl,kS,rfl⟩) x λdp=>qT (js [1,0] rfl ?_);exact H4 ⟨_,_,p,p,ls⟩
 ·
  refine jRM (R:=xF) (λw=>⟨rfl,kS,rfl⟩) x λdq=>qT (dV (λH=>H) 3 7 rfl rfl ?_ ?_)
  ·refine jRM (R:=(bM 2 vG 295)) (λw=>bM.nil w) P λdr=>qT ?_;exact H3 ⟨_,_,p,p,ls⟩
  refine jRM (R:=xF) (λw=>⟨rfl,kS,rfl⟩) x λds=>qT (js [1,0] rfl ?_);exact H2 ⟨_,_,p,p,ls⟩
 refine jRM (R:=xF) (λw=>⟨rfl,kS,rfl⟩) x λdu=>qT (dV (λH=>H) 3 5 rfl rfl ?_ ?_)
 ·refine jRM (R:=(bM 2 vG 295)) (λw=>bM.nil w) P λdw=>qT ?_;exact H4 ⟨_,_,p,p,ls⟩
 refine jRM (R:=xF) (λw=>⟨rfl,kS,rfl⟩) x λdx=>qT ?_;exact H2 ⟨_,_,p,p,ls⟩
def cW (h:A6) (t:Int) (x:List B7) (y:List (List B4)) (i d:List Int) (z:Int) (A:Bool) (c:Int):Option Int:= xH (ix i c) λe=>if (decide (0<=e)) then xH (ix d c) λj=>if (decide (j<0)) then some e else some ((-1)) else xH (ix d c) λp=>xH (ck (p+1)) λf=>if (decide (f<h.size)) then some f else some ((-1))
theorem xDb {K:A6} {d:Int} {L:List B7} {M:List (List B4)} {N j:List Int} {e:Int} {p:Bool} {i:Int} (r:Int) (U:cW K d L M N j e p i=some r) {h:Nat} {t:Vl} {x:Vl} {y:Vl} {z:Vl} {f:Vl} {O:List Nat} (c:Wd) (hN:HN B c) (W:Sep O B c c [bx h [t,xB d,x,y,z,f,xB e,.bool p] 230,rl 1 xF 2 f j]) (G:Bo B c (Pt 2 xC) t K) (a7:xM d) (a8:Bo B c (Sl 1 (RP 3 kU)) x L) (a9:Bo B c (Sl 1 (zV 2 vG)) y M) (I:Bo B c (Sl 1 xF) z N) (aa:xM e) (ab:xM i):Calls prog 180 #[oU h,xB i] c (Gt B c O (.fa (xM r) <| .st (xB r) λD=>bx h [t,xB d,x,y,z,f,xB e,.bool p] 230::rl 1 xF 2 f j::D)):=by
 unfold cW at U
 revert r
 refine jin func180 [(0,oU h),(1,xB i)] W λr=>?_;refine xN (xI rfl (jA 2 rfl (oH e2 (jb 0 e3 (jo rfl (jB λz1 P=>(jI I P λ_ X=>aJ X λ_=>xA rfl (xW ?_ ?_))))))))
 ·
  refine xV (jA 2 rfl (oH e2 (jb 0 e3 (jo rfl (jB λz2 Y=>(js [1,0] rfl (cM λ_ _ _ S Z _ A _=>(jI Z.ld Y λ_ h2=>aJ h2 λ_=>xA rfl (xW ?_ ?_)))))))))
  ·refine xN (jA 2 rfl (oH e2 (jb 0 e3 (jo rfl (jI I P λ_ h3=>aJ (s:=λH=>(S.trans (Sm.mono H.sm A.2.2))) h3 λi1=>jo rfl (xJn (kY A (js [1,0] rfl ?_))))))));exact j1 (rt rfl) ⟨i1,lv⟩
  refine qG (xT rfl (kY A (js [1,0] rfl ?_)));exact j1 (rt rfl) ⟨kV,lv⟩
 refine xLr (js [1,0] rfl (cM λ_ _ _ T g2 _ C _=>?_));have Q:=g2.ld;refine jQ (vY 2 rfl (sQ e2 (jqb 0 e3 (vY 1 rfl (jB λz3 R=>(gU Q R λ_ h5=>kN h5 λ_=>jB λz4 E=>(jqv (λF H w l=>wF F rfl rfl E) (vY 2 rfl (sQ e2 (jqb 0 e3 (jqN G (cA G xC.f0 (λ_ h6=>?_)))))))))))));refine kN (s:=λH w l=>(T.trans (Sm.mono (H.q w l) C.2.2))) h6 λ_=>vY 1 rfl (lE (dA (xW ?_ ?_)))
 ·refine xN (jA 2 rfl (oH e2 (jb 0 e3 (jo rfl (jI Q R λ_ h7=>aJ h7 λ_=>kE E (xT rfl (kY C (js [1,0] rfl ?_))))))));exact j1 (rt rfl) ⟨(zI E),lv⟩
 refine qG (xX rfl (kY C (js [1,0] rfl ?_)));exact j1 (rt rfl) ⟨kV,lv⟩
def tN (c d:List Int):Option (List Int):= qD (σ:=List Int) (oM (λp (e:Int) f=>xH (ix c e) λh=>xH (ap f ([h])) λi=>some (.go i)) d 0 []) λj=>some j
theorem xFl {t x} {c d} {e} (hN:HN B e) (C:Bo B e (Sl 1 xF) c t) (h:Bo B e (Sl 1 xF) d x):∀ r,tN t x=some r->CG B e 190 #[c,d] (.v λp=>.st (p) λD=>rl 1 xF 2 p r::D):=by
 refine vW func190 [(0,c),(1,d)] hN λr=>?_;refine xK rfl (jR0 xF λP=>xI rfl (xA rfl (vA (λE=>.v λi=>.st [(5,i)] [rl 1 xF 2 i E]) ?_ (λ_ i=>?_))))
 ·
  refine zH ?_;refine jl (λy z=>.v λj=>.st [(6,xB (y:Int)),(0,c),(1,d),(5,j)] [rl 1 xF 2 j z]) ⟨_,ls⟩ (λ_ z _ F j=>?_) (λy _ _ f G _=>?_)
  ·have I:=oO F;refine xV (jA 2 rfl (jL h λ_=>xA rfl (zX I (xP ?_))));exact jf ⟨_,ls⟩
  refine xV (jA 2 rfl (jL h λA=>xA rfl (kA (xZ f) (oJ ?_))));have j2:=bV (Ae f) A;refine yP (jA 4 rfl (jI h G λ_ K=>aJ K λ_=>jB λQ L=>(jI C L λ_ M=>aJ M λN=>iX (λH=>Eo.int N) λ_=>jB λR O=>(js [1,0] rfl (jPL O λS=>zL 1 rfl (jo rfl (oE (qE f A) ?_)))))));refine xA rfl ?_;exact jg ⟨_,ls⟩
 refine oQ (qZ 2 rfl ?_);exact j1 (rt rfl) ⟨_,lv⟩
def eA (e:A6) (A:Int) (f:List B7) (h:List (List B4)) (B i:List Int) (C:Int) (D:Bool) (j:Int):Option Bool:= xH (ix h j) λc=>qD (σ:=Unit) (qU (λp s=>match s with | _=>xH (ix c (p:Int)) λd=>xH (ix f d.rel) λt=>xH (tN i d.ats) λx=>xH (aG e.size x) λy=>xH (ix t.has y) λz=>if (!z) then some (.ret false) else some (.go ())) (c.length:Int).toNat 0 ()) λ_=>some true
theorem xEq {M:A6} {h:Int} {N:List B7} {O:List (List B4)} {P p:List Int} {i:Int} {t:Bool} {E:Int} (r:Bool) (hR:eA M h N O P p i t E=some r) {e:Nat} {x:Vl} {y:Vl} {z:Vl} {A:Vl} {d:Vl} {R:List Nat} (c:Wd) (hN:HN B c) (S0:Sep R B c c [bx e [x,xB h,y,z,A,d,xB i,.bool t] 230,rl 1 xF 2 d p]) (L:Bo B c (Pt 2 xC) x M) (an:xM h) (U:Bo B c (Sl 1 (RP 3 kU)) y N) (G:Bo B c (Sl 1 (zV 2 vG)) z O) (ao:Bo B c (Sl 1 xF) A P) (aq:xM i) (ar:xM E):Calls prog 181 #[oU e,xB E] c (Gt B c R (.st (.bool r) λD=>bx e [x,xB h,y,z,A,d,xB i,.bool t] 230::rl 1 xF 2 d p::D)):=by
 unfold eA at hR
 revert r
 refine jin func181 [(0,oU e),(1,xB E)] S0 λr=>?_;refine xN (xI rfl (xA rfl (jB λz1 I=>?_)));refine vA (λ_=>.st [(0,oU e)] [bx e [x,xB h,y,z,A,d,xB i,.bool t] 230,rl 1 xF 2 d p]) ?_ (λ_=>?_)
 ·
  refine zH ?_;refine jc (λS _=>.st [(5,xB (S:Int)),(0,oU e),(1,xB E)] [bx e [x,xB h,y,z,A,d,xB i,.bool t] 230,rl 1 xF 2 d p]) ls (λ_ _ _ C=>?_) (λ_ S _ C=>?_)
  ·have l1:=vJ C;exact xV (jA 3 rfl (oH e2 (jb 0 e3 (jo rfl (jI G I λ_ h1=>aT h1 λ_ h2=>jL h2 λ_=>xA rfl (zX l1 (xP (jf ls))))))))
  refine xV (jA 3 rfl (oH e2 (jb 0 e3 (jo rfl (jI G I λ_ h3=>aT h3 λ_ h4=>jL h4 λT=>xA rfl (kA (qW C) (oJ ?_)))))));have j2:=dL C T;refine qH (jA 2 rfl (oH e2 (jb 0 e3 (jo rfl (jI G I λ_ h5=>aT h5 λ_ h6=>jo rfl (jB λz2 c2=>(jI h6 c2 λ_ F=>xR rfl (jB λz3 c3=>(jB λz4 c4=>(jB λz5 c5=>?_))))))))));refine jB λz6 c6=>(cM λ_ _ _ j g1 e1 f _=>?_);have K:=g1.bk;refine jD (zG [0,1] rfl (kJ 2 rfl e2 (gH 3 rfl K e2 (zG [4] rfl (jvN 5 rfl F (gR 6 rfl F vG.f0 λ_ h8=>aY (s:=λH w l=>(j.trans (Sm.mono (H.v w l) f.2.2))) 7 rfl h8 λ_=>nM 8 rfl U c3 λ_ h9=>jvlP (s:=λH w l=>(j.trans (Sm.mono (H.v w l) f.2.2))) 9 rfl h9 λ_ Q=>jvN 10 rfl Q (gR 11 rfl Q kU.f2 λ_ W=>rB (s:=λH w l=>(j.trans (Sm.mono (H.v w l) f.2.2))) 12 rfl W λ_ X=>zG [13,14] rfl (kJ 15 rfl e2 ?_))))))));refine gH 16 rfl K e2 (jvN 17 rfl L (gR 18 rfl L xC.f0 λ_ Y=>aY (s:=λH w l=>(j.trans (Sm.mono (H.v w l) f.2.2))) 19 rfl Y λi2=>zG [20,21] rfl (kJ 22 rfl e2 (gH 23 rfl K e2 (zG [24] rfl (jvN 25 rfl F (gR 26 rfl F vG.f1 λ_ Z=>rB (s:=λH w l=>(j.trans (Sm.mono (H.v w l) f.2.2))) 27 rfl Z λ_ a0=>jE 28 rfl (jk (λH=>xFl aA (H.l 0 rfl) (H.a (e1 a0)) z4 c4) λ_=>qT (jE 29 rfl ?_)))))))));refine jk (λH=>jM aA i2 (H.l 0 rfl) z5 c5) λau=>qT (nM 30 rfl X c6 λ_ a1=>jvlB (s:=λH w l=>(j.trans (Sm.mono (H.v w l) f.2.2))) 31 rfl a1 (zG [32] rfl (gV (dA (xW ?_ ?_)))))
  ·refine xN (qA 1 rfl (dB (zC (cV (eT (kY f (js [0,2] rfl ?_)))))));exact j1 (rt rfl) lv
  exact qM (jo rfl (oE (vZ C T) (xA rfl (js [1] rfl (kY f (jg ls))))))
 refine oQ (xX rfl ?_);exact j1 (rt rfl) lv
def dX (N:Nat) (j:A6) (p:Int) (t:List B7) (x:List (List B4)) (y i:List Int) (A:Int) (B:Bool):Option (Bool×Int×(List Int)×Int×Bool):= qD (σ:=Int) (if B then xH (ck ((i.length:Int) - 1)) λC=>some (.nx C) else some (.nx 0)) λD=>qD (σ:=Int×(List Int)×Int) (lF (λs=>match s with | (c,d,h)=>if (decide (0<=c)) then xH (cW j p t x y d h true c) λf=>if (decide (f<0)) then xH (ix d c) λI=>xH (ck (c - 1)) λE=>some (.go (E,(d.set (c).toNat (-1)),h)) else xH (ck (h+1)) λe=>if (decide (6000<e)) then some (.ret (false,7,d,e,true)) else xH (ix d c) λK=>xH (eA j p t x y (d.set (c).toNat f) e true c) λF=>if (!F) then some (.go (c,(d.set (c).toNat f),e)) else xH (ck (c+1)) λz=>if (z==(i.length:Int)) then some (.ret (true,0,(d.set (c).toNat f),e,true)) else some (.go (z,(d.set (c).toNat f),e)) else some (.brk (c,d,h))) N (D,i,A)) λ(L,G,H)=>some (false,0,G,H,true)
theorem xEt {S:A6} {e:Int} {T:List B7} {U:List (List B4)} {W t:List Int} {x:Int} {A:Bool} (r:Bool×Int×(List Int)×Int×Bool) (hR:dX N S e T U W t x A=some r) {c:Nat} {f:Vl} {h:Vl} {i:Vl} {j:Vl} {y:Vl} {Y:List Nat} (d:Wd) (hN:HN B d) (S0:Sep Y B d d [bx c [f,xB e,h,i,j,y,xB x,.bool A] 230,rl 1 xF 2 y t]) (M:Bo B d (Pt 2 xC) f S) (O:xM e) (P:Bo B d (Sl 1 (RP 3 kU)) h T) (Q:Bo B d (Sl 1 (zV 2 vG)) i U) (R:Bo B d (Sl 1 xF) j W) (a7:xM x):Calls prog 125 #[oU c] d (Gt B d Y (.v λX=>.fa (xM r.2.1) <| .fa (xM r.2.2.2.1) <| .st (.tuple #[.bool r.1,xB r.2.1]) λD=>bx c [f,xB e,h,i,j,X,xB r.2.2.2.1,.bool r.2.2.2.2] 230::rl 1 xF 2 X r.2.2.1::D)):=by
 unfold dX at hR
 revert r
 refine jin func125 [(0,oU c)] S0 λr=>?_;refine xN (kW 2 rfl (jA 2 rfl (oH e2 (jb 0 e3 (nO (λH=>H.l 1 rfl) λ_=>xK rfl (xI rfl (jA 2 rfl (oH e2 (jb 0 e3 (aI ?_))))))))));refine vA (λC=>.fa (xM C) <| .st [(0,oU c),(4,xB (t.length:Int)),(5,xB C)] [bx c [f,xB e,h,i,j,y,xB x,.bool A] 230,rl 1 xF 2 y t]) ?_ (λC i1=>?_)
 ·
  refine xW ?_ ?_
  ·refine iQ (jo rfl (jB λz1 Z=>(fR Z (xA rfl ?_))));exact jf ⟨(zI Z),ls⟩
  refine xUv ?_;exact jf ⟨xU,ls⟩
 refine oQ (jA 2 rfl (oH e2 (jW e3 (xAo ?_))));refine vA (λ(s2,s3,E)=>.v λF=>.fa (xM s2) <| .fa (xM E) <| .st [(0,oU c)] [bx c [f,xB e,h,i,j,F,xB E,.bool true] 230,rl 1 xF 2 F s3]) ?_ (λ(s2,s3,E) F _ i2=>?_)
 ·
  refine zH ?_;refine jw (λ(G,s6,I)=>.v λK=>.fa (xM G) <| .fa (xM I) <| .st [(0,oU c),(4,xB (t.length:Int)),(5,xB G)] [bx c [f,xB e,h,i,j,K,xB I,.bool true] 230,rl 1 xF 2 K s6]) ⟨_,i1,a7,ls⟩ (λ_ (G,s6,I) K z L=>?_);refine xV (oD 2 rfl (xW ?_ ?_))
  ·
   refine xCs (jA 2 rfl (jB λz2 c2=>(jko 2 (λK1 H=>xDb z2 c2 _ H.hN K1 (H.u M) O (H.u P) (H.u Q) (H.u R) L z) λi5=>xI rfl (oD 2 rfl (xW ?_ ?_)))))
   ·refine xN (jA 2 rfl (oH e2 (jb 0 e3 (jo rfl (jB λz3 c3=>(jRl 1 c3 λ_ a8=>js [1,0] rfl (jh (λH=>H.lw) (jS a8 (cI c3) (λH=>Eo.int kV) rfl (jh (λH=>H.tl) (qS (jo rfl (jB λz4 c4=>(fR c4 ?_)))))))))))));refine jo rfl (xYt (js [1,0] rfl ?_));exact jg ⟨_,(zI c4),L,ls⟩
   refine qG (jA 2 rfl (oH e2 (jb 0 e3 (jB λz5 p=>(kE p (jo rfl (oH e2 (jW e3 (cY (jA 2 rfl (oH e2 (jb 0 e3 (xA rfl ?_)))))))))))));refine xW ?_ ?_
   ·refine xN (jA 2 rfl (xMk (dB (zC (cV (eT ?_))))));exact j2 (rt rfl) (rt rfl) ⟨_,xNy,(zI p),lv⟩
   refine qG (jA 2 rfl (oH e2 (jb 0 e3 (jA 2 rfl (jB λz6 c6=>(jRl 1 c6 λ_ a9=>js [1,0] rfl (jh (λH=>H.lw) (jS a9 (cI c6) (λH=>Eo.int i5) rfl (jh (λH=>H.tl) (cY (jA 2 rfl (jB λz7 c7=>(js [1,0] rfl ?_)))))))))))));refine jko 2 (λK2 H=>xEq z7 c7 _ H.hN K2 (H.u M) O (H.u P) (H.u Q) (H.u R) (zI p) z) (xA rfl (xW ?_ ?_))
   ·refine oJx ?_;exact jg ⟨_,z,(zI p),ls⟩
   refine qG (jo rfl (jB λz8 c8=>(kE c8 (xK rfl (oD 3 rfl (xW ?_ ?_))))))
   ·refine xN (bE 2 rfl (dB (zC (cV (eT ?_)))));exact j2 (rt rfl) (rt rfl) ⟨_,xU,(zI p),lv⟩
   refine oGt ?_;exact jg ⟨_,(zI c8),(zI p),ls⟩
  refine mK (jbk (wI ?_));exact jf ⟨_,z,L,ls⟩
 refine oQ (qZ 2 rfl ?_);exact j2 (rt rfl) (rt rfl) ⟨_,xU,i2,lv⟩
def fY (f:A6) (c:Int) (h:List B7) (i:List (List B4)) (j d:List Int) (p:Int) (t:Bool):Option Op:= xH (kF d) λe=>some ((Op.mk c e))
theorem xHx {z:A6} {d:Int} {A:List B7} {C:List (List B4)} {E i:List Int} {e:Int} {j:Bool} (r:Op) (M:fY z d A C E i e j=some r) {h:Nat} {p:Vl} {t:Vl} {x:Vl} {y:Vl} {f:Vl} {G:List Nat} (c:Wd) (hN:HN B c) (N:Sep G B c c [bx h [p,xB d,t,x,y,f,xB e,.bool j] 230,rl 1 xF 2 f i]) (R:Bo B c (Pt 2 xC) p z) (K:xM d) (S:Bo B c (Sl 1 (RP 3 kU)) t A) (T:Bo B c (Sl 1 (zV 2 vG)) x C) (U:Bo B c (Sl 1 xF) y E) (W:xM e):Calls prog 126 #[oU h] c (Gt B c G (.v λF=>.fa (xM r.arity) <| .st (.agg #[xB r.arity,F]) λD=>rl 1 xF 2 F r.table::bx h [p,xB d,t,x,y,f,xB e,.bool j] 230::rl 1 xF 2 f i::D)):=by
 unfold fY at M
 revert r
 refine jin func126 [(0,oU h)] N λr=>?_;refine xN (aM rfl λ_=>xAo (jB λO P=>(js [1,0,2] rfl (cM λ_ _ _ _ Q _ L _=>?_))));have I:=Q.bk;refine jD (zG [0,1] rfl (kJ 2 rfl e2 (gH 3 rfl I e2 (zG [4,5] rfl (kJ 6 rfl e2 (gH 7 rfl I e2 (jE 8 rfl (jk (λH=>dP aA (H.l 1 rfl) O P) λX=>qT (jE 9 rfl ?_)))))))));refine qC (hone:=(λH=>oc rfl (oc (H.l 0 rfl).one on))) e5 (qT (jE 10 rfl (js [1,0,2] rfl ?_)));refine kG (hv:=(λH=>oc rfl (oc (H.l 1 rfl).one on))) e3 (qT (gV (lY (kY L ?_))));exact j1m (λH=>H.s [2,0,3] rfl rfl) (cN 1 e2) ⟨_,K,lv⟩
def uK (N:Nat) (d c e:Int):Option Op:= xH (qQ N d c) λf=>qD (σ:=List Int) (qU (λh i=>xH (zJ N d c (h:Int)) λj=>xH (ix j e) λp=>xH (ap i ([p])) λt=>some (.go t)) f.toNat 0 []) λx=>some ((Op.mk c x))
theorem xBj {f c h} {C} (hN:HN B C) (t:xM f) (i:xM c) (X:xM h):∀ r,uK N f c h=some r->CG B C 253 #[xB f,xB c,xB h] (.v λA=>.fa (xM r.arity) <| .st (.agg #[xB r.arity,A]) λD=>rl 1 xF 2 A r.table::D):=by
 refine vW func253 [(0,xB f),(1,xB c),(2,xB h)] hN λr=>?_;refine aM rfl λj=>qS (jo rfl (qC e5 (aM rfl λp=>kG e3 (cY (xA rfl (jB λE F=>?_))))));refine vA (λL=>.v λy=>.st [(6,oU j),(7,oU p)] [rl 1 xF 2 y L,bx p [xB c,y] 104,bx j [xB 0,aB] 104]) ?_ (λ_ y=>?_)
 ·
  refine zH (jh (λH=>H.nl 1 xF 2) ?_);refine jc (λG I=>.v λz=>.st [(8,xB (G:Int)),(0,xB f),(1,xB c),(2,xB h),(6,oU j),(7,oU p)] [rl 1 xF 2 z I,bx p [xB c,z] 104,bx j [xB 0,aB] 104]) ⟨_,ls⟩ (λ_ I _ e z=>?_) (λ_ G _ e _=>?_)
  ·have M:=vJ e;refine xV (jA 3 rfl (jk (λH=>zN aA t i E F) λx=>xA rfl (zX M (xP ?_))));exact jf ⟨_,ls⟩
  refine xV (jA 3 rfl (jk (λH=>zN aA t i E F) λx=>xA rfl (kA (qW e) (oJ (zH (jB λO P=>(jB λY Q=>(jB λZ R=>(js [1,0,2] rfl (cM λ_ _ _ _ S _ K _=>(jD (kJ 0 rfl e2 ?_))))))))))));refine gH 1 rfl S.bk e2 (zG [2,3,4,6] rfl (jE 5 rfl (jk (λH=>bK aA t i (dL e x) O P) λ_=>qT (jE 7 rfl (cM λ_ _ _ _ T _ d _=>(jI T.ld Q (λ_ U=>?_)))))));refine xHq (λH=>d.1 H (Ns.all ⟨n0,⟨n0,trivial⟩⟩)) ?_;refine jEt (λH=>d.1 H (Ns.all ⟨n0,⟨n0,trivial⟩⟩)) 8 rfl (aJ U (λW=>?_));refine xHq (λH=>d.1 H (Ns.all ⟨n0,⟨n0,trivial⟩⟩)) ?_;refine jEt (λH=>d.1 H (Ns.all ⟨n0,⟨n0,trivial⟩⟩)) 9 rfl (iX (λH=>Eo.int W) (λ_=>?_));refine xHq (λH=>d.1 H (Ns.all ⟨n0,⟨n0,⟨n0,trivial⟩⟩⟩)) (jF9 10 rfl (js [1,0,2] rfl (jPL R λv3=>aI (jF9 11 rfl (oH e2 (aI (jF9 12 rfl (kY d (kY K (jW (hv:=(λH=>(H.l 2 rfl).one)) e3 (aI (gV (aK ?_)))))))))))));refine jo rfl (oE (vZ e x) (xA rfl (js [2,0,3] rfl ?_)));exact jg ⟨_,ls⟩
 refine oQ (aH 1 e3 (js [2,0,1] rfl ?_));refine kG (hv:=(λH=>oc rfl (oc (H.l 1 rfl).one on))) e3 (lU ?_);exact j1m (λH=>H.s [1] rfl rfl) (cN 0 e2) ⟨_,i,lv⟩
def pI (c d:List Int):Option Bool:= if ((c.length:Int) != (d.length:Int)) then some false else qD (σ:=Unit) (oM (λe (f:Int) s=>match s with | _=>xH (ix d (e:Int)) λh=>if (f != h) then some (.ret false) else some (.go ())) c 0 ()) λ_=>some true
theorem xBm {i j} {c d} {e} (hN:HN B e) (f:Bo B e (Sl 1 xF) c i) (p:Bo B e (Sl 1 xF) d j):∀ r,pI i j=some r->CG B e 255 #[c,d] (sB r):=by
 refine vW func255 [(0,c),(1,d)] hN λr=>?_;refine xI rfl (jo rfl (jL f λ_=>jo rfl (jL p λ_=>xA rfl (xW ?_ ?_))))
 ·exact xN (xT rfl (qJ lv))
 refine qY (xA rfl (vA (λ_=>.st [] []) ?_ (λ_=>?_)))
 ·
  refine zH (jl (λt _=>.st [(5,xB (t:Int)),(0,c),(1,d)] []) ls (λ_ _ _ y=>?_) (λt _ _ h z=>?_))
  ·have A:=oO y;exact xV (jA 2 rfl (jL f λ_=>xA rfl (zX A (xP (jf ls)))))
  refine xV (jA 2 rfl (jL f λx=>xA rfl (kA (xZ h) (oJ ?_))));have j1:=bV (Ae h) x;refine sJ (jQ (vY 2 rfl (gU f z λ_ C=>kN C λ_=>vY 2 rfl (jB λF D=>(gU p D λ_ E=>kN E λ_=>vY 1 rfl (lE (dA (xW ?_ ?_))))))))
  ·exact xN (qA 1 rfl (dB (zC (cV (eT (qJ lv))))))
  exact qM (jo rfl (oE (qE h x) (xA rfl (jg ls))))
 exact oQ (xX rfl (qJ lv))
def xFm (c d:Op):Option Bool:= qD (σ:=Bool) (if (c.arity==d.arity) then xH (pI c.table d.table) λe=>some (.nx e) else some (.nx false)) λf=>some f
theorem xLl {i j} {f h} {c} (hN:HN B c) (d:Bo B c (Pt 2 vX) f i) (e:Bo B c (Pt 2 vX) h j):∀ r,xFm i j=some r->CG B c 254 #[f,h] (sB r):=by
 refine vW func254 [(0,f),(1,h)] hN λr=>?_;refine xR rfl (vA (λp=>.st [(4,.bool p)] []) ?_ (λ_=>?_))
 ·
  refine jQ (vY 1 rfl (jqN d (cA d vX.f0 λ_ t=>kN t λ_=>vY 1 rfl (jqN e (cA e vX.f0 λ_ x=>kN x λ_=>vY 2 rfl (dZ 14 (λ_=>?_) (λ_=>?_)))))))
  ·exact vY 1 rfl (jqN d (cA d vX.f1 λ_ y=>eN y λ_ z=>vY 1 rfl (jqN e (cA e vX.f1 λ_ A=>eN A λ_ C=>jB λD E=>(jqk (λH=>xBm aA (H.a z) (H.a C) D E) (vY 2 rfl (lE (dA (jf ls)))))))))
  exact vY 11 rfl (lE (dA (jf ls)))
 exact lY (qJ lv)
def yO (N:Nat) (e:Int) (c:Op) (f:Bool):Option Bool:= if f then qD (σ:=Unit) (oM (λt (h:Int) s=>match s with | _=>xH (ix c.table 0) λi=>if (h != i) then some (.ret false) else some (.go ())) c.table 0 ()) λ_=>some true else qD (σ:=Unit) (qU (λj s=>match s with | _=>xH (uK N e c.arity (j:Int)) λd=>xH (xFm c (Op.mk d.arity d.table)) λp=>if p then some (.ret true) else some (.go ())) c.arity.toNat 0 ()) λ_=>some false
theorem xCo {e p i} {f} {j} (hN:HN B j) (A:xM e) (c:Bo B j (Pt 2 vX) f p):∀ r,yO N e p i=some r->CG B j 183 #[xB e,f,.bool i] (sB r):=by
 refine vW func183 [(0,xB e),(1,f),(2,.bool i)] hN λr=>?_;refine xI rfl (xA rfl (xW ?_ ?_))
 ·
  refine xV (xA rfl (vA (λ_=>.st [] []) ?_ (λ_=>?_)))
  ·
   refine zH (jl (λt _=>.st [(7,xB (t:Int)),(1,f)] []) ls (λ_ _ _ G=>?_) (λt _ _ h I=>?_))
   ·have K:=oO G;exact xV (jA 2 rfl (jN c (kZ c vX.f1 λ_ L=>aT L λ_ M=>jL M λ_=>xA rfl (zX K (xP (jf ls))))))
   refine xV (jA 2 rfl (jN c (kZ c vX.f1 λ_ O=>aT O λ_ P=>jL P λx=>xA rfl (kA (xZ h) (oJ ?_)))));have j1:=bV (Ae h) x;refine sJ (jQ (vY 1 rfl (jqN c (cA c vX.f1 λ_ Q=>eN Q λ_ R=>vY 1 rfl (gU R I λ_ S=>kN S λ_=>vY 1 rfl (jqN c (cA c vX.f1 λ_ C=>eN C λ_ T=>jB λz1 U=>(gU T U (λ_ W=>?_)))))))));refine kN W λ_=>vY 1 rfl (lE (dA (xW ?_ ?_)))
   ·exact xN (qA 1 rfl (dB (zC (cV (a_RR (qJ lv))))))
   exact qM (jo rfl (oE (qE h x) (xA rfl (jg ls))))
  exact oQ (xT rfl (qJ lv))
 refine qY (xA rfl (vA (λ_=>.st [] []) ?_ (λ_=>?_)))
 ·
  refine zH (jc (λy _=>.st [(8,xB (y:Int)),(0,xB e),(1,f)] []) ls (λ_ _ _ d=>?_) (λ_ y _ d=>?_))
  ·have X:=vJ d;exact xV (jA 2 rfl (jN c (kZ c vX.f0 λ_ D=>aJ D λ_=>xA rfl (zX X (xP (jf ls))))))
  refine xV (jA 2 rfl (jN c (kZ c vX.f0 λ_ E=>aJ E λz=>xA rfl (kA (qW d) (oJ (qH (jA 2 rfl (jN c (kZ c vX.f0 λ_ F=>aJ F λY=>jo rfl ?_)))))))));refine jB λZ c2=>(jk (λH=>xBj aA A Y (dL d z) Z c2) λv2 i4=>aM rfl (λ_=>?_));refine kG (hv:=(λH=>oc rfl (oc (H.l 1 rfl).one on))) e3 (qS (jo rfl (jB λz3 c3=>(jk (λH=>xLl aA (H.a c) (vX.b (H.g 0 rfl).bk i4 (H.l 1 rfl)) z3 c3) (aI (xW ?_ ?_))))))
  ·exact xN (qA 1 rfl (dB (zC (cV (eT (qJ lv))))))
  exact qM (jo rfl (oE (vZ d z) (xA rfl (js [] rfl (jg ls)))))
 exact oQ (xX rfl (qJ lv))
def cE (c:Int) (d:Op):Option Bool:= qD (σ:=Unit) (qU (λe s=>match s with | _=>qD (σ:=List Int) (qU (λp f=>xH (ap f ([(e:Int)])) λh=>some (.go h)) d.arity.toNat 0 []) λi=>xH (vE c d i) λj=>if (j != (e:Int)) then some (.ret false) else some (.go ())) c.toNat 0 ()) λ_=>some true
theorem rV {c x} {d} {p} (hN:HN B p) (j:xM c) (h:Bo B p (Pt 2 vX) d x):∀ r,cE c x=some r->CG B p 184 #[xB c,d] (sB r):=by
 refine vW func184 [(0,xB c),(1,d)] hN λr=>?_;refine xI rfl (xA rfl (vA (λ_=>.st [] []) ?_ (λ_=>?_)))
 ·
  refine zH (jc (λi _=>.st [(5,xB (i:Int)),(0,xB c),(1,d)] []) ls (λ_ _ _ e=>?_) (λ_ i _ e=>?_))
  ·have D:=vJ e;exact xV (oD 3 rfl (zX D (xP (jf ls))))
  refine xV (oD 3 rfl (kA (qW e) (oJ (qH (jR0 xF λO=>xI rfl (xA rfl (vA (λE=>.v λy=>.st [(0,xB c),(1,d),(5,xB (i:Int)),(6,y)] [rl 1 xF 2 y E]) ?_ (λ_ _=>?_))))))))
  ·
   refine zH ?_;refine jc (λz A=>.v λt=>.st [(7,xB (z:Int)),(0,xB c),(1,d),(5,xB (i:Int)),(6,t)] [rl 1 xF 2 t A]) ⟨_,ls⟩ (λ_ A _ f t=>?_) (λ_ z _ f _=>?_)
   ·have F:=vJ f;refine xV (jA 2 rfl (jN h (kZ h vX.f0 λ_ G=>aJ G λ_=>xA rfl (zX F (xP ?_)))));exact jf ⟨_,ls⟩
   refine xV (jA 2 rfl (jN h (kZ h vX.f0 λ_ I=>aJ I λC=>xA rfl (kA (qW f) (oJ ?_)))));have j1:=dL f C;refine yP (jA 2 rfl (iX (λH=>Eo.int (dL e j)) λ_=>jB λP K=>(js [1,0] rfl (jPL K λQ=>zL 1 rfl (jo rfl (oE (vZ f C) (xA rfl ?_)))))));exact jg ⟨_,ls⟩
  refine oQ (jA 3 rfl (jB λL M=>(jk (λH=>aD aA j (H.a h) (H.l 0 rfl) L M) λN=>oD 2 rfl (xW ?_ ?_))))
  ·exact xN (qA 1 rfl (dB (zC (cV (eT (qJ lv))))))
  exact qM (jo rfl (oE (vZ e j) (xA rfl (js [] rfl (jg ls)))))
 exact oQ (xX rfl (qJ lv))
def dR (c:List Int) (d:Int):Option Bool:= qD (σ:=Unit) (oM (λf (e:Int) s=>match s with | _=>if (e==d) then some (.ret true) else some (.go ())) c 0 ()) λ_=>some false
theorem rJ {i c} {d} {f} (hN:HN B f) (h:Bo B f (Sl 1 xF) d i) (A:xM c):∀ r,dR i c=some r->CG B f 194 #[d,xB c] (sB r):=by
 refine vW func194 [(0,d),(1,xB c)] hN λr=>?_;refine xI rfl (xA rfl (vA (λ_=>.st [] []) ?_ (λ_=>?_)))
 ·
  refine zH (jl (λj _=>.st [(5,xB (j:Int)),(0,d),(1,xB c)] []) ls (λ_ _ _ t=>?_) (λj _ _ e x=>?_))
  ·have y:=oO t;exact xV (jA 2 rfl (jL h λ_=>xA rfl (zX y (xP (jf ls)))))
  refine xV (jA 2 rfl (jL h λp=>xA rfl (kA (xZ e) (oJ ?_))));have j1:=bV (Ae e) p;refine qH (jA 2 rfl (jI h x λ_ z=>aJ z λ_=>oD 2 rfl (xW ?_ ?_)))
  ·exact xN (qA 1 rfl (dB (zC (cV (eT (qJ lv))))))
  exact qM (jo rfl (oE (qE e p) (xA rfl (jg ls))))
 exact oQ (xX rfl (qJ lv))
def rN (N:Nat) (d:Int) (c:Op):Option Bool:= qD (σ:=Unit) (oM (λe (f:Int) s=>match s with | _=>xH (zJ N d c.arity (e:Int)) λh=>xH (dR h f) λi=>if (!i) then some (.ret false) else some (.go ())) c.table 0 ()) λ_=>some true
theorem yT {d i} {e} {h} (hN:HN B h) (t:xM d) (c:Bo B h (Pt 2 vX) e i):∀ r,rN N d i=some r->CG B h 185 #[xB d,e] (sB r):=by
 refine vW func185 [(0,xB d),(1,e)] hN λr=>?_;refine xI rfl (xA rfl (vA (λ_=>.st [] []) ?_ (λ_=>?_)))
 ·
  refine zH (jl (λj _=>.st [(5,xB (j:Int)),(0,xB d),(1,e)] []) ls (λ_ _ _ x=>?_) (λj _ _ f y=>?_))
  ·have z:=oO x;exact xV (jA 2 rfl (jN c (kZ c vX.f1 λ_ A=>aT A λ_ C=>jL C λ_=>xA rfl (zX z (xP (jf ls))))))
  refine xV (jA 2 rfl (jN c (kZ c vX.f1 λ_ D=>aT D λ_ E=>jL E λp=>xA rfl (kA (xZ f) (oJ (sJ (jB λF G=>(jB λI K=>(jD (zG [0,1] rfl ?_))))))))));refine jvN 2 rfl c (gR 3 rfl c vX.f0 λ_ L=>aY 4 rfl L λM=>zG [5,7] rfl (jvN 8 rfl c (gR 9 rfl c vX.f1 λ_ O=>rB 10 rfl O λ_ P=>zG [11] rfl (nM 12 rfl P y λ_ Q=>aY 13 rfl Q λR=>jE 6 rfl (jk (λH=>bK aA t M (bV (Ae f) p) F G) λ_=>qT (jE 14 rfl (jk (λH=>rJ aA (H.l 0 rfl) R I K) ?_)))))));refine qT (zG [15] rfl (gV (dA (xW ?_ ?_))))
  ·exact xN (qA 1 rfl (dB (zC (cV (eT (qJ lv))))))
  exact qM (jo rfl (oE (qE f p) (xA rfl (js [] rfl (jg ls)))))
 exact oQ (xX rfl (qJ lv))
def bS (N:Nat) (i:Int) (e:Op):Option Bool:= qD (σ:=Unit) (oM (λp (t:Int) s=>match s with | _=>xH (zJ N i e.arity (p:Int)) λf=>qD (σ:=Int) (lF (λc=>xH (ck (c+1)) λd=>if (decide (d<e.arity)) then xH (kF f) λh=>xH (ix f d) λj=>xH (ix h c) λz=>xH (ix f c) λx=>xH (ix (h.set (c).toNat j) d) λA=>xH (vE i e ((h.set (c).toNat j).set (d).toNat x)) λy=>if (y != t) then some (.ret (.ret false)) else some (.go d) else some (.brk c)) N 0) λB=>some (.go ())) e.table 0 ()) λ_=>some true
theorem lW {d z} {e} {p} (hN:HN B p) (x:xM d) (c:Bo B p (Pt 2 vX) e z):∀ r,bS N d z=some r->CG B p 186 #[xB d,e] (sB r):=by
 refine vW func186 [(0,xB d),(1,e)] hN λr=>?_;refine xI rfl (xA rfl (vA (λ_=>.st [] []) ?_ (λ_=>?_)))
 ·
  refine zH (jl (λi _=>.st [(5,xB (i:Int)),(0,xB d),(1,e)] []) ls (λ_ _ _ P=>?_) (λi _ _ j Q=>?_))
  ·have R:=oO P;exact xV (jA 2 rfl (jN c (kZ c vX.f1 λ_ S=>aT S λ_ T=>jL T λ_=>xA rfl (zX R (xP (jf ls))))))
  refine xV (jA 2 rfl (jN c (kZ c vX.f1 λ_ U=>aT U λ_ W=>jL W λA=>xA rfl (kA (xZ j) (oJ (qH (jA 2 rfl (jN c (kZ c vX.f0 λ_ X=>aJ X (λY=>?_))))))))));refine jo rfl (jB λC Z=>(jk (λH=>bK aA x Y (bV (Ae j) A) C Z) λD=>xK rfl (xA rfl (vA (λs1=>.fa (xM s1) <| .st [(0,xB d),(1,e),(5,xB (i:Int))] []) ?_ (λ_ _=>?_)))))
  ·
   refine zH ?_;refine jw (λt=>.fa (xM t) <| .st [(0,xB d),(1,e),(5,xB (i:Int)),(6,D),(7,xB t)] [rl 1 xF 2 D C]) ⟨xU,ls⟩ λ_ t i3=>xV (jo rfl (jB λz2 f=>(kE f (jo rfl (jN c (kZ c vX.f0 λ_ h6=>aJ h6 λ_=>xA rfl (xW ?_ ?_)))))))
   ·
    refine mB (jo rfl (jB λz3 c3=>(jk (λH=>dP aA (H.l 0 rfl) z3 c3) λ_=>xK rfl (jA 4 rfl (kE f (jB λz4 c4=>(js [1,0] rfl (cM λ_ _ _ y g1 e1 h _=>?_))))))));have E:=g1.ld;refine jI E c4 λ_ h8=>aJ h8 λi4=>jB λz5 F=>(jRl 0 F λ_ I=>jh (λH=>H.lw) (jS I (cI F) (λH=>Eo.int i4) rfl (jh (λH=>H.tl) (qS (jA 2 rfl (kE f (jA 2 rfl (jB λz6 c6=>(jI E c6 λ_ h9=>aJ h9 λi5=>jB λz7 G=>?_)))))))));refine jRl 0 G λ_ K=>jh (λH=>H.lw) (jS K (cI G) (λH=>Eo.int i5) rfl (jh (λH=>H.tl) (xAo (jQ (vY 3 rfl (jB λz8 c8=>(xSk (λH=>aD aA x (H.a (e1 c)) (H.l 0 rfl) z8 c8) λ_=>vY 1 rfl (jqN c (cA c vX.f1 λ_ L=>eN (s:=λH w l=>(y.trans (Sm.mono (H.q w l) h.2.2))) L λ_ M=>vY 1 rfl (gU M Q (λ_ O=>?_)))))))))));refine kN (s:=λH w l=>(y.trans (Sm.mono (H.q w l) h.2.2))) O λ_=>vY 1 rfl (lE (dA (xW ?_ ?_)))
    ·exact xN (qA 1 rfl (dB (zC (cV (xFw (dB (zC (cV (eT (kY h (qJ lv)))))))))))
    refine qM (jo rfl (kE f (xA rfl (js [] rfl (kY h ?_)))));exact jg ⟨(zI f),ls⟩
   refine mK (jbk (wI (js [] rfl ?_)));exact jf ⟨i3,ls⟩
  exact aK (jo rfl (oE (qE j A) (xA rfl (jg ls))))
 exact oQ (xX rfl (qJ lv))
def dK (N:Nat) (c:Int) (e:Op):Option Bool:= xH (qQ N c 3) λh=>qD (σ:=Unit) (qU (λi s=>match s with | _=>xH (zJ N c 3 (i:Int)) λd=>xH (sl d 0 2) λj=>xH (ix d 2) λp=>xH (vE c e j) λt=>xH (vE c e ([t,p])) λx=>xH (ix d 0) λy=>xH (sl d 1 (d.length:Int)) λz=>xH (vE c e z) λA=>xH (vE c e ([y,A])) λf=>if (x != f) then some (.ret false) else some (.go ())) h.toNat 0 ()) λ_=>some true
theorem xAv {e y} {f} {t} (hN:HN B t) (c:xM e) (h:Bo B t (Pt 2 vX) f y):∀ r,dK N e y=some r->CG B t 187 #[xB e,f] (sB r):=by
 refine vW func187 [(0,xB e),(1,f)] hN λr=>?_;refine xI rfl (xA rfl (jB λz A=>(vA (λ_=>.st [] []) ?_ (λ_=>?_))))
 ·
  refine zH (jc (λC _=>.st [(5,xB (C:Int)),(0,xB e),(1,f)] []) ls (λ_ _ _ d=>?_) (λ_ C _ d=>?_))
  ·have L:=vJ d;exact xV (jA 2 rfl (jk (λH=>zN aA c iV z A) λp=>xA rfl (zX L (xP (jf ls)))))
  refine xV (jA 2 rfl (jk (λH=>zN aA c iV z A) λp=>xA rfl (kA (qW d) (oJ (qH (jA 2 rfl (jB λM O=>(jk (λH=>bK aA c iV (dL d p) M O) λ_=>xR rfl (jB λz3 P=>(jB λQ R=>?_))))))))));refine jB λD S=>(jB λT U=>(cM λ_ _ _ _ W i x _=>?_));have j:=W.ld;refine jD (zG [0,1,2,3,4] rfl (jvC 5 rfl j P λ_ X=>zG [7] rfl (nM 8 rfl j R λ_ Y=>aY 9 rfl Y λZ=>jE 6 rfl (jk (λH=>aD aA c (H.a (i h)) (H.a X) D S) λF=>qT (jE 10 rfl ?_)))));refine jRI [D,Q] (by simp only[Al,Aq,Aw,implies_true,and_true];exact⟨F,Z⟩) λ_=>qT (jE 11 rfl (jk (λH=>aD aA c (H.a (i h)) (H.l 0 rfl) T U) λa7=>qT (zG [12] rfl (gV (xNh (jB λz7 c7=>(jB λz8 c8=>(jB λE c9=>(jB λG I=>(jD (zG [0,1,2] rfl (nM 3 rfl j c7 (λ_ h4=>?_)))))))))))));refine aY 4 rfl h4 λi2=>zG [5,6,7] rfl (jvC 8 rfl j c8 λ_ h5=>jE 9 rfl (jk (λH=>aD aA c (H.a (i h)) (H.a h5) E c9) λK=>qT (jE 10 rfl ?_)));refine jRI [z7,E] (by simp only[Al,Aq,Aw,implies_true,and_true];exact⟨i2,K⟩) λ_=>qT (jE 11 rfl (jk (λH=>aD aA c (H.a (i h)) (H.l 0 rfl) G I) λa8=>qT (zG [12] rfl (gV (oQ (oD 3 rfl (xW ?_ ?_)))))))
  ·exact xN (qA 1 rfl (dB (zC (cV (eT (kY x (qJ lv)))))))
  exact qM (jo rfl (oE (vZ d p) (xA rfl (js [] rfl (kY x (js [] rfl (jg ls)))))))
 exact oQ (xX rfl (qJ lv))
def gE (d:Int) (e:Op) (i j:Bool):Option Bool:= if (e.arity != 3) then some false else qD (σ:=Unit) (qU (λc s=>match s with | _=>qD (σ:=Unit) (qU (λf s=>match s with | _=>qD (σ:=Int) (if j then some (.nx (f:Int)) else some (.nx (c:Int))) λh=>qD (σ:=Bool) (xH (vE d e ([(c:Int),(c:Int),(f:Int)])) λp=>if (p != h) then some (.nx true) else xH (vE d e ([(f:Int),(c:Int),(c:Int)])) λt=>if (t != h) then some (.nx true) else if i then xH (vE d e ([(c:Int),(f:Int),(c:Int)])) λx=>some (.nx (x != h)) else some (.nx false)) λy=>if y then some (.ret (.ret false)) else some (.go ())) d.toNat 0 ()) λ_=>some (.go ())) d.toNat 0 ()) λ_=>some true
theorem rC {d A e f} {h} {y} (hN:HN B y) (i:xM d) (x:Bo B y (Pt 2 vX) h A):∀ r,gE d A e f=some r->CG B y 188 #[xB d,h,.bool e,.bool f] (sB r):=by
 refine vW func188 [(0,xB d),(1,h),(2,.bool e),(3,.bool f)] hN λr=>?_;refine xI rfl (jo rfl (jN x (kZ x vX.f0 λ_ C=>aJ C λ_=>xA rfl (xW ?_ ?_))))
 ·exact xN (xT rfl (qJ lv))
 refine qY (xA rfl (vA (λ_=>.st [] []) ?_ (λ_=>?_)))
 ·
  refine zH (jc (λc _=>.st [(9,xB (c:Int)),(0,xB d),(1,h),(2,.bool e),(3,.bool f)] []) ls (λ_ _ _ p=>?_) (λ_ c _ p=>?_))
  ·have D:=vJ p;exact xV (oD 3 rfl (zX D (xP (jf ls))))
  refine xV (oD 3 rfl (kA (qW p) (oJ ?_)));have j1:=dL p i;refine qH (xA rfl (vA (λ_=>.st [(0,xB d),(1,h),(2,.bool e),(3,.bool f),(9,xB (c:Int))] []) ?_ (λ_=>?_)))
  ·
   refine zH (jc (λj _=>.st [(10,xB (j:Int)),(0,xB d),(1,h),(2,.bool e),(3,.bool f),(9,xB (c:Int))] []) ls (λ_ _ _ t=>?_) (λ_ j _ t=>?_))
   ·have E:=vJ t;exact xV (oD 3 rfl (zX E (xP (jf ls))))
   refine xV (oD 3 rfl (kA (qW t) (oJ ?_)));have j2:=dL t i;refine qH (fL 2 rfl (xA rfl (vA (λz=>.fa (xM z) <| .st [(0,xB d),(1,h),(2,.bool e),(3,.bool f),(9,xB (c:Int)),(10,xB (j:Int)),(11,xB z)] []) ?_ (λz _=>?_))))
   ·
    refine xW ?_ ?_
    ·refine iQ (oD 2 rfl ?_);exact jf ⟨j2,ls⟩
    refine xUv ?_;exact jf ⟨j1,ls⟩
   refine xNh (vA (λF=>.st [(0,xB d),(1,h),(2,.bool e),(3,.bool f),(9,xB (c:Int)),(10,xB (j:Int)),(63,.bool F)] []) ?_ (λ_=>?_))
   ·
    refine iQ (jA 5 rfl ?_);refine jRI [(c:Int),(c:Int),(j:Int)] (by simp only[Al,Aq,Aw,implies_true,and_true];exact⟨j1,j1,j2⟩) λ_=>jB λG I=>(jk (λH=>aD aA i (H.a x) (H.l 0 rfl) G I) λO=>jA 3 rfl (dZ 39 (λ_=>?_) (λ_=>?_)))
    ·exact oD 24 rfl (js [] rfl (jf ls))
    refine jA 5 rfl ?_;refine jRI [(j:Int),(c:Int),(c:Int)] (by simp only[Al,Aq,Aw,implies_true,and_true];exact⟨j2,j1,j1⟩) λ_=>jB λK L=>(jk (λH=>aD aA i (H.a x) (H.l 0 rfl) K L) λP=>jA 4 rfl (dZ 50 (λ_=>?_) (λ_=>?_)))
    ·exact oD 13 rfl (js [] rfl (jf ls))
    refine jA 2 rfl (dZ 52 (λ_=>?_) (λ_=>?_))
    ·refine jA 5 rfl ?_;exact jRI [(c:Int),(j:Int),(c:Int)] (by simp only[Al,Aq,Aw,implies_true,and_true];exact⟨j1,j2,j1⟩) λ_=>jB λM N=>(jk (λH=>aD aA i (H.a x) (H.l 0 rfl) M N) λQ=>oD 4 rfl (js [] rfl (jf ls)))
    exact oD 11 rfl (js [] rfl (jf ls))
   refine dA (xW ?_ ?_)
   ·exact xN (qA 1 rfl (dB (zC (cV (xFw (dB (zC (cV (eT (qJ lv))))))))))
   exact qM (jo rfl (oE (vZ t i) (xA rfl (jg ls))))
  exact aK (jo rfl (oE (vZ p i) (xA rfl (jg ls))))
 exact oQ (xX rfl (qJ lv))
def bR (N:Nat) (d:Int) (c:Op) (e:Int):Option Bool:= if (e==1) then xH (yO N d c false) λj=>some j else if (e==2) then xH (yO N d c true) λp=>some p else if (e==3) then xH (cE d c) λt=>some t else if (e==4) then xH (rN N d c) λx=>some x else if (e==5) then qD (σ:=Bool) (if (c.arity==2) then xH (bS N d c) λy=>some (.nx y) else some (.nx false)) λz=>some z else if (e==6) then qD (σ:=Bool) (if (c.arity==2) then xH (bS N d c) λA=>if A then xH (cE d c) λf=>if f then xH (dK N d c) λB=>some (.nx B) else some (.nx false) else some (.nx false) else some (.nx false)) λC=>some C else if (e==7) then xH (gE d c true false) λD=>some D else if (e==8) then xH (gE d c true true) λE=>some E else if (e==9) then xH (gE d c false true) λh=>some h else xH (bS N d c) λi=>some i
theorem xBp {e j f} {h} {i} (hN:HN B i) (d:xM e) (c:Bo B i (Pt 2 vX) h j) (a2:xM f):∀ r,bR N e j f=some r->CG B i 127 #[xB e,h,xB f] (sB r):=by
 refine vW func127 [(0,xB e),(1,h),(2,xB f)] hN λr=>?_;refine xI rfl (jo rfl (xJu (oD 2 rfl (xW ?_ ?_))))
 ·exact xN (jA 2 rfl (jB λC D=>(jk (λH=>xCo aA d (H.a c) C D) (bE 1 rfl (qJ lv)))))
 refine xN (oD 2 rfl (xW ?_ ?_))
 ·exact xN (jA 2 rfl (jB λE p=>(jk (λH=>xCo aA d (H.a c) E p) (bE 1 rfl (qJ lv)))))
 refine xN (oD 2 rfl (xW ?_ ?_))
 ·exact xN (jA 2 rfl (jB λF G=>(jk (λH=>rV aA d (H.a c) F G) (bE 1 rfl (qJ lv)))))
 refine xN (oD 2 rfl (xW ?_ ?_))
 ·exact xN (jA 2 rfl (jB λI K=>(jk (λH=>yT aA d (H.a c) I K) (bE 1 rfl (qJ lv)))))
 refine xN (oD 2 rfl (xW ?_ ?_))
 ·
  refine a_s (vA (λL=>.st [(6,.bool L)] []) ?_ (λ_=>?_))
  ·
   refine iQ (jo rfl (jN c (kZ c vX.f0 λ_ M=>aJ M λ_=>jA 2 rfl (dZ 35 (λ_=>?_) (λ_=>?_)))))
   ·exact jA 2 rfl (jB λO P=>(jk (λH=>lW aA d (H.a c) O P) (oD 2 rfl (jf ls))))
   exact oD 5 rfl (jf ls)
  exact xLw (qJ lv)
 refine xN (oD 2 rfl (xW ?_ ?_))
 ·
  refine a_s (vA (λQ=>.st [(6,.bool Q)] []) ?_ (λ_=>?_))
  ·
   refine iQ (jo rfl (jN c (kZ c vX.f0 λ_ R=>aJ R λ_=>jA 2 rfl (dZ 47 (λ_=>?_) (λ_=>?_)))))
   ·
    refine jA 2 rfl (jB λS T=>(jk (λH=>lW aA d (H.a c) S T) (jA 2 rfl (dZ 52 (λ_=>?_) (λ_=>?_)))))
    ·
     refine jA 2 rfl (jB λt U=>(jk (λH=>rV aA d (H.a c) t U) (jA 2 rfl (dZ 57 (λ_=>?_) (λ_=>?_)))))
     ·exact jA 2 rfl (jB λW X=>(jk (λH=>xAv aA d (H.a c) W X) (oD 2 rfl (jf ls))))
     exact oD 5 rfl (jf ls)
    exact oD 10 rfl (jf ls)
   exact oD 15 rfl (jf ls)
  exact xLw (qJ lv)
 refine xN (oD 2 rfl (xW ?_ ?_))
 ·exact xN (jA 2 rfl (jB λY Z=>(jk (λH=>rC aA d (H.a c) Y Z) (bE 1 rfl (qJ lv)))))
 refine xN (oD 2 rfl (xW ?_ ?_))
 ·exact xN (jA 2 rfl (jB λz9 c9=>(jk (λH=>rC aA d (H.a c) z9 c9) (bE 1 rfl (qJ lv)))))
 refine xN (oD 2 rfl (xW ?_ ?_))
 ·exact xN (jA 2 rfl (jB λx y=>(jk (λH=>rC aA d (H.a c) x y) (bE 1 rfl (qJ lv)))))
 exact wA (jA 2 rfl (jB λz A=>(jk (λH=>lW aA d (H.a c) z A) (xX rfl (qJ lv)))))
end
section
open Go.Proofs.Tryz
set_option maxHeartbeats 1000000
set_option maxRecDepth 100000
open Go.RowKit
variable {B:Nat->Prop} {N:Nat}
def zM (N:Nat) (e:A6) (i j:Int):Option (Op×Int):= xH (rK (A6.mk e.size e.rels) i) λh=>if (h != 0) then some ((Op.mk 0 ([])),h) else xH (kR j 1 10) λp=>if (!p) then some ((Op.mk 0 ([])),2) else xH (iJ N (A6.mk e.size e.rels) i) λc=>if (c.2 != 0) then some ((Op.mk 0 ([])),c.2) else qD (σ:=(List Int)×Int×Bool) (lF (λs=>match s with | (t,x,y)=>xH (dX N c.1.1 c.1.2.1 c.1.2.2.1 c.1.2.2.2.1 c.1.2.2.2.2.1 t x y) λd=>if (d.2.1 != 0) then some (.ret ((Op.mk 0 ([])),d.2.1)) else if (!d.1) then some (.ret ((Op.mk 0 ([])),6)) else xH (fY c.1.1 c.1.2.1 c.1.2.2.1 c.1.2.2.2.1 c.1.2.2.2.2.1 d.2.2.1 d.2.2.2.1 d.2.2.2.2) λf=>xH (bR N e.size (Op.mk f.arity f.table) j) λz=>if z then some (.ret ((Op.mk f.arity f.table),0)) else some (.go (d.2.2.1,d.2.2.2.1,d.2.2.2.2))) N (c.1.2.2.2.2.2.1,c.1.2.2.2.2.2.2.1,c.1.2.2.2.2.2.2.2)) λ(A,B,C)=>some ((Op.mk 0 ([])),0)
theorem mE {K i e} {x} {y} (hN:HN B y) (A0:Bo B y (qR 2 xC) x K) (t:xM i) (G:xM e):∀ r,zM N K i e=some r->CG B y 79 #[x,xB i,xB e] (.v λI=>.fa (xM r.1.arity) <| .fa (xM r.2) <| .st (.tuple #[.agg #[xB r.1.arity,I],xB r.2]) λD=>rl 1 xF 2 I r.1.table::D):=by
 refine vW func79 [(0,x),(1,xB i),(2,xB e)] hN λr=>?_;obtain⟨v1,rfl,j,z⟩:=xC.o A0;refine jX e2 λb1=>aM rfl λp=>xI rfl (jo rfl (jB λa4 c1=>(jk (λH=>xJb aA (xC.b (H.g 1 rfl).bk j (H.a z)) t a4 c1) λa3=>xK rfl (oD 2 rfl (xW ?_ ?_)))))
 ·refine xN (qC e5 (jo rfl (kG e3 (xT rfl ?_))));exact mA (λH=>(H.nl 1 xF 2).s [0] rfl rfl) (cN 0 e2) (rt rfl) ⟨_,xU,a3,lv⟩
 refine qY (jo rfl (jB λz1 c2=>(jk (λH=>kM aA G zD xQg z1 c2) (xA rfl (xW ?_ ?_)))))
 ·refine xN (qC e5 (kG e3 (xT rfl ?_)));exact mA (λH=>(H.nl 1 xF 2).s [0] rfl rfl) (cN 0 e2) (rt rfl) ⟨_,xU,pV,lv⟩
 refine oJ (jB λc L=>(jbs (λd=>?_) (λd=>?_)))
 ·refine iQ (jo rfl (js [1,0] rfl (cM λ_ _ _ _ g1 e1 a5 _=>?_)));have K1:=g1.bk;refine jk (λH=>gz1 d (xAn H.hN (xC.b (K1.to H.sm) j (H.u (e1 z))) t c L)) λi2=>fL 5 rfl (oD 2 rfl (kA d (xN (qC e5 (jo rfl (kG e3 (xT rfl (kY a5 ?_))))))));exact mA (λH=>(H.nl 1 xF 2).s [0] rfl rfl) (cN 1 e2) (rt rfl) ⟨_,xU,i2,lv⟩
 refine iQ (jo rfl (js [1,0] rfl (cM λw1 X1 N1 _ g2 e4 f _=>?_)));have M:=g2.bk;refine jkB (λH=>gz2 d (xAn H.hN (xC.b (M.to H.sm) j (H.u (e4 z))) t c L)) λO v2 P Q R v6 S T i4 _=>fL 5 rfl (oD 2 rfl (zX d (xUv ?_)));refine vA (λ(s1,U,s3)=>.fa (xM U) <| .st [(6,oU p),(7,xB 0)] [bx p [xB 0,aB] 104]) ?_ (λ(s1,U,s3) _=>?_)
 ·
  refine zH ?_;refine jw (λ(W,A,X)=>.v λC=>.fa (xM A) <| .st [(2,xB e),(3,oU b1),(6,oU p),(9,oU O)] [bx O [v2,xB c.1.2.1,P,Q,R,C,xB A,.bool X] 230,rw N1 1 (RP 3 kU) 231 P c.1.2.2.1,rl 1 (zV 2 vG) 296 Q c.1.2.2.2.1,rl 1 xF 2 R c.1.2.2.2.2.1,rl 1 xF 2 C W,bx p [xB 0,aB] 104]) ⟨_,i4,ls⟩ (λ_ (W,A,X) C i5=>?_);refine qH (jo rfl (js [1,2,3,0,4,5] rfl (jh (λH=>H.mg) (jh (λH=>H.mg) (cM λw2 X2 N2 _ E F h _=>?_)))));have Y:=E.l.l.rd;have Z:=E.l.r.ld;have h5:=E.r.ld;refine jB λz3 c4=>(jko 2 (λK3 H=>xEt z3 c4 _ H.hN K3 (H.u (F S)) T (H.u Y) (H.u Z) (H.u h5) i5) λv8 i6 i7=>fL 5 rfl (oD 2 rfl (xW ?_ ?_)))
  ·refine xN (qC e5 (jo rfl (js [2,0,1] rfl (kG e3 (jo rfl (xMk (dB (zC (cV (kY h (jh (λH=>H.um) (jh (λH=>H.um) (js [1,2,3,4,5] rfl (kY f ?_))))))))))))));exact mA (λH=>(H.nl 1 xF 2).s [0] rfl rfl) (cN 3 e2) (rt rfl) ⟨_,xU,i6,lv⟩
  refine qY (oD 2 rfl (xW ?_ ?_))
  ·refine xN (qC e5 (js [2,0,1] rfl (kG e3 (jo rfl (xMk (dB (zC (cV (kY h (jh (λH=>H.um) (jh (λH=>H.um) (js [1,2,3,4,5] rfl (kY f ?_)))))))))))));exact mA (λH=>(H.nl 1 xF 2).s [0] rfl rfl) (cN 3 e2) (rt rfl) ⟨_,xU,sM,lv⟩
  refine qG (jo rfl (jB λz4 c5=>(jko 2 (λK4 H=>xHx z4 c5 _ H.hN K4 (H.u (F S)) T (H.u Y) (H.u Z) (H.u h5) i7) λv9 i8=>aM rfl (λ_=>?_))));refine kG (hv:=(λH=>oc rfl (oc (H.l 1 rfl).one on))) e3 (qS (oH e2 (jbK (M.lf F) e2 (jo rfl (jB λz5 c6=>(jk (λH=>xBp aA j (vX.b (H.g 0 rfl).bk i8 (H.l 1 rfl)) G z5 c6) (aI (xW ?_ ?_))))))))
  ·refine xN (aH 0 e3 (js [4,0,1,2,3] rfl ?_));refine kG (hv:=(λH=>oc rfl (oc (H.l 2 rfl).one on))) e3 (bE 1 rfl (dB (zC (cV (kY h (jh (λH=>H.um) (jh (λH=>H.um) (js [1,2,3,4,5,6,7] rfl (kY f ?_)))))))));exact mA (λH=>H.s [5] rfl rfl) (cN 3 e2) (rt rfl) ⟨_,i8,xU,lv⟩
  refine oGt (js [2,3,4] rfl (kY h (jh (λH=>H.um) (jh (λH=>H.um) (js [3,0,1,2,4,5] rfl ?_)))));exact jg ⟨_,i7,ls⟩
 refine a_z (kY f ?_);exact mA (λH=>(H.nl 1 xF 2).s [0] rfl rfl) (cN 1 e2) (rt rfl) ⟨_,xU,xU,lv⟩
def fX (N:Nat) (c:Int):Option Op:= xH (ck (c*c)) λf=>xH (ck (f*c)) λh=>qD (σ:=List Int) (qU (λi j=>xH (zJ N c 3 (i:Int)) λd=>xH (ix d 0) λp=>xH (ix d 1) λt=>xH (ck (p - t)) λx=>xH (ix d 2) λy=>xH (ck (x+y)) λz=>xH (kX z c) λA=>xH (ap j ([A])) λe=>some (.go e)) h.toNat 0 []) λB=>some ((Op.mk 3 B))
theorem wY {d} {y} (hN:HN B y) (t:xM d):∀ r,fX N d=some r->CG B y 82 #[xB d] (.v λx=>.fa (xM r.arity) <| .st (.agg #[xB r.arity,x]) λD=>rl 1 xF 2 x r.table::D):=by
 refine vW func82 [(0,xB d)] hN λr=>?_;refine aM rfl λf=>qS (qC e5 (aM rfl λh=>kG e3 (cY (xA rfl (jB λz1 z=>(jB λz2 e=>?_))))));refine vA (λL=>.v λi=>.st [(2,oU f),(3,oU h)] [rl 1 xF 2 i L,bx h [xB 3,i] 104,bx f [xB 0,aB] 104]) ?_ (λ_ i=>?_)
 ·
  refine zH (jh (λH=>H.nl 1 xF 2) ?_);refine jc (λA C=>.v λj=>.st [(4,xB (A:Int)),(0,xB d),(2,oU f),(3,oU h)] [rl 1 xF 2 j C,bx h [xB 3,j] 104,bx f [xB 0,aB] 104]) ⟨_,ls⟩ (λ_ C _ c j=>?_) (λ_ A _ c _=>?_)
  ·have M:=vJ c;refine xV (jA 3 rfl (wT z (jo rfl (wT e (xA rfl (zX M (xP ?_)))))));exact jf ⟨_,ls⟩
  refine xV (jA 3 rfl (wT z (jo rfl (wT e (xA rfl (kA (qW c) (oJ (qH (jA 2 rfl (jB λO P=>(jk (λH=>bK aA t iV (dL c (zI e)) O P) λ_=>xA rfl ?_)))))))))));refine jB λz4 Q=>(jB λz5 R=>(jB λz6 S=>(jB λz7 T=>(jB λz8 E=>(jB λU W=>(jB λa1 X=>(js [0,2,1,3] rfl (jh (λH=>H.mg) (cM λ_ _ _ _ G _ I _=>?_)))))))));have p:=G.l.ld;refine jD (kJ 0 rfl e2 (gH 1 rfl G.r.bk e2 (zG [2] rfl (nM 3 rfl p Q λ_ Y=>aY 4 rfl Y λ_=>zG [5] rfl (nM 6 rfl p R λ_ Z=>aY 7 rfl Z λ_=>jvz 8 rfl (λF H w l=>xBi F rfl rfl S) (zG [9] rfl (nM 10 rfl p T λ_ h4=>aY 11 rfl h4 λ_=>jvz 12 rfl (λF H w l=>wF F rfl rfl E) (zG [13] rfl ?_))))))));refine jE 14 rfl (jk (λH=>iL aA (zI E) t U W) λK=>qT (jE 15 rfl (iX (λH=>Eo.int K) λ_=>qT (jF9 16 rfl (js [1,0,2] rfl (jPL X λv3=>aI (jF9 17 rfl (oH e2 (aI (jF9 18 rfl (kY I ?_)))))))))));refine jh (λH=>H.um) (js [1,0,2,3] rfl (jW (hv:=(λH=>(H.l 2 rfl).one)) e3 (aI (gV (aK (jo rfl (oE (vZ c (zI e)) (xA rfl (js [2,0,3] rfl ?_)))))))));exact jg ⟨_,ls⟩
 refine oQ (aH 1 e3 (js [2,0,1] rfl ?_));refine kG (hv:=(λH=>oc rfl (oc (H.l 1 rfl).one on))) e3 (lU ?_);exact j1m (λH=>H.s [1] rfl rfl) (cN 0 e2) ⟨_,iV,lv⟩
def gM (N:Nat) (c:Int) (d:Rel):Option Bool:= xH (fX N c) λe=>qD (σ:=Bool) (if (decide (0<(d.tuples.length:Int))) then xH (kT N c (Op.mk e.arity e.table) d) λf=>some (.nx f) else some (.nx false)) λh=>some h
theorem xGg {c i} {d} {e} (hN:HN B e) (h:xM c) (f:Bo B e (Pt 2 oR) d i):∀ r,gM N c i=some r->CG B e 81 #[xB c,d] (sB r):=by
 refine vW func81 [(0,xB c),(1,d)] hN λr=>?_;refine xK rfl (jo rfl (jB λj p=>(jk (λH=>wY aA h j p) λD t=>aM rfl (λ_=>?_))));refine kG (hv:=(λH=>oc rfl (oc (H.l 1 rfl).one on))) e3 (xAo (vA (λx=>.st [(4,.bool x)] []) ?_ (λ_=>?_)))
 ·
  refine iQ (jo rfl (jN f (kZ f oR.f1 λ_ y=>aT y λ_ z=>jL z λ_=>jA 2 rfl (dZ 14 (λ_=>?_) (λ_=>?_)))))
  ·exact jA 2 rfl (jB λA C=>(jk (λH=>xAm aA h (vX.b (H.g 0 rfl).bk t (H.l 1 rfl)) (H.a f) A C) (oD 2 rfl (js [] rfl (jf ls)))))
  exact oD 5 rfl (js [] rfl (jf ls))
 exact lY (qJ lv)
def pS (N:Nat) (c:A6):Option (Int×Op×Int):= qD (σ:=Bool) (oM (λE (j:Rel) p=>qD (σ:=Bool) (if p then some (.nx (decide (0<(j.tuples.length:Int)))) else some (.nx false)) λt=>some (.go t)) c.rels 0 true) λx=>qD (σ:=Int) (lF (λd=>qD (σ:=Bool) (if (decide (d<c.size)) then some (.nx x) else some (.nx false)) λy=>if y then xH (bW N c.size 1 d) λe=>xH (bC N c (Op.mk e.1.arity e.1.table)) λz=>if (z==(-1)) then some (.ret (1,(Op.mk e.1.arity e.1.table),0)) else xH (ck (d+1)) λA=>some (.go A) else some (.brk d)) N 0) λF=>xH (zM N c 2 6) λf=>if (f.2==0) then some (2,(Op.mk f.1.arity f.1.table),0) else xH (zM N c 3 7) λh=>if (h.2==0) then some (3,(Op.mk h.1.arity h.1.table),0) else xH (fP c.size) λB=>if (!B) then some (0,(Op.mk 0 ([])),6) else qD (σ:=Unit) (oM (λG (C:Rel) s=>match s with | _=>xH (gM N c.size C) λD=>if (!D) then some (.ret (0,(Op.mk 0 ([])),6)) else some (.go ())) c.rels 0 ()) λ_=>xH (fX N c.size) λi=>some (4,(Op.mk i.arity i.table),0)
theorem xGs {z} {e} {p} (hN:HN B p) (c:Bo B p (Pt 2 xC) e z):∀ r,pS N z=some r->CG B p 52 #[e] (.v λy=>.fa (xM r.1) <| .fa (xM r.2.1.arity) <| .fa (xM r.2.2) <| .st (.tuple #[xB r.1,.agg #[xB r.2.1.arity,y],xB r.2.2]) λD=>rl 1 xF 2 y r.2.1.table::D):=by
 refine vW func52 [(0,e)] hN λr=>?_;refine jo rfl (aM rfl λd=>xK rfl (xI rfl (xA rfl ?_)));refine vA (λf=>.st [(0,e),(3,oU d),(5,.bool f)] [bx d [xB 0,aB] 104]) ?_ (λf=>?_)
 ·
  refine zH ?_;refine jl (λt x=>.st [(6,xB (t:Int)),(0,e),(3,oU d),(5,.bool x)] [bx d [xB 0,aB] 104]) ls (λ_ x _ q1=>?_) (λt x1 x i y1=>?_)
  ·have l1:=oO q1;exact xV (jA 2 rfl (jN c (kZ c xC.f1 λ_ h1=>aT h1 λ_ h2=>jL h2 λ_=>xA rfl (zX l1 (xP (jf ls))))))
  refine xV (jA 2 rfl (jN c (kZ c xC.f1 λ_ h3=>aT h3 λ_ h4=>jL h4 λA=>xA rfl (kA (xZ i) (oJ ?_)))));have j1:=bV (Ae i) A;refine zH ?_;refine vA (λC=>.st [(0,e),(3,oU d),(5,.bool C),(6,xB (t:Int))] [bx d [xB 0,aB] 104]) ?_ (λC=>?_)
  ·
   refine iQ (jA 2 rfl (dZ 25 (λ_=>?_) (λ_=>?_)))
   ·exact jo rfl (jN c (kZ c xC.f1 λ_ h5=>aT h5 λ_ h6=>jo rfl (jI h6 y1 λ_ h7=>kZ h7 oR.f1 λ_ h8=>aT h8 λ_ h9=>jL h9 λ_=>oD 3 rfl (jf ls))))
   exact oD 12 rfl (jf ls)
  exact aK (jo rfl (oE (qE i A) (xA rfl (jg ls))))
 refine bX (xA rfl ?_);refine vA (λs4=>.fa (xM s4) <| .st [(0,e),(3,oU d)] [bx d [xB 0,aB] 104]) ?_ (λ_ _=>?_)
 ·
  refine zH ?_;refine jw (λh=>.fa (xM h) <| .st [(0,e),(3,oU d),(5,.bool f),(7,xB h)] [bx d [xB 0,aB] 104]) ⟨xU,ls⟩ λ_ h E=>xSf ?_;refine vA (λs6=>.st [(0,e),(3,oU d),(5,.bool f),(7,xB h),(45,.bool s6)] [bx d [xB 0,aB] 104]) ?_ (λ_=>?_)
  ·
   refine iQ (jA 2 rfl (jN c (kZ c xC.f0 λ_ L=>aJ L λ_=>jA 2 rfl (dZ 43 (λ_=>?_) (λ_=>?_)))))
   ·exact oD 2 rfl (jf ls)
   exact oD 2 rfl (jf ls)
  refine dA (xW ?_ ?_)
  ·
   refine mB (jo rfl (jN c (kZ c xC.f0 λ_ M=>aJ M λi3=>jo rfl (jB λz1 c1=>(jk (λH=>wB aA i3 zD E z1 c1) λv1 F _=>jA 3 rfl (aM rfl (λ_=>?_)))))));refine kG (hv:=(λH=>oc rfl (oc (H.l 1 rfl).one on))) e3 (xK rfl (jo rfl (jB λz2 c2=>(jk (λH=>sG aA (H.a c) (vX.b (H.g 0 rfl).bk F (H.l 1 rfl)) z2 c2) λbc=>xA rfl (xW ?_ ?_)))))
   ·refine a_s (cM λ_ _ _ _ g1 _ O _=>(jD (rQ 0 rfl g1.bk e2 (zG [1] rfl (jE 2 rfl (js [1,0] rfl ?_))))));refine kG (hv:=(λH=>oc rfl (oc (H.l 1 rfl).one on))) e3 (qT (zG [3] rfl (gV (xQf (dB (zC (cV (eT (kY O ?_)))))))));exact j3m (λH=>H.s [2] rfl rfl) (rt rfl) (cN 1 e2) (rt rfl) ⟨_,zD,F,xU,lv⟩
   refine qM (jo rfl (jB λz3 G=>(kE G (xA rfl (js [2] rfl ?_)))));exact jg ⟨(zI G),ls⟩
  refine mK (jbk (wI ?_));exact jf ⟨E,ls⟩
 refine oQ (jo rfl (jN c (jlA c λ_ P=>jB λz4 c4=>(jk (λH=>mE aA (H.a P) pV sM z4 c4) λv2 i5 _=>jA 3 rfl (aM rfl (λ_=>?_))))));refine kG (hv:=(λH=>oc rfl (oc (H.l 1 rfl).one on))) e3 (xI rfl (oD 2 rfl (xW ?_ ?_)))
 ·refine a_s (cM λ_ _ _ _ g2 _ Q _=>(jD (rQ 0 rfl g2.bk e2 (zG [1] rfl (jE 2 rfl (js [1,0] rfl ?_))))));refine kG (hv:=(λH=>oc rfl (oc (H.l 1 rfl).one on))) e3 (qT (zG [3] rfl (gV (xSb (kY Q ?_)))));exact j3m (λH=>H.s [2] rfl rfl) (rt rfl) (cN 1 e2) (rt rfl) ⟨_,pV,i5,xU,lv⟩
 refine qG (jo rfl (jN c (jlA c λ_ R=>jB λz5 c5=>(jk (λH=>mE aA (H.a R) iV xNy z5 c5) λv3 i6 _=>jA 3 rfl (aM rfl (λ_=>?_))))));refine kG (hv:=(λH=>oc rfl (oc (H.l 1 rfl).one on))) e3 (xI rfl (oD 2 rfl (xW ?_ ?_)))
 ·refine a_s (cM λ_ _ _ _ g3 _ S _=>(jD (rQ 0 rfl g3.bk e2 (zG [1] rfl (jE 2 rfl (js [3,0,1,2] rfl ?_))))));refine kG (hv:=(λH=>oc rfl (oc (H.l 1 rfl).one on))) e3 (qT (zG [3] rfl (gV (xSb (kY S ?_)))));exact j3m (λH=>H.s [2] rfl rfl) (rt rfl) (cN 1 e2) (rt rfl) ⟨_,iV,i6,xU,lv⟩
 refine qY (jo rfl (jN c (kZ c xC.f0 λ_ T=>aJ T λi7=>jB λz6 c6=>(jk (λH=>rY aA i7 z6 c6) (xA rfl (xW ?_ ?_))))))
 ·refine xN (qC e5 (jo rfl (js [4,0,1,2,3] rfl (kG e3 (xT rfl ?_)))));exact j3m (λH=>(H.nl 1 xF 2).s [0] rfl rfl) (rt rfl) (cN 0 e2) (rt rfl) ⟨_,xU,xU,sM,lv⟩
 refine qY (xA rfl ?_);refine vA (λ_=>.st [(0,e),(3,oU d)] [bx d [xB 0,aB] 104]) ?_ (λ_=>?_)
 ·
  refine zH (js [4] rfl ?_);refine jl (λI _=>.st [(14,xB (I:Int)),(0,e),(3,oU d)] [bx d [xB 0,aB] 104]) ls (λ_ _ _ q2=>?_) (λI _ _ j y2=>?_)
  ·have l2:=oO q2;exact xV (jA 2 rfl (jN c (kZ c xC.f1 λ_ U=>aT U λ_ W=>jL W λ_=>xA rfl (zX l2 (xP (jf ls))))))
  refine xV (jA 2 rfl (jN c (kZ c xC.f1 λ_ X=>aT X λ_ Y=>jL Y λK=>xA rfl (kA (xZ j) (oJ ?_)))));have j2:=bV (Ae j) K;refine sJ (jQ (vY 1 rfl (jqN c (cA c xC.f0 λ_ Z=>kN Z λi9=>vY 1 rfl (jqN c (cA c xC.f1 λ_ a0=>eN a0 λ_ a1=>vY 1 rfl (gU a1 y2 λ_ a2=>jB λz7 c7=>(jqk (λH=>xGg aA i9 (H.a a2) z7 c7) (vY 1 rfl ?_)))))))));refine lE (dA (xW ?_ ?_))
  ·refine xN (qC e5 (jo rfl (kG e3 (qA 1 rfl (dB (zC (cV (eT ?_))))))));exact j3m (λH=>(H.nl 1 xF 2).s [0] rfl rfl) (rt rfl) (cN 0 e2) (rt rfl) ⟨_,xU,xU,sM,lv⟩
  exact qM (jo rfl (oE (qE j K) (xA rfl (jg ls))))
 refine oQ (jo rfl (jN c (kZ c xC.f0 λ_ a3=>aJ a3 λa4=>jB λz8 c8=>(jk (λH=>wY aA a4 z8 c8) λv4 a5=>jo rfl (js [1,0] rfl ?_)))));refine kG (hv:=(λH=>oc rfl (oc (H.l 1 rfl).one on))) e3 (xX rfl ?_);exact j3m (λH=>H.s [1] rfl rfl) (rt rfl) (cN 0 e2) (rt rfl) ⟨_,tY,a5,xU,lv⟩
def nI (c:Rel) (d:List Int):Option Bool:= qD (σ:=Unit) (oM (λh (e:(List Int)) s=>match s with | _=>xH (pI e d) λf=>if f then some (.ret true) else some (.go ())) c.tuples 0 ()) λ_=>some false
theorem wL {i j} {d e} {f} (hN:HN B f) (c:Bo B f (Pt 2 oR) d i) (x:Bo B f (Sl 1 xF) e j):∀ r,nI i j=some r->CG B f 189 #[d,e] (sB r):=by
 refine vW func189 [(0,d),(1,e)] hN λr=>?_;refine xI rfl (xA rfl (vA (λ_=>.st [] []) ?_ (λ_=>?_)))
 ·
  refine zH (jl (λp _=>.st [(5,xB (p:Int)),(0,d),(1,e)] []) ls (λ_ _ _ y=>?_) (λp _ _ h z=>?_))
  ·have A:=oO y;exact xV (jA 2 rfl (jN c (kZ c oR.f1 λ_ C=>aT C λ_ D=>jL D λ_=>xA rfl (zX A (xP (jf ls))))))
  refine xV (jA 2 rfl (jN c (kZ c oR.f1 λ_ E=>aT E λ_ F=>jL F λt=>xA rfl (kA (xZ h) (oJ ?_)))));have j1:=bV (Ae h) t;refine qH (jo rfl (jN c (kZ c oR.f1 λ_ G=>aT G λ_ I=>jo rfl (jI I z λ_ K=>aT K λ_ L=>jo rfl (jB λM N=>(jk (λH=>xBm aA (H.a L) (H.a x) M N) (aI (xW ?_ ?_))))))))
  ·exact xN (qA 1 rfl (dB (zC (cV (eT (qJ lv))))))
  exact qM (jo rfl (oE (qE h t) (xA rfl (jg ls))))
 exact oQ (xX rfl (qJ lv))
def cL (d:A6) (c:Con) (e:List Int):Option Bool:= xH (ix d.rels c.rel) λf=>xH (tN e c.scope) λh=>xH (nI f h) λi=>some i
theorem xIk {i j p} {e f h} {c} (hN:HN B c) (t:Bo B c (Pt 2 xC) e i) (d:Bo B c (Pt 2 vH) f j) (y:Bo B c (Sl 1 xF) h p):∀ r,cL i j p=some r->CG B c 130 #[e,f,h] (sB r):=by
 refine vW func130 [(0,e),(1,f),(2,h)] hN λr=>?_;refine xR rfl (jB λM z=>(jB λA C=>(jB λD x=>(jD (zG [0] rfl (jvN 1 rfl t (gR 2 rfl t xC.f1 λ_ E=>rB 3 rfl E λ_ F=>zG [4] rfl (jvN 5 rfl d (gR 6 rfl d vH.f0 λ_ G=>aY 7 rfl G (λ_=>?_))))))))));exact nM 8 rfl F z λ_ I=>zG [9,10] rfl (jvN 11 rfl d (gR 12 rfl d vH.f1 λ_ K=>rB 13 rfl K λ_ L=>jE 14 rfl (jk (λH=>xFl aA (H.a y) (H.a L) A C) λ_=>qT (jE 15 rfl (jk (λH=>wL aA (H.a I) (H.l 0 rfl) D x) (qT (zG [16] rfl (gV (lY (qJ lv))))))))))
def dG (c:A6) (d:A7) (e:List Int):Option Int:= qD (σ:=Unit) (oM (λf (h:Con) s=>match s with | _=>xH (cL c h e) λi=>if (!i) then some (.ret ((f:Int))) else some (.go ())) d.cons 0 ()) λ_=>some ((-1))
theorem xFs {j p t} {e f h} {d} (hN:HN B d) (z:Bo B d (Pt 2 xC) e j) (c:Bo B d (Pt 2 xJ) f p) (A:Bo B d (Sl 1 xF) h t):∀ r,dG j p t=some r->CG B d 83 #[e,f,h] (sI r):=by
 refine vW func83 [(0,e),(1,f),(2,h)] hN λr=>?_;refine xI rfl (xA rfl (vA (λ_=>.st [] []) ?_ (λ_=>?_)))
 ·
  refine zH (jl (λx _=>.st [(7,xB (x:Int)),(0,e),(1,f),(2,h)] []) ls (λ_ _ _ C=>?_) (λx _ _ i D=>?_))
  ·have E:=oO C;exact xV (jA 2 rfl (jN c (kZ c xJ.f1 λ_ F=>aT F λ_ G=>jL G λ_=>xA rfl (zX E (xP (jf ls))))))
  refine xV (jA 2 rfl (jN c (kZ c xJ.f1 λ_ I=>aT I λ_ K=>jL K λy=>xA rfl (kA (xZ i) (oJ (qH (jA 2 rfl (jN c (kZ c xJ.f1 λ_ L=>aT L (λ_ M=>?_))))))))));refine jo rfl (jI M D λ_ N=>jo rfl (jB λO P=>(jk (λH=>xIk aA (H.a z) (H.a N) (H.a A) O P) (xA rfl (xW ?_ ?_)))))
  ·refine xN (qA 2 rfl (dB (zC (cV (eT ?_)))));exact qJ ⟨(bV (Ae i) y),lv⟩
  exact qM (jo rfl (oE (qE i y) (xA rfl (jg ls))))
 refine oQ (xX rfl ?_);exact qJ ⟨kV,lv⟩
def cQ (N:Nat) (c:A6) (d:A7) (e:Int):Option (A9×Int):= xH (lD (A6.mk c.size c.rels) (A7.mk d.vars d.cons)) λi=>if (!i) then some ((A9.mk 0 ([]) ([]) ([]) ([])),1) else xH (ck (c.size - 1)) λj=>xH (kR e 0 j) λp=>if (!p) then some ((A9.mk 0 ([]) ([]) ([]) ([])),2) else xH (bW N c.size 1 e) λf=>xH (bC N (A6.mk c.size c.rels) (Op.mk f.1.arity f.1.table)) λt=>if (t != (-1)) then some ((A9.mk 0 ([]) ([]) ([]) ([])),4) else qD (σ:=List Int) (qU (λA x=>xH (ap x ([e])) λy=>some (.go y)) d.vars.toNat 0 []) λh=>xH (dG (A6.mk c.size c.rels) (A7.mk d.vars d.cons) h) λz=>if (z != (-1)) then some ((A9.mk 0 ([]) ([]) ([]) ([])),6) else some ((A9.mk 0 h ([]) ([]) ([])),0)
theorem yS {e f d} {A C} {h} (hN:HN B h) (R:Bo B h (qR 2 xC) A e) (S:Bo B h (qR 2 xJ) C f) (y:xM d):∀ r,cQ N e f d=some r->CG B h 53 #[A,C,xB d] (.v λG=>.fa (xM r.1.kind) <| .fa (xM r.2) <| .st (.tuple #[.agg #[xB r.1.kind,G,aB,aB,aB],xB r.2]) λD=>rl 1 xF 2 G r.1.values::D):=by
 refine vW func53 [(0,A),(1,C),(2,xB d)] hN λr=>?_;obtain⟨K,rfl,i,E⟩:=xC.o R;refine jX e2 (λj=>?_);obtain⟨I,rfl,p,L⟩:=xJ.o S;refine jX e2 λt=>aM rfl λx=>xI rfl (jB λT U=>(jk (λH=>sP aA (xC.b (H.g 2 rfl).bk i (H.a E)) (xJ.b (H.g 1 rfl).bk p (H.a L)) T U) (xA rfl (xW ?_ ?_))))
 ·refine xN (qC e5 (kG e3 (xT rfl ?_)));exact mA (λH=>(H.nl 1 xF 2).s [0] rfl rfl) (cN 0 e2) (rt rfl) ⟨_,xU,zD,lv⟩
 refine qY (jo rfl (oH e2 (jb 2 e3 (jB λz2 M=>(fR M (jB λW X=>(jk (λH=>kM aA y xU (zI M) W X) (xA rfl (xW ?_ ?_)))))))))
 ·refine xN (qC e5 (kG e3 (xT rfl ?_)));exact mA (λH=>(H.nl 1 xF 2).s [0] rfl rfl) (cN 0 e2) (rt rfl) ⟨_,xU,pV,lv⟩
 refine qG (oH e2 (jb 2 e3 (jo rfl (jB λY Z=>(jk (λH=>wB aA i zD y Y Z) λv3 Q _=>jA 3 rfl (aM rfl (λ_=>?_)))))));refine kG (hv:=(λH=>oc rfl (oc (H.l 1 rfl).one on))) e3 (xI rfl (jB λz5 c5=>(jk (λH=>sG aA (xC.b (H.g 4 rfl).bk i (H.a E)) (vX.b (H.g 0 rfl).bk Q (H.l 1 rfl)) z5 c5) λa7=>xA rfl (xW ?_ ?_))))
 ·refine xN (qC e5 (js [2,0,1,3,4] rfl (kG e3 (xT rfl ?_))));exact mA (λH=>(H.nl 1 xF 2).s [0] rfl rfl) (cN 0 e2) (rt rfl) ⟨_,xU,tY,lv⟩
 refine qG (jR0 xF λv4=>xI rfl (xA rfl ?_));refine vA (λs1=>.v λz=>.st [(3,oU j),(4,oU t),(6,oU x),(10,z)] [rl 1 xF 2 z s1,bx x [xB 0,aB,aB,aB,aB] 57,bx t [xB f.vars,I] 77,bx j [xB e.size,K] 34]) ?_ (λ_ z=>?_)
 ·
  refine zH (js [0,3,4,5] rfl ?_);refine jc (λO P=>.v λF=>.st [(11,xB (O:Int)),(2,xB d),(3,oU j),(4,oU t),(6,oU x),(10,F)] [rl 1 xF 2 F P,bx x [xB 0,aB,aB,aB,aB] 57,bx t [xB f.vars,I] 77,bx j [xB e.size,K] 34]) ⟨_,ls⟩ (λ_ P _ c F=>?_) (λ_ O _ c _=>?_)
  ·have l1:=vJ c;refine xV (jo rfl (oH e2 (jb 2 e3 (xA rfl (zX l1 (xP ?_))))));exact jf ⟨_,ls⟩
  refine xV (jo rfl (oH e2 (jb 2 e3 (xA rfl (kA (qW c) (oJ ?_))))));have j1:=dL c p;refine yP (jA 2 rfl (iX (λH=>Eo.int y) λ_=>jB λz6 c6=>(js [1,0,2,3,4] rfl (jPL c6 λv6=>zL 1 rfl (jo rfl (oE (vZ c p) (xA rfl ?_)))))));exact jg ⟨_,ls⟩
 refine bX (jo rfl (jB λz7 c7=>(jk (λH=>xFs aA (xC.b (H.g 3 rfl).bk i (H.a E)) (xJ.b (H.g 2 rfl).bk p (H.a L)) (H.l 0 rfl) z7 c7) λa8=>xA rfl (xW ?_ ?_))))
 ·refine xN (qC e5 (js [1,0,2,3] rfl (kG e3 (xT rfl ?_))));exact mA (λH=>(H.nl 1 xF 2).s [0] rfl rfl) (cN 0 e2) (rt rfl) ⟨_,xU,sM,lv⟩
 refine qG (jo rfl ?_);refine qC (hone:=(λH=>oc rfl (oc (H.l 0 rfl).one on))) e5 (js [1,0,2,3] rfl ?_);refine kG (hv:=(λH=>oc rfl (oc (H.l 1 rfl).one (oc rfl (oc rfl (oc rfl on)))))) e3 (xX rfl ?_);exact mA (λH=>H.s [1] rfl rfl) (cN 0 e2) (rt rfl) ⟨_,xU,xU,lv⟩
def xAb (N:Nat) (d:Int) (c:Op):Option Bool:= qD (σ:=Bool) (xH (dO d) λe=>if (!e) then some (.nx true) else xH (dU c.arity) λf=>if (!f) then some (.nx true) else xH (qQ N d c.arity) λh=>some (.nx ((c.table.length:Int) != h))) λi=>if i then some false else qD (σ:=Unit) (oM (λx (j:Int) s=>match s with | _=>xH (ck (d - 1)) λp=>xH (kR j 0 p) λt=>if (!t) then some (.ret false) else some (.go ())) c.table 0 ()) λ_=>some true
theorem xPh {d j} {e} {h} (hN:HN B h) (i:xM d) (c:Bo B h (Pt 2 vX) e j):∀ r,xAb N d j=some r->CG B h 131 #[xB d,e] (sB r):=by
 refine vW func131 [(0,xB d),(1,e)] hN λr=>?_;refine jo rfl (gL (vA (λA=>.st [(0,xB d),(1,e),(30,.bool A)] []) ?_ (λ_=>?_)))
 ·
  refine jQ (vY 1 rfl (jB λC D=>(jqk (λH=>pB aA i C D) (vY 2 rfl (dZ 9 (λ_=>?_) (λ_=>?_))))))
  ·exact vY 21 rfl (lE (dA (jf ls)))
  refine vY 1 rfl (jqN c (cA c vX.f0 λ_ E=>kN E λF=>jB λG I=>(jqk (λH=>rW aA F G I) (vY 3 rfl (dZ 17 (λ_=>?_) (λ_=>?_))))))
  ·exact vY 13 rfl (lE (dA (jf ls)))
  exact vY 1 rfl (jqN c (cA c vX.f1 λ_ K=>eN K λ_ L=>jqL L λ_=>vY 2 rfl (jqN c (cA c vX.f0 λ_ M=>kN M λO=>jB λP Q=>(xSk (λH=>zN aA i O P Q) λ_=>vY 2 rfl (lE (dA (jf ls))))))))
 refine dA (xW ?_ ?_)
 ·exact xN (xT rfl (qJ lv))
 refine qY (xA rfl (vA (λ_=>.st [] []) ?_ (λ_=>?_)))
 ·
  refine zH (jl (λp _=>.st [(5,xB (p:Int)),(0,xB d),(1,e)] []) ls (λ_ _ _ R=>?_) (λp _ _ f S=>?_))
  ·have T:=oO R;exact xV (jA 2 rfl (jN c (kZ c vX.f1 λ_ U=>aT U λ_ W=>jL W λ_=>xA rfl (zX T (xP (jf ls))))))
  refine xV (jA 2 rfl (jN c (kZ c vX.f1 λ_ X=>aT X λ_ Y=>jL Y λt=>xA rfl (kA (xZ f) (oJ ?_)))));have j1:=bV (Ae f) t;refine qH (jo rfl (jN c (kZ c vX.f1 λ_ Z=>aT Z λ_ y=>jo rfl (jI y S λ_ z=>aJ z λi4=>jo rfl (jB λz4 x=>(fR x (jB λz5 c5=>(jk (λH=>kM aA i4 xU (zI x) z5 c5) (xA rfl ?_)))))))));refine xW ?_ ?_
  ·exact xN (qA 1 rfl (dB (zC (cV (eT (qJ lv))))))
  exact qM (jo rfl (oE (qE f t) (xA rfl (jg ls))))
 exact oQ (xX rfl (qJ lv))
def rR (N:Nat) (c:A6) (e:A7) (d:Op) (f:Int):Option Int:= qD (σ:=Bool) (xH (lD c e) λh=>if (!h) then some (.nx true) else xH (xAb N c.size d) λi=>some (.nx (!i))) λj=>if j then some 1 else qD (σ:=Bool) (xH (bR N c.size d f) λp=>if (!p) then some (.nx true) else xH (bC N c d) λt=>some (.nx (t != (-1)))) λx=>if x then some 4 else some 0
theorem xDm {p t x d} {f i h} {e} (hN:HN B e) (c:Bo B e (Pt 2 xC) f p) (z:Bo B e (Pt 2 xJ) i t) (j:Bo B e (Pt 2 vX) h x) (y:xM d):∀ r,rR N p t x d=some r->CG B e 84 #[f,i,h,xB d] (sI r):=by
 refine vW func84 [(0,f),(1,i),(2,h),(3,xB d)] hN λr=>?_;refine jo rfl (gL (vA (λA=>.st [(0,f),(2,h),(3,xB d),(21,.bool A)] []) ?_ (λ_=>?_)))
 ·
  refine iQ (jA 2 rfl (jB λC D=>(jk (λH=>sP aA (H.a c) (H.a z) C D) (jA 2 rfl (dZ 13 (λ_=>?_) (λ_=>?_))))))
  ·exact oD 8 rfl (jf ls)
  exact jo rfl (jN c (kZ c xC.f0 λ_ E=>aJ E λF=>jo rfl (jB λG I=>(jk (λH=>xPh aA F (H.a j) G I) (oD 2 rfl (jf ls))))))
 refine dA (xW ?_ ?_)
 ·refine xN (xT rfl ?_);exact qJ ⟨zD,lv⟩
 refine xLr (vA (λK=>.st [(35,.bool K)] []) ?_ (λ_=>?_))
 ·
  refine iQ (jo rfl (jN c (kZ c xC.f0 λ_ L=>aJ L λM=>jA 2 rfl (jB λO P=>(jk (λH=>xBp aA M (H.a j) y O P) (jA 2 rfl (dZ 30 (λ_=>?_) (λ_=>?_))))))))
  ·exact oD 5 rfl (jf ls)
  exact jA 2 rfl (jB λQ R=>(jk (λH=>sG aA (H.a c) (H.a j) Q R) λS=>oD 2 rfl (jf ls)))
 refine dA (xW ?_ ?_)
 ·refine xN (xT rfl ?_);exact qJ ⟨tY,lv⟩
 refine qG (xX rfl ?_);exact qJ ⟨xU,lv⟩
def rF (c:Int):Option (List Int):= qD (σ:=List Int) (qU (λd e=>xH (ap e ([(d:Int)])) λf=>some (.go f)) c.toNat 0 []) λh=>some h
theorem xIp {d} {j} (hN:HN B j) (h:xM d):∀ r,rF d=some r->CG B j 132 #[xB d] (.v λi=>.st (i) λD=>rl 1 xF 2 i r::D):=by
 refine vW func132 [(0,xB d)] hN λr=>?_;refine xK rfl (jR0 xF λA=>xI rfl (xA rfl (vA (λx=>.v λe=>.st [(3,e)] [rl 1 xF 2 e x]) ?_ (λ_ e=>?_))))
 ·
  refine zH ?_;refine jc (λp t=>.v λf=>.st [(4,xB (p:Int)),(0,xB d),(3,f)] [rl 1 xF 2 f t]) ⟨_,ls⟩ (λ_ t _ c f=>?_) (λ_ p _ c _=>?_)
  ·have y:=vJ c;refine xV (oD 3 rfl (zX y (xP ?_)));exact jf ⟨_,ls⟩
  refine xV (oD 3 rfl (kA (qW c) (oJ (yP (jA 2 rfl (iX (λH=>Eo.int (dL c h)) λ_=>jB λC z=>(js [1,0] rfl (jPL z λE=>zL 1 rfl (jo rfl (oE (vZ c h) ?_))))))))));refine xA rfl ?_;exact jg ⟨_,ls⟩
 refine oQ (qZ 2 rfl ?_);exact j1 (rt rfl) ⟨_,lv⟩
def nV (c:A6) (d:A7):Option (List (List Int)):= qD (σ:=List (List Int)) (qU (λj e=>xH (rF c.size) λf=>xH (ap e ([f])) λh=>some (.go h)) d.vars.toNat 0 []) λi=>some i
theorem xBe {t x} {d e} {f} (hN:HN B f) (y:Bo B f (Pt 2 xC) d t) (h:Bo B f (Pt 2 xJ) e x):∀ r,nV t x=some r->CG B f 85 #[d,e] (.v λp=>.st (p) λD=>rl 1 (zV 1 xF) 53 p r::D):=by
 refine vW func85 [(0,d),(1,e)] hN λr=>?_;refine xK rfl (jR0 (zV 1 xF) λP=>xI rfl (xA rfl (vA (λE=>.v λi=>.st [(5,i)] [rl 1 (zV 1 xF) 53 i E]) ?_ (λ_ i=>?_))))
 ·
  refine zH ?_;refine jc (λz A=>.v λj=>.st [(6,xB (z:Int)),(0,d),(1,e),(5,j)] [rl 1 (zV 1 xF) 53 j A]) ⟨_,ls⟩ (λ_ A _ c j=>?_) (λ_ z _ c _=>?_)
  ·have F:=vJ c;refine xV (jA 2 rfl (jN h (kZ h xJ.f0 λ_ G=>aJ G λ_=>xA rfl (zX F (xP ?_)))));exact jf ⟨_,ls⟩
  refine xV (jA 2 rfl (jN h (kZ h xJ.f0 λ_ I=>aJ I λC=>xA rfl (kA (qW c) (oJ ?_)))));have j2:=dL c C;refine yP (jA 2 rfl (jN y (kZ y xC.f0 λ_ K=>aJ K λL=>jB λM N=>(jk (λH=>xIp aA L M N) λ_=>jh (λH=>H.os) (tD (λH=>El.sl) λ_=>jB λQ O=>(js [1,0] rfl (jPL O λR=>zL 1 rfl (jo rfl ?_))))))));refine oE (vZ c C) (xA rfl ?_);exact jg ⟨_,ls⟩
 refine oQ (qZ 2 rfl ?_);exact j1 (rt rfl) ⟨_,lv⟩
def iN (c:Con) (d:List Int):Option Bool:= qD (σ:=Unit) (oM (λe (h:Int) s=>match s with | _=>qD (σ:=Unit) (qU (λf s=>match s with | _=>qD (σ:=Bool) (xH (ix c.scope (e:Int)) λi=>xH (ix c.scope (f:Int)) λj=>if (i==j) then xH (ix d (f:Int)) λp=>some (.nx (h != p)) else some (.nx false)) λt=>if t then some (.ret (.ret false)) else some (.go ())) (e:Int).toNat 0 ()) λ_=>some (.go ())) d 0 ()) λ_=>some true
theorem xAr {x y} {c d} {h} (hN:HN B h) (i:Bo B h (Pt 2 vH) c x) (j:Bo B h (Sl 1 xF) d y):∀ r,iN x y=some r->CG B h 195 #[c,d] (sB r):=by
 refine vW func195 [(0,c),(1,d)] hN λr=>?_;refine xI rfl (xA rfl (vA (λ_=>.st [] []) ?_ (λ_=>?_)))
 ·
  refine zH (jl (λf _=>.st [(5,xB (f:Int)),(0,c),(1,d)] []) ls (λ_ _ _ A=>?_) (λf S _ p C=>?_))
  ·have D:=oO A;exact xV (jA 2 rfl (jL j λ_=>xA rfl (zX D (xP (jf ls)))))
  refine xV (jA 2 rfl (jL j λz=>xA rfl (kA (xZ p) (oJ ?_))));have j1:=bV (Ae p) z;refine qH (xA rfl (vA (λ_=>.st [(0,c),(1,d),(5,xB (f:Int))] []) ?_ (λ_=>?_)))
  ·
   refine zH (jc (λt _=>.st [(6,xB (t:Int)),(0,c),(1,d),(5,xB (f:Int))] []) ls (λ_ _ _ e=>?_) (λ_ t _ e=>?_))
   ·have E:=vJ e;exact xV (oD 3 rfl (zX E (xP (jf ls))))
   refine xV (oD 3 rfl (kA (qW e) (oJ ?_)));have j2:=dL e j1;refine sJ (vA (λF=>.st [(0,c),(1,d),(5,xB (f:Int)),(6,xB (t:Int)),(43,.bool F)] []) ?_ (λ_=>?_))
   ·
    refine jQ (vY 1 rfl (jqN i (cA i vH.f1 λ_ G=>eN G λ_ H=>vY 1 rfl (jB λT I=>(gU H I λ_ K=>kN K λ_=>vY 1 rfl (jqN i (cA i vH.f1 λ_ L=>eN L λ_ M=>vY 1 rfl (jB λU N=>?_))))))));refine gU M N λ_ O=>kN O λ_=>vY 2 rfl (dZ 33 (λ_=>?_) (λ_=>?_))
    ·exact vY 2 rfl (gU j C λ_ P=>kN P λ_=>vY 2 rfl (jB λW Q=>(gU j Q λ_ R=>kN R λ_=>vY 2 rfl (lE (dA (jf ls))))))
    exact vY 10 rfl (lE (dA (jf ls)))
   refine dA (xW ?_ ?_)
   ·exact xN (qA 1 rfl (dB (zC (cV (xFw (dB (zC (cV (eT (qJ lv))))))))))
   exact qM (jo rfl (oE (vZ e j1) (xA rfl (jg ls))))
  exact aK (jo rfl (oE (qE p z) (xA rfl (jg ls))))
 exact oQ (xX rfl (qJ lv))
def dE (N:Nat) (h:A6) (e:Con) (i:List (List Int)) (j p:Int):Option Bool:= xH (ix h.rels e.rel) λt=>qD (σ:=Unit) (oM (λH (d:(List Int)) s=>match s with | _=>qD (σ:=Bool) (xH (ix d j) λx=>if (x==p) then xH (iN e d) λy=>some (.nx y) else some (.nx false)) λz=>qD (σ:=Bool×Int) (lF (λs=>match s with | (f,c)=>qD (σ:=Bool) (if (decide (c<(d.length:Int))) then some (.nx f) else some (.nx false)) λA=>if A then xH (ix e.scope c) λB=>xH (ix i B) λC=>xH (ix d c) λD=>xH (dR C D) λE=>xH (ck (c+1)) λF=>some (.go (E,F)) else some (.brk (f,c))) N (z,0)) λ(G,I)=>if G then some (.ret true) else some (.go ())) t.tuples 0 ()) λ_=>some false
theorem xFa {E F G c d} {A e f} {j} (hN:HN B j) (I:Bo B j (Pt 2 xC) A E) (p:Bo B j (Pt 2 vH) e F) (A2:Bo B j (Sl 1 (zV 1 xF)) f G) (ao:xM c) (aq:xM d):∀ r,dE N E F G c d=some r->CG B j 191 #[A,e,f,xB c,xB d] (sB r):=by
 refine vW func191 [(0,A),(1,e),(2,f),(3,xB c),(4,xB d)] hN λr=>?_;refine xR rfl (jQ (vY 1 rfl (jqN I (cA I xC.f1 λ_ h1=>eN h1 λ_ h2=>vY 1 rfl (jqN p (cA p vH.f0 λ_ Q=>kN Q λ_=>jB λz1 c1=>(gU h2 c1 λt h=>vY 1 rfl ?_)))))));refine lE (bX (xA rfl (vA (λ_=>.st [] []) ?_ (λ_=>?_))))
 ·
  refine zH (jl (λi _=>.st [(12,xB (i:Int)),(1,e),(2,f),(3,xB c),(4,xB d),(11,t)] []) ls (λ_ _ _ q1=>?_) (λi x5 _ z y1=>?_))
  ·have l1:=oO q1;exact xV (jA 2 rfl (jN h (kZ h oR.f1 λ_ h4=>aT h4 λ_ h5=>jL h5 λ_=>xA rfl (zX l1 (xP (jf ls))))))
  refine xV (jA 2 rfl (jN h (kZ h oR.f1 λ_ h6=>aT h6 λ_ h7=>jL h7 λK=>xA rfl (kA (xZ z) (oJ ?_)))));have j1:=bV (Ae z) K;refine qH (jo rfl (jN h (kZ h oR.f1 λ_ h8=>aT h8 λ_ h9=>jo rfl (jI h9 y1 λ_ R=>aT R λC x=>xR rfl (vA (λL=>.st [(1,e),(2,f),(3,xB c),(4,xB d),(11,t),(12,xB (i:Int)),(13,C),(14,.bool L)] []) ?_ (λL=>?_))))))
  ·
   refine iQ (jA 2 rfl (jB λz2 c2=>(jI x c2 λ_ S=>aJ S λ_=>jA 3 rfl (dZ 47 (λ_=>?_) (λ_=>?_)))))
   ·exact jA 2 rfl (jB λz3 c3=>(jk (λH=>xAr aA (H.a p) (H.a x) z3 c3) (oD 2 rfl (jf ls))))
   exact oD 5 rfl (jf ls)
  refine bX (xA rfl (vA (λ(M,O)=>.fa (xM O) <| .st [(1,e),(2,f),(3,xB c),(4,xB d),(11,t),(12,xB (i:Int)),(14,.bool M)] []) ?_ (λ(M,O) _=>?_)))
  ·
   refine zH ?_;refine jw (λ(D,y)=>.fa (xM y) <| .st [(1,e),(2,f),(3,xB c),(4,xB d),(11,t),(12,xB (i:Int)),(13,C),(14,.bool D),(15,xB y)] []) ⟨xU,ls⟩ (λ_ (D,y) i2=>?_);refine xSf (vA (λs6=>.st [(1,e),(2,f),(3,xB c),(4,xB d),(11,t),(12,xB (i:Int)),(13,C),(14,.bool D),(15,xB y),(58,.bool s6)] []) ?_ (λ_=>?_))
   ·
    refine iQ (jA 2 rfl (jL x λ_=>jA 2 rfl (dZ 56 (λ_=>?_) (λ_=>?_))))
    ·exact oD 2 rfl (jf ls)
    exact oD 2 rfl (jf ls)
   refine dA (xW ?_ ?_)
   ·refine xZd (jQ (vY 2 rfl (jqN p (cA p vH.f1 λ_ T=>eN T λ_ U=>vY 1 rfl (jB λz4 c4=>(gU U c4 λ_ W=>kN W λ_=>jB λz5 c5=>(gU A2 c5 λ_ X=>eN X λ_ Y=>vY 2 rfl (jB λz6 c6=>?_))))))));refine gU x c6 λ_ Z=>kN Z λi3=>jB λz7 c7=>(jqk (λH=>rJ aA (H.a Y) i3 z7 c7) (vY 1 rfl (lE (aK (jo rfl (jB λz8 P=>(kE P (xA rfl ?_))))))));exact jg ⟨(zI P),ls⟩
   refine mK (jbk (wI ?_));exact jf ⟨i2,ls⟩
  refine oQ (xA rfl (xW ?_ ?_))
  ·exact xN (qA 1 rfl (dB (zC (cV (eT (qJ lv))))))
  exact qM (jo rfl (oE (qE z K) (xA rfl (jg ls))))
 exact oQ (xX rfl (qJ lv))
def dH (e:List Int) (f:Int):Option (List Int):= qD (σ:=List Int) (oM (λj (c:Int) d=>if (c != f) then xH (ap d ([c])) λh=>some (.go h) else some (.go d)) e 0 []) λi=>some i
theorem xFv {x c} {d} {i} (hN:HN B i) (e:Bo B i (Sl 1 xF) d x) (N:xM c):∀ r,dH x c=some r->CG B i 192 #[d,xB c] (.v λt=>.st (t) λD=>rl 1 xF 2 t r::D):=by
 refine vW func192 [(0,d),(1,xB c)] hN λr=>?_;refine xK rfl (jR0 xF λO=>xI rfl (xA rfl (vA (λE=>.v λj=>.st [(5,j)] [rl 1 xF 2 j E]) ?_ (λ_ j=>?_))))
 ·
  refine zH ?_;refine jl (λy p=>.v λf=>.st [(6,xB (y:Int)),(0,d),(1,xB c),(5,f)] [rl 1 xF 2 f p]) ⟨_,ls⟩ (λ_ p _ F f=>?_) (λy P p h z f=>?_)
  ·have G:=oO F;refine xV (jA 2 rfl (jL e λ_=>xA rfl (zX G (xP ?_))));exact jf ⟨_,ls⟩
  refine xV (jA 2 rfl (jL e λA=>xA rfl (kA (xZ h) (oJ ?_))));have j2:=bV (Ae h) A;have C:=qE h A;refine qH (jA 2 rfl (jI e z λ_ I=>aJ I λ_=>oD 2 rfl (xW ?_ ?_)))
  ·refine iQ (jA 3 rfl (jI e z λ_ K=>aJ K λL=>iX (λH=>Eo.int L) λ_=>jB λQ M=>(js [1,0] rfl (jPL M λR=>zL 1 rfl (jo rfl (oE C (xA rfl ?_)))))));exact jg ⟨_,ls⟩
  refine qM (jo rfl (oE C (xA rfl ?_)));exact jg ⟨_,ls⟩
 refine oQ (qZ 2 rfl ?_);exact j1 (rt rfl) ⟨_,lv⟩
def fK (N:Nat) (O:A6) (P:A7) (e:List (List Int)) (t:Bool):Option ((List B1)×(List (List Int))):= qD (σ:=Int) (lF (λf=>qD (σ:=Bool) (if (decide (f<(e.length:Int))) then some (.nx t) else some (.nx false)) λC=>if C then xH (ix e f) λQ=>if ((Q.length:Int)==0) then some (.ret ([],e)) else xH (ck (f+1)) λR=>some (.go R) else some (.brk f)) N 0) λs2=>qD (σ:=(List B1)×Int×(List (List Int))) (lF (λs=>match s with | (h,x,y)=>if (x != (h.length:Int)) then qD (σ:=(List B1)×(List (List Int))) (oM (λS (z:Con) s=>match s with | (T,U)=>qD (σ:=(List B1)×(List (List Int))) (oM (λW (c:Int) s=>match s with | (X,A)=>xH (ix A c) λY=>xH (kF Y) λZ=>qD (σ:=(List B1)×(List (List Int))) (oM (λk3 (i:Int) s=>match s with | (p,d)=>xH (dE N O z d (W:Int) i) λz5=>if (!z5) then xH (ix d c) λz6=>xH (dH z6 i) λj=>xH (ap p ([(B1.mk c i (S:Int))])) λB=>qD (σ:=Bool) (if t then xH (ix (d.set (c).toNat j) c) λz9=>some (.nx ((z9.length:Int)==0)) else some (.nx false)) λD=>if D then some (.ret (.ret (.ret (.ret (B,(d.set (c).toNat j)))))) else some (.go (B,(d.set (c).toNat j))) else some (.go (p,d))) Z 0 (X,A)) λ(E,F)=>some (.go (E,F))) z.scope 0 (T,U)) λ(G,H)=>some (.go (G,H))) P.cons 0 (h,y)) λ(I,K)=>some (.go (I,(h.length:Int),K)) else some (.brk (h,x,y))) N ([],(-1),e)) λ(L,a3,M)=>some (L,M)
theorem xCy {x0:A6} {x1:A7} {z:List (List Int)} {d:Bool} (r:(List B1)×(List (List Int))) (hR:fK N x0 x1 z d=some r) {f:Vl} {h:Vl} {c:Vl} {X0:List Nat} (j:Wd) (hN:HN B j) (S0:Sep X0 B j j [rw N0 1 (zV 1 xF) 53 c z]) (A0:Bo B j (Pt 2 xC) f x0) (x:Bo B j (Pt 2 xJ) h x1):Calls prog 133 #[f,h,c,.bool d] j (Gt B j X0 (.v λa8=>.st (a8) λD=>rl 3 xS 89 a8 r.1::rw N0 1 (zV 1 xF) 53 c r.2::D)):=by
 unfold fK at hR
 revert r
 refine jin func133 [(0,f),(1,h),(2,c),(3,.bool d)] S0 λr=>?_;refine xN (xK rfl (jR0 xS λy=>xI rfl (xA rfl (vA (λs1=>.fa (xM s1) <| .st [(0,f),(1,h),(2,c),(3,.bool d),(9,y)] [rl 3 xS 89 y ([]),rw N0 1 (zV 1 xF) 53 c z]) ?_ (λ_ _=>?_)))))
 ·
  refine zH ?_;refine jw (λF=>.fa (xM F) <| .st [(0,f),(1,h),(2,c),(3,.bool d),(9,y),(10,xB F)] [rl 3 xS 89 y ([]),rw N0 1 (zV 1 xF) 53 c z]) ⟨xU,ls⟩ λ_ F i1=>xSf (vA (λb0=>.st [(0,f),(1,h),(2,c),(3,.bool d),(9,y),(10,xB F),(25,.bool b0)] [rl 3 xS 89 y ([]),rw N0 1 (zV 1 xF) 53 c z]) ?_ (λ_=>?_))
  ·
   refine iQ (jA 2 rfl (nO (λH=>H.r 1 rfl) λ_=>jA 2 rfl (dZ 23 (λ_=>?_) (λ_=>?_))))
   ·exact oD 2 rfl (jf ls)
   exact oD 2 rfl (jf ls)
  refine dA (xW ?_ ?_)
  ·
   refine mB (jA 2 rfl (jB λz1 c1=>(js [1,0] rfl (cM λ_ _ _ _ g1 _ a9 _=>(jI g1.rd c1 λ_ h1=>aT h1 λ_ h2=>jL h2 λ_=>xA rfl (xW ?_ ?_))))))
   ·refine xN (qA 2 rfl (dB (zC (cV (eT (kY a9 (js [1,0] rfl ?_)))))));exact j1 (rt rfl) ⟨_,lv⟩
   refine qM (jo rfl (jB λz2 c2=>(kE c2 (xA rfl (kY a9 (js [1,0] rfl ?_))))));exact jg ⟨(zI c2),ls⟩
  refine mK (jbk (wI ?_));exact jf ⟨i1,ls⟩
 refine bX (xA rfl (vA (λ(s3,s4,s5)=>.v λZ=>.fa (xM s4) <| .st [(2,c),(9,Z)] [rl 3 xS 89 Z s3,rw N0 1 (zV 1 xF) 53 c s5]) ?_ (λ(s3,s4,s5) Z _=>?_)))
 ·
  refine zH ?_;refine jw (λ(i,s7,s8)=>.v λv5=>.fa (xM s7) <| .st [(0,f),(1,h),(2,c),(3,.bool d),(9,v5),(11,xB s7)] [rl 3 xS 89 v5 i,rw N0 1 (zV 1 xF) 53 c s8]) ⟨_,kV,ls⟩ (λ_ (i,s7,s8) v5 i2=>?_);refine xV (jA 2 rfl (nO (λH=>H.l 0 rfl) λ_=>xA rfl (xW ?_ ?_)))
  ·
   refine xCs (jo rfl (nO (λH=>H.l 0 rfl) λi3=>xK rfl (xA rfl (vA (λ(s9,aa)=>.v λv6=>.st [(0,f),(1,h),(2,c),(3,.bool d),(9,v6),(11,xB (i.length:Int))] [rl 3 xS 89 v6 s9,rw N0 1 (zV 1 xF) 53 c aa]) ?_ (λ(s9,aa) v6=>?_)))))
   ·
    refine zH ?_;refine jl (λp (L,M)=>.v λG=>.st [(12,xB (p:Int)),(0,f),(1,h),(2,c),(3,.bool d),(9,G),(11,xB (i.length:Int))] [rl 3 xS 89 G L,rw N0 1 (zV 1 xF) 53 c M]) ⟨_,ls⟩ (λ_ (L,M) _ q1 G=>?_) (λp x4 (L,M) O y1 G=>?_)
    ·have l1:=oO q1;refine xV (jA 2 rfl (jN x (kZ x xJ.f1 λ_ h3=>aT h3 λ_ h4=>jL h4 λ_=>xA rfl (zX l1 (xP ?_)))));exact jf ⟨_,ls⟩
    refine xV (jA 2 rfl (jN x (kZ x xJ.f1 λ_ h5=>aT h5 λ_ h6=>jL h6 λi4=>xA rfl (kA (xZ O) (oJ (qH (jo rfl (jN x (kZ x xJ.f1 λ_ h7=>aT h7 (λ_ h8=>?_))))))))));refine jo rfl (jI h8 y1 λI t=>xK rfl (xA rfl (vA (λ(ab,ac)=>.v λv8=>.st [(0,f),(1,h),(2,c),(3,.bool d),(9,v8),(11,xB (i.length:Int)),(12,xB (p:Int))] [rl 3 xS 89 v8 ab,rw N0 1 (zV 1 xF) 53 c ac]) ?_ (λ(ab,ac) v8=>?_))))
    ·
     refine zH ?_;refine jl (λA (P,Q)=>.v λK=>.st [(14,xB (A:Int)),(0,f),(1,h),(2,c),(3,.bool d),(9,K),(11,xB (i.length:Int)),(12,xB (p:Int)),(13,I)] [rl 3 xS 89 K P,rw N0 1 (zV 1 xF) 53 c Q]) ⟨_,ls⟩ (λ_ (P,Q) _ q2 K=>?_) (λA x5 (P,Q) R y2 K=>?_)
     ·have l2:=oO q2;refine xV (jA 2 rfl (jN t (kZ t vH.f1 λ_ b1=>aT b1 λ_ b2=>jL b2 λ_=>xA rfl (zX l2 (xP ?_)))));exact jf ⟨_,ls⟩
     refine xV (jA 2 rfl (jN t (kZ t vH.f1 λ_ b3=>aT b3 λ_ b4=>jL b4 λi5=>xA rfl (kA (xZ R) (oJ (qH (jo rfl (jN t (kZ t vH.f1 λ_ b5=>aT b5 (λ_ b6=>?_))))))))));refine jo rfl (jI b6 y2 λ_ b7=>aJ b7 λi6=>xK rfl (jA 2 rfl (jB λz3 c3=>(js [1,0] rfl (cM λ_ _ _ _ g2 _ b8 _=>(jI g2.rd c3 λ_ b9=>aT b9 λ_ ba=>jB λz4 c4=>(jk (λH=>dP aA (H.a ba) z4 c4) λS=>xK rfl ?_)))))));refine xA rfl (kY b8 (vA (λ(ad,ae)=>.v λT=>.st [(0,f),(1,h),(2,c),(3,.bool d),(9,T),(11,xB (i.length:Int)),(12,xB (p:Int)),(13,I),(14,xB (A:Int))] [rw N0 1 (zV 1 xF) 53 c ae,rl 3 xS 89 T ad]) ?_ (λ(ad,ae) T=>?_)))
     ·
      refine zH ?_;refine jl (λk3 (U,C)=>.v λE=>.st [(17,xB (k3:Int)),(0,f),(1,h),(2,c),(3,.bool d),(9,E),(11,xB (i.length:Int)),(12,xB (p:Int)),(13,I),(14,xB (A:Int)),(15,xB x5),(16,S)] [rw N0 1 (zV 1 xF) 53 c C,rl 1 xF 2 S z4,rl 3 xS 89 E U]) ⟨_,ls⟩ (λ_ (U,C) _ q3 E=>?_) (λk3 x6 (U,C) W y3 E=>?_)
      ·have l3:=oO q3;refine xV (jA 2 rfl (nO (λH=>H.l 1 rfl) λ_=>xA rfl (zX l3 (xP (js [0,2] rfl ?_)))));exact jf ⟨_,ls⟩
      refine xV (jA 2 rfl (nO (λH=>H.l 1 rfl) λi7=>xA rfl (kA (xZ W) (oJ ?_))));have j2:=bV (Ae W) i7;have m1:=qE W i7;refine qH (jA 6 rfl (js [1,0,2] rfl (cM λw1 X1 N1 _ g3 e1 X _=>?_)));have Y:=g3.ld;refine jI Y y3 λ_ bb=>aJ bb λi8=>jB λz5 c5=>(jk (λH=>xFa aA (H.a (e1 A0)) (H.a (e1 t)) (H.r 0 rfl) (bV (Ae R) i5) i8 z5 c5) (xA rfl (xW ?_ ?_)))
      ·
       refine a_s (jB λz6 c6=>(jB λz7 c7=>(cM λ_ _ _ bc g4 _ af _=>(jD (zG [0,1,2,3] rfl (nM 4 rfl g4.rd c6 λ_ bd=>rB 5 rfl bd λ_ be=>zG [6,7] rfl (nM 8 rfl Y y3 λ_ bf=>aY (s:=λH w l=>(bc.trans (Sm.mono (H.v w l) af.2.2))) 9 rfl bf λi9=>jE 10 rfl (jk (λH=>xFv aA (H.a be) i9 z7 c7) λ_=>qT (jF9 11 rfl ?_)))))))));refine kY af (jRi 0 c6 λ_ bg=>aI (jF9 12 rfl (jSc (hone:=(λH=>(H.l 1 rfl).one)) bg (cI c6) n0 (λH=>λe q=>(Eo.sl q.ld)) rfl (aI (gV (oQ (jA 4 rfl (jI Y y3 λ_ bh=>aJ bh λbj=>jo rfl (qC e5 ?_)))))))));refine iX (λH=>Eo.agg (xS.m i6 bj (bV (Ae O) i4))) λ_=>jB λz8 c8=>(js [2,0,1] rfl (jPL c8 λag=>xR rfl (vA (λbm=>.st [(0,f),(1,h),(2,c),(3,.bool d),(9,ag),(11,xB (i.length:Int)),(12,xB (p:Int)),(13,I),(14,xB (A:Int)),(15,xB x5),(16,S),(17,xB (k3:Int)),(123,.bool bm)] [rl 3 xS 89 ag z8,rw N0 1 (zV 1 xF) 53 c (C.set (x5).toNat z7)]) ?_ (λ_=>?_))))
       ·
        refine iQ (jA 2 rfl (dZ 116 (λ_=>?_) (λ_=>?_)))
        ·exact jA 2 rfl (jB λz9 c9=>(js [1,0] rfl (cM λ_ _ _ _ g5 _ bn _=>(jI g5.rd c9 λ_ bp=>aT bp λ_ br=>jL br λ_=>oD 2 rfl (kY bn (js [1,0] rfl (jf ls)))))))
        exact oD 7 rfl (jf ls)
       refine dA (xW ?_ ?_)
       ·refine xN (qA 2 rfl (dB (zC (cV (xFw (dB (zC (cV (xFw (dB (zC (cV (zC ?_)))))))))))));refine dB (zC (cV (eT (kY X (js [1,2] rfl ?_)))));exact j1 (rt rfl) ⟨_,lv⟩
       refine qM (jo rfl (oE m1 (xA rfl (kY X (js [2,0,1] rfl ?_)))));exact jg ⟨_,ls⟩
      refine qM (jo rfl (oE m1 (xA rfl (kY X (js [1,0,2] rfl ?_)))));exact jg ⟨_,ls⟩
     refine aK (jo rfl (oE (qE R i5) (xA rfl (js [1,0] rfl ?_))));exact jg ⟨_,ls⟩
    refine aK (jo rfl (oE (qE O i4) (xA rfl ?_)));exact jg ⟨_,ls⟩
   refine oBg ?_;exact jg ⟨_,i3,ls⟩
  refine mK (jbk (wI ?_));exact jf ⟨_,i2,ls⟩
 refine oQ (qZ 2 rfl ?_);exact j1 (rt rfl) ⟨_,lv⟩
def lS (N:Nat) (d:A6) (e:A7) (f:List (List Int)):Option ((List B1)×(List (List Int))):= xH (fK N d e f false) λc=>some (c.1,c.2)
theorem xBx {i:A6} {j:A7} {p:List (List Int)} (r:(List B1)×(List (List Int))) (x:lS N i j p=some r) {e:Vl} {f:Vl} {d:Vl} {t:List Nat} (c:Wd) (hN:HN B c) (y:Sep t B c c [rw N0 1 (zV 1 xF) 53 d p]) (z:Bo B c (Pt 2 xC) e i) (A:Bo B c (Pt 2 xJ) f j):Calls prog 86 #[e,f,d] c (Gt B c t (.v λh=>.st (h) λD=>rl 3 xS 89 h r.1::rw N0 1 (zV 1 xF) 53 d r.2::D)):=by
 unfold lS at x
 revert r
 refine jin func86 [(0,e),(1,f),(2,d)] y λr=>?_;refine xN (xK rfl (jA 3 rfl (jB λC E=>(jko 1 (λF H=>xCy C E _ H.hN F (H.u z) (H.u A)) λG=>xX rfl ?_))));exact j1 (rt rfl) ⟨_,lv⟩
def pF (c:List (List Int)):Option Bool:= qD (σ:=Unit) (oM (λe (d:(List Int)) s=>match s with | _=>if ((d.length:Int)==0) then some (.ret true) else some (.go ())) c 0 ()) λ_=>some false
theorem xBv {h} {c} {e} (hN:HN B e) (f:Bo B e (Sl 1 (zV 1 xF)) c h):∀ r,pF h=some r->CG B e 87 #[c] (sB r):=by
 refine vW func87 [(0,c)] hN λr=>?_;refine xI rfl (xA rfl (vA (λ_=>.st [] []) ?_ (λ_=>?_)))
 ·
  refine zH (jl (λi _=>.st [(3,xB (i:Int)),(0,c)] []) ls (λ_ _ _ p=>?_) (λi _ _ d t=>?_))
  ·have x:=oO p;exact xV (jA 2 rfl (jL f λ_=>xA rfl (zX x (xP (jf ls)))))
  refine xV (jA 2 rfl (jL f λj=>xA rfl (kA (xZ d) (oJ ?_))));have j1:=bV (Ae d) j;refine qH (jA 2 rfl (jI f t λ_ y=>aT y λ_ z=>jL z λ_=>xA rfl (xW ?_ ?_)))
  ·exact xN (qA 1 rfl (dB (zC (cV (eT (qJ lv))))))
  exact qM (jo rfl (oE (qE d j) (xA rfl (jg ls))))
 exact oQ (xX rfl (qJ lv))
def lP (d:Int) (e:Op) (c:List Int):Option Int:= xH (ix c 0) λf=>qD (σ:=Int) (qU (λh i=>xH (ix c (1+(h:Int))) λj=>xH (vE d e ([i,j])) λp=>some (.go p)) ((c.length:Int) - 1).toNat 0 f) λt=>some t
theorem xKi {d t x} {f h} {i} (hN:HN B i) (C:xM d) (E:Bo B i (Pt 2 vX) f t) (j:Bo B i (Sl 1 xF) h x):∀ r,lP d t x=some r->CG B i 88 #[xB d,f,h] (sI r):=by
 refine vW func88 [(0,xB d),(1,f),(2,h)] hN λr=>?_;refine xK rfl (jo rfl (jB λT F=>(jI j F λ_ G=>aJ G λI=>xI rfl (xA rfl (vA (λy=>.fa (xM y) <| .st [(7,xB y)] []) ?_ (λ_ K=>?_))))))
 ·
  refine zH ?_;refine jc (λz e=>.fa (xM e) <| .st [(8,xB (1+(z:Int))),(0,xB d),(1,f),(2,h),(7,xB e)] []) ⟨I,ls⟩ (λ_ e _ c p=>?_) (λ_ z e c p=>?_)
  ·have L:=yF c;refine xV (jA 2 rfl (jL j λ_=>xA rfl (zX L (xP ?_))));exact jf ⟨p,ls⟩
  refine xV (jA 2 rfl (jL j λA=>xA rfl (kA (tG c) (oJ ?_))));have j1:=xWn c zD A;have M:=xHr c zD A;refine yP (jA 5 rfl (jB λN O=>(jI j O λ_ P=>aJ P (λQ=>?_))));refine jRI [e,N] (by simp only[Al,Aq,Aw,implies_true,and_true];exact⟨p,Q⟩) λ_=>jB λR S=>(jk (λH=>aD aA C (H.a E) (H.l 0 rfl) R S) λD=>zL 1 rfl (jo rfl (xDv M (xA rfl (js [] rfl ?_)))));exact jg ⟨D,ls⟩
 refine oQ (qZ 2 rfl ?_);exact qJ ⟨K,lv⟩
end
section
open Go.Proofs.Tryz
set_option maxHeartbeats 1000000
set_option maxRecDepth 100000
open Go.RowKit
variable {B:Nat->Prop} {N:Nat}
def cZ (N:Nat) (c:A6) (d:A7) (e:Op):Option (A9×Int):= xH (rR N (A6.mk c.size c.rels) (A7.mk d.vars d.cons) (Op.mk e.arity e.table) 6) λh=>if (h != 0) then some ((A9.mk 0 ([]) ([]) ([]) ([])),h) else xH (nV (A6.mk c.size c.rels) (A7.mk d.vars d.cons)) λi=>xH (lS N (A6.mk c.size c.rels) (A7.mk d.vars d.cons) i) λf=>xH (pF f.2) λj=>if j then some ((A9.mk 1 ([]) f.1 ([]) ([])),0) else qD (σ:=List Int) (oM (λA p t=>xH (lP c.size (Op.mk e.arity e.table) p) λx=>xH (ap t ([x])) λy=>some (.go y)) f.2 0 []) λz=>some ((A9.mk 0 z ([]) ([]) ([])),0)
theorem uQ {K L i} {j p t} {c} (hN:HN B c) (A0:Bo B c (qR 2 xC) j K) (A1:Bo B c (qR 2 xJ) p L) (A2:Bo B c (qR 2 vX) t i):∀ r,cZ N K L i=some r->CG B c 54 #[j,p,t] (.v λF=>.v λG=>.fa (xM r.1.kind) <| .fa (xM r.2) <| .st (.tuple #[.agg #[xB r.1.kind,F,G,aB,aB],xB r.2]) λD=>rl 1 xF 2 F r.1.values::rl 3 xS 89 G r.1.arcs::D):=by
 refine vW func54 [(0,j),(1,p),(2,t)] hN λr=>?_;obtain⟨v3,rfl,d,x⟩:=xC.o A0;refine jX e2 (λb1=>?_);obtain⟨ar,rfl,y,z⟩:=xJ.o A1;refine jX e2 (λ_=>?_);obtain⟨v4,rfl,M,O⟩:=vX.o A2;refine jX e2 λP=>aM rfl λe=>xI rfl (jB λz1 c1=>(jk (λH=>xDm aA (xC.b (H.g 3 rfl).bk d (H.a x)) (xJ.b (H.g 2 rfl).bk y (H.a z)) (vX.b (H.g 1 rfl).bk M (H.a O)) sM z1 c1) λa0=>xK rfl (oD 2 rfl (xW ?_ ?_))))
 ·refine xN (qC e5 (jo rfl (kG e3 (xT rfl ?_))));exact mA (λH=>((H.nl 1 xF 2).nl 3 xS 89).s [1,0] rfl rfl) (cN 0 e2) (rt rfl) ⟨_,_,xU,a0,lv⟩
 refine qG (jB λz2 c2=>(jk (λH=>xBe aA (xC.b (H.g 3 rfl).bk d (H.a x)) (xJ.b (H.g 2 rfl).bk y (H.a z)) z2 c2) λQ=>xK rfl (jo rfl (js [4,3,0,1,2] rfl (jh (λH=>H.mg) (cM λw1 X1 N1 _ R A I _=>?_))))));have S:=R.l.bk;have K2:=R.r.bk;refine jB λT c3=>(jh (λH=>H.lw) (jko 1 (λK3 H=>xBx T c3 _ H.hN K3 (xC.b (S.to H.sm) d (H.u (A x))) (xJ.b (K2.to H.sm) y (H.u (A z)))) λv6=>xI rfl (jo rfl (jB λz4 c4=>(jk (λH=>xBv aA (H.r 1 rfl) z4 c4) (aI (xW ?_ ?_)))))))
 ·refine xN (jo rfl ?_);refine qC (hone:=(λH=>oc rfl (oc (H.l 0 rfl).one on))) e5 (js [2,0,1,3] rfl ?_);refine kG (hv:=(λH=>oc rfl (oc rfl (oc (H.l 1 rfl).one (oc rfl (oc rfl on)))))) e3 (xT rfl (kY I (jh (λH=>H.um) ?_)));exact mA (λH=>(H.nl 1 xF 2).s [0,4] rfl rfl) (cN 2 e2) (rt rfl) ⟨_,_,zD,xU,lv⟩
 refine qG (qC e5 (aM rfl λf=>kG e3 (cY (xA rfl ?_))));refine vA (λs1=>.v λC=>.st [(6,oU e),(11,oU f)] [rl 1 xF 2 C s1,bx f [xB 0,C,aB,aB,aB] 57,bx e [xB 0,aB,aB,aB,aB] 57]) ?_ (λ_ C=>?_)
 ·
  refine zH (jh (λH=>H.nl 1 xF 2) (js [0,1,3,4,5] rfl ?_));refine jl (λU W=>.v λE=>.st [(12,xB (U:Int)),(3,oU b1),(5,oU P),(6,oU e),(9,Q),(11,oU f)] [rl 1 xF 2 E W,bx f [xB 0,E,aB,aB,aB] 57,rw N0 1 (zV 1 xF) 53 Q T.2,bx e [xB 0,aB,aB,aB,aB] 57,bx P [xB i.arity,v4] 104]) ⟨_,ls⟩ (λ_ W _ q1 E=>?_) (λU _ _ h y1 _=>?_)
  ·have l1:=oO q1;refine xV (jA 2 rfl (nO (λH=>H.r 2 rfl) λ_=>xA rfl (zX l1 (xP (js [0,1,3] rfl ?_)))));exact jf ⟨_,ls⟩
  refine xV (jA 2 rfl (nO (λH=>H.r 2 rfl) λX=>xA rfl (kA (xZ h) (oJ ?_))));have j1:=bV (Ae h) X;refine zH (jB λz5 c5=>(jB λz6 c6=>(js [1,2,0,3,4] rfl (jh (λH=>H.mg) (cM λ_ _ _ _ Y Z a1 _=>(jD (kJ 0 rfl e2 (gH 1 rfl Y.l.bk e2 (kJ 2 rfl e2 (gH 3 rfl (S.lf Z) e2 (zG [4,5] rfl (nM 6 rfl Y.r.rd y1 λ_ h4=>rB 7 rfl h4 λ_ h5=>jE 8 rfl ?_))))))))))));refine jk (λH=>xKi aA d (vX.b (H.g 2 rfl).bk M (H.a (Z (A O)))) (H.a h5) z5 c5) λa2=>qT (jE 9 rfl (iX (λH=>Eo.int a2) λ_=>qT (jF9 10 rfl (js [1,0,2,3] rfl (jPL c6 λv9=>aI (jF9 11 rfl (oH e2 (aI (jF9 12 rfl (kY a1 (jh (λH=>H.um) ?_)))))))))));refine jW (hv:=(λH=>(H.l 2 rfl).one)) e3 (aI (gV (aK (jo rfl (oE (qE h X) (xA rfl (js [2,0,1,3,4] rfl ?_)))))));exact jg ⟨_,ls⟩
 refine oQ (aH 1 e3 (js [2,0,1] rfl ?_));refine kG (hv:=(λH=>oc rfl (oc (H.l 1 rfl).one (oc rfl (oc rfl (oc rfl on)))))) e3 (xX rfl (kY I (jh (λH=>H.um) ?_)));exact mA (λH=>(H.nl 3 xS 89).s [4,0] rfl rfl) (cN 2 e2) (rt rfl) ⟨_,_,xU,xU,lv⟩
def iG (x:A6) (c:Con) (h d y i:Int):Option Bool:= qD (σ:=Bool) (xH (dR c.scope h) λt=>if (!t) then xH (dR c.scope d) λz=>some (.nx (!z)) else some (.nx false)) λA=>if A then some true else xH (ix x.rels c.rel) λB=>qD (σ:=Unit) (oM (λH (e:(List Int)) s=>match s with | _=>xH (iN c e) λC=>qD (σ:=Bool) (oM (λj (f:Int) D=>qD (σ:=Bool) (if (f==h) then xH (ix e (j:Int)) λp=>if (p != y) then some (.nx true) else if (f==d) then some (.nx (p != i)) else some (.nx false) else if (f==d) then xH (ix e (j:Int)) λE=>some (.nx (E != i)) else some (.nx false)) λF=>if F then some (.go false) else some (.go D)) c.scope 0 C) λG=>if G then some (.ret true) else some (.go ())) B.tuples 0 ()) λ_=>some false
theorem xIw {G I e f h i} {t j} {x} (hN:HN B x) (K:Bo B x (Pt 2 xC) t G) (c:Bo B x (Pt 2 vH) j I) (P:xM e) (Q:xM f) (bh:xM h) (bj:xM i):∀ r,iG G I e f h i=some r->CG B x 135 #[t,j,xB e,xB f,xB h,xB i] (sB r):=by
 refine vW func135 [(0,t),(1,j),(2,xB e),(3,xB f),(4,xB h),(5,xB i)] hN λr=>?_;refine jo rfl (gL (vA (λs1=>.st [(0,t),(1,j),(2,xB e),(3,xB f),(4,xB h),(5,xB i),(32,.bool s1)] []) ?_ (λ_=>?_)))
 ·
  refine iQ (jo rfl (jN c (kZ c vH.f1 λ_ h1=>aT h1 λ_ h2=>jo rfl (jB λR c1=>(jk (λH=>rJ aA (H.a h2) P R c1) (jA 2 rfl (dZ 24 (λ_=>?_) (λ_=>?_))))))))
  ·exact jo rfl (jN c (kZ c vH.f1 λ_ h3=>aT h3 λ_ h4=>jo rfl (jB λz1 c2=>(jk (λH=>rJ aA (H.a h4) Q z1 c2) (oD 2 rfl (jf ls))))))
  exact oD 8 rfl (jf ls)
 refine dA (xW ?_ ?_)
 ·exact xN (xT rfl (qJ lv))
 refine oJ (jQ (vY 1 rfl (jqN K (cA K xC.f1 λ_ h5=>eN h5 λ_ h6=>vY 1 rfl (jqN c (cA c vH.f0 λ_ h7=>kN h7 λ_=>jB λz2 c3=>(gU h6 c3 λy d=>vY 1 rfl (lE (bX ?_)))))))));refine xA rfl (vA (λ_=>.st [] []) ?_ (λ_=>?_))
 ·
  refine zH (jl (λp _=>.st [(14,xB (p:Int)),(1,j),(2,xB e),(3,xB f),(4,xB h),(5,xB i),(13,y)] []) ls (λ_ _ _ q1=>?_) (λp _ _ C z=>?_))
  ·have l1:=oO q1;exact xV (jA 2 rfl (jN d (kZ d oR.f1 λ_ h9=>aT h9 λ_ S=>jL S λ_=>xA rfl (zX l1 (xP (jf ls))))))
  refine xV (jA 2 rfl (jN d (kZ d oR.f1 λ_ T=>aT T λ_ U=>jL U λL=>xA rfl (kA (xZ C) (oJ ?_)))));have j1:=bV (Ae C) L;refine qH (jA 2 rfl (jN d (kZ d oR.f1 λ_ W=>aT W λ_ X=>jo rfl (jI X z λ_ Y=>aT Y λ_ Z=>jB λz3 c4=>(jk (λH=>xAr aA (H.a c) (H.a Z) z3 c4) (xI rfl (xA rfl (vA (λs2=>.st [(1,j),(2,xB e),(3,xB f),(4,xB h),(5,xB i),(13,y),(14,xB (p:Int)),(15,.bool s2)] []) ?_ (λ_=>?_)))))))))
  ·
   refine zH (jl (λE A=>.st [(16,xB (E:Int)),(1,j),(2,xB e),(3,xB f),(4,xB h),(5,xB i),(13,y),(14,xB (p:Int)),(15,.bool A)] []) ls (λ_ A _ q2=>?_) (λE x6 A D F=>?_))
   ·have l2:=oO q2;exact xV (jA 2 rfl (jN c (kZ c vH.f1 λ_ a0=>aT a0 λ_ a1=>jL a1 λ_=>xA rfl (zX l2 (xP (jf ls))))))
   refine xV (jA 2 rfl (jN c (kZ c vH.f1 λ_ a2=>aT a2 λ_ a3=>jL a3 λM=>xA rfl (kA (xZ D) (oJ ?_)))));have j2:=bV (Ae D) M;have N:=qE D M;refine sJ (vA (λs4=>.st [(1,j),(2,xB e),(3,xB f),(4,xB h),(5,xB i),(13,y),(14,xB (p:Int)),(15,.bool A),(16,xB (E:Int)),(116,.bool s4)] []) ?_ (λ_=>?_))
   ·
    refine iQ (jo rfl (jN c (kZ c vH.f1 λ_ a4=>aT a4 λ_ a5=>jo rfl (jI a5 F λ_ a6=>aJ a6 λ_=>jA 3 rfl (dZ 78 (λ_=>?_) (λ_=>?_))))))
    ·
     refine jo rfl (jN d (kZ d oR.f1 λ_ a7=>aT a7 λ_ a8=>jo rfl (jI a8 z λ_ a9=>aT a9 λ_ aa=>jo rfl (jB λz4 O=>(jI aa O λ_ ab=>aJ ab λ_=>jA 4 rfl (dZ 92 (λ_=>?_) (λ_=>?_)))))))
     ·exact oD 24 rfl (jf ls)
     refine jo rfl (jN c (kZ c vH.f1 λ_ ac=>aT ac λ_ ad=>jo rfl (jI ad F λ_ ae=>aJ ae λ_=>jA 3 rfl (dZ 102 (λ_=>?_) (λ_=>?_)))))
     ·exact jo rfl (jN d (kZ d oR.f1 λ_ af=>aT af λ_ ag=>jo rfl (jI ag z λ_ ah=>aT ah λ_ ai=>jo rfl (jI ai O λ_ aj=>aJ aj λ_=>oD 4 rfl (jf ls)))))
     exact oD 14 rfl (jf ls)
    refine jA 15 rfl (jN c (kZ c vH.f1 λ_ ak=>aT ak λ_ al=>jo rfl (jI al F λ_ am=>aJ am λ_=>jA 3 rfl (dZ 102 (λ_=>?_) (λ_=>?_)))))
    ·exact jo rfl (jN d (kZ d oR.f1 λ_ an=>aT an λ_ ao=>jo rfl (jI ao z λ_ aq=>aT aq λ_ ar=>jo rfl (jB λz5 c6=>(jI ar c6 λ_ au=>aJ au λ_=>oD 4 rfl (jf ls))))))
    exact oD 14 rfl (jf ls)
   refine dA (xW ?_ ?_)
   ·exact iQ (zL 1 rfl (jo rfl (oE N (xA rfl (jg ls)))))
   exact qM (jo rfl (oE N (xA rfl (jg ls))))
  refine oQ (xA rfl (xW ?_ ?_))
  ·exact xN (qA 1 rfl (dB (zC (cV (eT (qJ lv))))))
  exact qM (jo rfl (oE (qE C L) (xA rfl (jg ls))))
 exact oQ (xX rfl (qJ lv))
def mD (N:Nat) (d:A6) (f:A7):Option (List Rel):= qD (σ:=List Rel) (qU (λi B=>qD (σ:=List Rel) (qU (λC D=>qD (σ:=Int×(List (List Int))) (lF (λs=>match s with | (c,h)=>xH (ck (d.size*d.size)) λE=>if (decide (c<E)) then xH (dv c d.size) λj=>xH (rm c d.size) λp=>qD (σ:=Bool×Int) (lF (λs=>match s with | (t,e)=>qD (σ:=Bool) (if (decide (e<(f.cons.length:Int))) then some (.nx t) else some (.nx false)) λF=>if F then xH (ix f.cons e) λG=>xH (iG d G (C:Int) (1+(i:Int)) j p) λH=>xH (ck (e+1)) λI=>some (.go (H,I)) else some (.brk (t,e))) N (true,0)) λ(K,Q)=>if K then xH (ap h ([[j,p]])) λL=>xH (ck (c+1)) λM=>some (.go (M,L)) else xH (ck (c+1)) λO=>some (.go (O,h)) else some (.brk (c,h))) N (0,[])) λ(P,x)=>xH (ap D ([(Rel.mk 2 x)])) λy=>some (.go y)) (1+(i:Int)).toNat 0 B) λz=>some (.go z)) (f.vars - 1).toNat 0 []) λA=>some A
theorem xIr {X Y} {d e} {G} (hN:HN B G) (h:Bo B G (Pt 2 xC) d X) (p:Bo B G (Pt 2 xJ) e Y):∀ r,mD N X Y=some r->CG B G 89 #[d,e] (.v λU=>.st (U) λD=>rl 2 oR 99 U r::D):=by
 refine vW func89 [(0,d),(1,e)] hN λr=>?_;refine xK rfl (jR0 oR λv2=>xI rfl (xA rfl (vA (λs1=>.v λO=>.st [(5,O)] [rl 2 oR 99 O s1]) ?_ (λ_ O=>?_))))
 ·
  refine zH ?_;refine jc (λi P=>.v λI=>.st [(6,xB (1+(i:Int))),(0,d),(1,e),(5,I)] [rl 2 oR 99 I P]) ⟨_,ls⟩ (λ_ P _ z I=>?_) (λ_ i P z I=>?_)
  ·have l1:=yF z;refine xV (jA 2 rfl (jN p (kZ p xJ.f0 λ_ h1=>aJ h1 λ_=>xA rfl (zX l1 (xP ?_)))));exact jf ⟨_,ls⟩
  refine xV (jA 2 rfl (jN p (kZ p xJ.f0 λ_ h2=>aJ h2 λZ=>xA rfl (kA (tG z) (oJ ?_)))));have j2:=xWn z zD Z;have m1:=xHr z zD Z;refine qH (xA rfl (vA (λs3=>.v λQ=>.st [(0,d),(1,e),(5,Q),(6,xB (1+(i:Int)))] [rl 2 oR 99 Q s3]) ?_ (λs3 Q=>?_)))
  ·
   refine zH ?_;refine jc (λx t=>.v λc=>.st [(7,xB (x:Int)),(0,d),(1,e),(5,c),(6,xB (1+(i:Int)))] [rl 2 oR 99 c t]) ⟨_,ls⟩ (λ_ t _ A c=>?_) (λ_ x t A c=>?_)
   ·have l2:=vJ A;refine xV (oD 3 rfl (zX l2 (xP ?_)));exact jf ⟨_,ls⟩
   refine xV (oD 3 rfl (kA (qW A) (oJ (qH (qC e5 (aM rfl λf=>kG e3 (cY (xA rfl ?_))))))));refine vA (λ(s5,s6)=>.v λv7=>.fa (xM s5) <| .st [(0,d),(1,e),(5,c),(6,xB (1+(i:Int))),(7,xB (x:Int)),(8,oU f)] [rl 1 (zV 1 xF) 53 v7 s6,bx f [xB 2,v7] 99,rl 2 oR 99 c t]) ?_ (λ(s5,s6) _ _=>?_)
   ·
    refine zH (jh (λH=>H.nl 1 (zV 1 xF) 53) ?_);refine jw (λ(y,C)=>.v λj=>.fa (xM y) <| .st [(0,d),(1,e),(5,c),(6,xB (1+(i:Int))),(7,xB (x:Int)),(8,oU f),(9,xB y)] [rl 1 (zV 1 xF) 53 j C,bx f [xB 2,j] 99,rl 2 oR 99 c t]) ⟨_,xU,ls⟩ (λ_ (y,C) j R=>?_);refine xSf (jQ (vY 2 rfl (jqN h (cA h xC.f0 λ_ h3=>kN h3 λ_=>vY 1 rfl (jqN h (cA h xC.f0 λ_ h4=>kN h4 λ_=>jB λz1 c1=>(jqv (λF H w l=>yB F rfl rfl c1) (vY 1 rfl (lE (dA ?_))))))))));refine xW ?_ ?_
    ·
     refine mB (jA 2 rfl (jN h (kZ h xC.f0 λ_ h5=>aJ h5 λ_=>jB λK S=>(xSe S (xK rfl (jA 2 rfl (jN h (kZ h xC.f0 λ_ h6=>aJ h6 λi3=>jB λL T=>(xOs T ?_)))))))));refine xK rfl (xI rfl (xA rfl ?_));refine vA (λ(s9,W)=>.fa (xM W) <| .st [(0,d),(1,e),(5,c),(6,xB (1+(i:Int))),(7,xB (x:Int)),(8,oU f),(9,xB y),(10,xB K),(11,xB L),(12,.bool s9)] [rl 1 (zV 1 xF) 53 j C,bx f [xB 2,j] 99,rl 2 oR 99 c t]) ?_ (λ(s9,W) _=>?_)
     ·
      refine zH ?_;refine jw (λ(M,E)=>.fa (xM E) <| .st [(0,d),(1,e),(5,c),(6,xB (1+(i:Int))),(7,xB (x:Int)),(8,oU f),(9,xB y),(10,xB K),(11,xB L),(12,.bool M),(13,xB E)] [rl 1 (zV 1 xF) 53 j C,bx f [xB 2,j] 99,rl 2 oR 99 c t]) ⟨xU,ls⟩ (λ_ (M,E) i4=>?_);refine xSf ?_;refine vA (λa9=>.st [(0,d),(1,e),(5,c),(6,xB (1+(i:Int))),(7,xB (x:Int)),(8,oU f),(9,xB y),(10,xB K),(11,xB L),(12,.bool M),(13,xB E),(63,.bool a9)] [rl 1 (zV 1 xF) 53 j C,bx f [xB 2,j] 99,rl 2 oR 99 c t]) ?_ (λ_=>?_)
      ·
       refine iQ (jA 2 rfl (jN p (kZ p xJ.f1 λ_ h7=>aT h7 λ_ h8=>jL h8 λ_=>jA 2 rfl (dZ 61 (λ_=>?_) (λ_=>?_)))))
       ·exact oD 2 rfl (jf ls)
       exact oD 2 rfl (jf ls)
      refine dA (xW ?_ ?_)
      ·refine xPm (jA 2 rfl (jN p (kZ p xJ.f1 λ_ h9=>aT h9 λ_ aa=>jo rfl (jB λz4 c4=>(jI aa c4 λ_ ab=>jA 4 rfl (jB λz5 c5=>(jk (λH=>xIw aA (H.a h) (H.a ab) (dL A j2) j2 (oDd S) (xHh T R i3) z5 c5) (zL 1 rfl (jo rfl (jB λz6 c6=>?_))))))))));refine kE c6 (xA rfl ?_);exact jg ⟨(zI c6),ls⟩
      refine mK (jbk (wI ?_));exact jf ⟨i4,ls⟩
     refine oQ (xA rfl (xW ?_ ?_))
     ·refine iQ (oH e2 (jb 1 e3 (jA 2 rfl ?_)));refine jRI [K,L] (by simp only[Al,Aq,Aw,implies_true,and_true];exact⟨(oDd S),(xHh T R i3)⟩) λ_=>jh (λH=>H.os) (tD (λH=>El.sl) λ_=>jB λz7 c7=>(js [1,0,2,3] rfl (jPL c7 λv9=>oH e2 (js [1,0,2] rfl (jW (hv:=(λH=>(H.l 1 rfl).one)) e3 (dI (jo rfl (jB λz8 c8=>(kE c8 (xA rfl ?_))))))))));refine js [1,0,2] rfl ?_;exact jg ⟨_,(zI c8),ls⟩
     refine qM (jo rfl (jB λz9 c9=>(kE c9 (xA rfl ?_))));exact jg ⟨_,(zI c9),ls⟩
    refine mK (jbk (wI ?_));exact jf ⟨_,R,ls⟩
   refine xNl (jo rfl (aH 1 e3 (jh (λH=>oR.w pV H) (tD (λH=>El.agg) λ_=>jB λaz ac=>(js [2,0,1] rfl (jPL ac λb0=>zL 1 rfl (jo rfl (oE (vZ A j2) (xA rfl (js [0] rfl ?_))))))))));exact jg ⟨_,ls⟩
  refine aK (jo rfl (xDv m1 (xA rfl ?_)));exact jg ⟨_,ls⟩
 refine oQ (qZ 2 rfl ?_);exact j1 (rt rfl) ⟨_,lv⟩
def iK (d c:Int):Option Int:= xH (ck (c - 1)) λe=>xH (ck (c*e)) λf=>xH (dv f 2) λh=>xH (ck (h+d)) λi=>some i
theorem mQ {c d} {e} (hN:HN B e) (p:xM c) (t:xM d):∀ r,iK c d=some r->CG B e 196 #[xB c,xB d] (sI r):=by
 refine vW func196 [(0,xB c),(1,xB d)] hN λr=>?_;refine xK rfl (jA 2 rfl (jB λx i=>(fR i (jB λy j=>(wT j (jB λz h=>(xSe h (jo rfl (jB λA f=>(kE f (xX rfl ?_)))))))))));exact qJ ⟨(zI f),lv⟩
def aS (e:List Rel) (c d f h:Int):Option Bool:= if (decide (d<c)) then xH (iK d c) λi=>xH (ix e i) λj=>xH (nI j ([h,f])) λp=>some p else xH (iK c d) λt=>xH (ix e t) λx=>xH (nI x ([f,h])) λy=>some y
theorem pN {y e f c d} {h} {i} (hN:HN B i) (z:Bo B i (Sl 2 oR) h y) (j:xM e) (p:xM f) (t:xM c) (x:xM d):∀ r,aS y e f c d=some r->CG B i 197 #[h,xB e,xB f,xB c,xB d] (sB r):=by
 refine vW func197 [(0,h),(1,xB e),(2,xB f),(3,xB c),(4,xB d)] hN λr=>?_;refine xI rfl (oD 3 rfl (xW ?_ ?_))
 ·refine xN (jA 3 rfl (jB λA C=>(jk (λH=>mQ aA p j A C) λP=>jB λR D=>(jI z D λ_ E=>jA 2 rfl ?_))));exact jRI [d,c] (by simp only[Al,Aq,Aw,implies_true,and_true];exact⟨x,t⟩) λ_=>jB λF G=>(jk (λH=>wL aA (H.a E) (H.l 0 rfl) F G) (xT rfl (qJ lv)))
 refine qG (jA 3 rfl (jB λI K=>(jk (λH=>mQ aA j p I K) λQ=>jB λS L=>(jI z L λ_ M=>jA 2 rfl ?_))));exact jRI [c,d] (by simp only[Al,Aq,Aw,implies_true,and_true];exact⟨t,x⟩) λ_=>jB λN O=>(jk (λH=>wL aA (H.a M) (H.l 0 rfl) N O) (xX rfl (qJ lv)))
def dF (N:Nat) (z:Int) (d:List Rel) (f h i:Int):Option (Bool×(List Rel)):= xH (iK f h) λj=>xH (ix d j) λp=>qD (σ:=List (List Int)) (oM (λK (e:(List Int)) t=>qD (σ:=Bool×Int) (lF (λs=>match s with | (x,c)=>qD (σ:=Bool) (if (decide (c<z)) then some (.nx (!x)) else some (.nx false)) λA=>if A then qD (σ:=Bool) (xH (ix e 0) λB=>xH (aS d f i B c) λC=>if C then xH (ix e 1) λD=>xH (aS d i h c D) λE=>some (.nx E) else some (.nx false)) λF=>xH (ck (c+1)) λG=>some (.go (F,G)) else some (.brk (x,c))) N (false,0)) λ(H,L)=>if H then xH (ap t ([e])) λI=>some (.go I) else some (.go t)) p.tuples 0 []) λy=>some ((decide ((y.length:Int)<(p.tuples.length:Int))),(d.set (j).toNat (Rel.mk 2 y)))
theorem xFj {z:Int} {Z:List Rel} {t x A:Int} (r:Bool×(List Rel)) (hR:dF N z Z t x A=some r) {y:Vl} {X0:List Nat} (K:Wd) (hN:HN B K) (S0:Sep X0 B K K [rw B 2 oR 99 y Z]) (bj:xM z) (O:xM t) (P:xM x) (X:xM A):Calls prog 136 #[xB z,y,xB t,xB x,xB A] K (Gt B K X0 (.st (.bool r.1) λD=>rw B 2 oR 99 y r.2::D)):=by
 unfold dF at hR
 revert r
 refine jin func136 [(0,xB z),(1,y),(2,xB t),(3,xB x),(4,xB A)] S0 λr=>?_;refine jspl λ_ _ C _ _ _ aa=>(xN (xK rfl (jA 3 rfl (jB λz1 c1=>(jk (λH=>mQ aA O P z1 c1) λab=>jB λz2 S=>(cM λw1 X1 N3 f g1 _ d _=>?_))))));have Y:=g1.rzd;refine jIz g1.zd S λF i=>xK rfl (qC e5 (aM rfl λj=>kG e3 (cY (xA rfl ?_))));refine vA (λs1=>.v λM=>.st [(1,y),(2,xB t),(3,xB x),(11,F),(12,oU j)] [rw C 1 (zV 1 xF) 53 M s1,bx j [xB 2,M] 99]) ?_ (λ_ M=>?_)
 ·
  refine zH (jh (λH=>H.nl 1 (zV 1 xF) 53) (jh (λH=>H.lw) (jh (λH=>H.upt (λc h=>h.elim) (λc h=>(d.2.2 c h))) ?_)));refine jl (λG E=>.v λp=>.st [(13,xB (G:Int)),(0,xB z),(1,y),(2,xB t),(3,xB x),(4,xB A),(11,F),(12,oU j)] [rw C 1 (zV 1 xF) 53 p E,bx j [xB 2,p] 99]) ⟨_,ls⟩ (λ_ E _ q1 p=>?_) (λG x5 E Q T p=>?_)
  ·have l1:=oO q1;refine xV (jA 2 rfl (jN (Pz.bo i (λc h=>(d.2.2 c h))) (oFa i oR.f1 λ_ h2=>oCk h2 λ_ h3=>jL (Bo.to h3 (Sm.symm f)) λ_=>xA rfl (zX l1 (xP ?_)))));exact jf ⟨_,ls⟩
  refine xV (jA 2 rfl (jN (Pz.bo i (λc h=>(d.2.2 c h))) (oFa i oR.f1 λ_ h4=>oCk h4 λ_ h5=>jL (Bo.to h5 (Sm.symm f)) λi1=>xA rfl (kA (xZ Q) (oJ ?_)))));have j2:=bV (Ae Q) i1;have m1:=qE Q i1;refine qH (xI rfl (xA rfl ?_));refine vA (λ(s3,s4)=>.fa (xM s4) <| .st [(0,xB z),(1,y),(2,xB t),(3,xB x),(4,xB A),(11,F),(12,oU j),(13,xB (G:Int)),(14,.bool s3)] [rw C 1 (zV 1 xF) 53 p E,bx j [xB 2,p] 99]) ?_ (λ(s3,s4) _=>?_)
  ·
   refine zH ?_;refine jw (λ(U,L)=>.fa (xM L) <| .st [(0,xB z),(1,y),(2,xB t),(3,xB x),(4,xB A),(11,F),(12,oU j),(13,xB (G:Int)),(14,.bool U),(15,xB L)] [rw C 1 (zV 1 xF) 53 p E,bx j [xB 2,p] 99]) ⟨xU,ls⟩ (λ_ (U,L) W=>?_);refine xSf ?_;refine vA (λs7=>.st [(0,xB z),(1,y),(2,xB t),(3,xB x),(4,xB A),(11,F),(12,oU j),(13,xB (G:Int)),(14,.bool U),(15,xB L),(38,.bool s7)] [rw C 1 (zV 1 xF) 53 p E,bx j [xB 2,p] 99]) ?_ (λ_=>?_)
   ·
    refine iQ (jA 4 rfl (dZ 35 (λ_=>?_) (λ_=>?_)))
    ·exact oD 3 rfl (jf ls)
    exact oD 3 rfl (jf ls)
   refine dA (xW ?_ ?_)
   ·
    refine xZd ?_;refine vA (λs8=>.st [(0,xB z),(1,y),(2,xB t),(3,xB x),(4,xB A),(11,F),(12,oU j),(13,xB (G:Int)),(14,.bool s8),(15,xB L)] [rw C 1 (zV 1 xF) 53 p E,bx j [xB 2,p] 99]) ?_ (λs8=>?_)
    ·
     refine iQ (jA 4 rfl (jN (Pz.bo i (λc h=>(d.2.2 c h))) (oFa i oR.f1 λ_ h6=>oCk h6 λ_ h7=>jo rfl (jI (Bo.to h7 (Sm.symm f)) T λ_ h8=>aT (s:=λH=>(f.trans (Sm.mono H.sm d.2.2))) h8 λ_ h9=>jB λz3 c3=>(jI h9 c3 λ_ ac=>aJ (s:=λH=>(f.trans (Sm.mono H.sm d.2.2))) ac λi3=>jo rfl (jB λz4 c4=>(jk (λH=>pN aA (H.a Y) O X i3 W z4 c4) (jo rfl ?_))))))));refine dZ 55 (λ_=>?_) (λ_=>?_)
     ·exact jA 5 rfl (jN (Pz.bo i (λc h=>(d.2.2 c h))) (oFa i oR.f1 λ_ ad=>oCk ad λ_ ae=>jo rfl (jI (Bo.to ae (Sm.symm f)) T λ_ af=>aT (s:=λH=>(f.trans (Sm.mono H.sm d.2.2))) af λ_ ag=>jB λz5 c5=>(jI ag c5 λ_ ah=>aJ (s:=λH=>(f.trans (Sm.mono H.sm d.2.2))) ah λi4=>jB λz6 c6=>(jk (λH=>pN aA (H.a Y) X P W i4 z6 c6) (oD 2 rfl (jf ls)))))))
     exact oD 16 rfl (jf ls)
    refine aK (jo rfl (jB λz7 c7=>(kE c7 (xA rfl ?_))));exact jg ⟨(zI c7),ls⟩
   refine mK (jbk (wI ?_));exact jf ⟨W,ls⟩
  refine oQ (xA rfl (xW ?_ ?_))
  ·refine jB λz8 c8=>(js [1,0] rfl (cM λ_ _ _ R g2 _ I _=>(jD (kJ 0 rfl e2 (gH 1 rfl g2.bk e2 (zG [2] rfl (jvN 3 rfl (Pz.bo i (λc h=>(d.2.2 c h))) (oLv 4 rfl i oR.f1 λ_ ai=>oLi (s:=λH w l=>(R.trans (Sm.mono (H.v w l) I.2.2))) 5 rfl ai λ_ aj=>zG [6] rfl (nM 7 rfl (Bo.to aj (Sm.symm f)) T λ_ ak=>rB (s:=λH w l=>(f.trans (Sm.mono (R.trans (Sm.mono (H.v w l) I.2.2)) d.2.2))) 8 rfl ak λ_ al=>jE 9 rfl (jR1 (N1:=C) (λc h=>(I.2.2 c (d.2.2 c h))) (λH=>Eo.sl (Bo.to al (f.trans (Sm.mono (R.trans (Sm.mono H.sm I.2.2)) d.2.2)))) (λ_=>?_)))))))))));refine qT (jF9 10 rfl (js [1,0] rfl (jP c8 λv4=>aI (jF9 11 rfl (oH e2 (aI (jF9 12 rfl ?_)))))));refine kY I (hs:=⟨(λc h=>(d.2.2 c h)),trivial⟩) (jW (hv:=(λH=>(H.r 1 rfl).one)) e3 (aI (gV (aK (jo rfl (oE m1 (xA rfl (js [1,0] rfl ?_))))))));exact jg ⟨_,ls⟩
  refine qM (jo rfl (oE m1 (xA rfl ?_)));exact jg ⟨_,ls⟩
 refine xNh (jQ (sQ e2 (jqb 1 e3 (oJq (λH=>H.r 0 rfl) λ_=>vY 1 rfl (jqN (Pz.bo i (λc h=>(d.2.2 c h))) (oKp i oR.f1 λ_ am=>oKs am λ_ an=>jqL (Bo.to an (Sm.symm f)) λ_=>vY 2 rfl (lE (xNh (js [1,0] rfl (cM λ_ _ _ _ g3 _ ao _=>?_))))))))));refine jD (zG [0,1,2] rfl (rQ 4 rfl g3.bk e2 (jE 3 rfl (jk (λH=>mQ aA O P z1 c1) λab=>qT (jF9 5 rfl ?_)))));refine kY ao (hs:=⟨(λc h=>(d.2.2 c h)),trivial⟩) (kY d (jh (λH=>H.zw) (jRi 0 S λ_ aq=>aI (jF9 6 rfl (js [0,2,1] rfl ?_)))));refine jSX (vs:=[xB 2,M]) (λH=>.inl ⟨sizeOf99,rfl,(oc rfl (oc (H.r 1 rfl).one on))⟩) (RPt.o aq) (bD S) n1 (λH=>λe q=>(Eo.agg (oR.m pV q.rd)).tn) rfl (aI (gV (oQ (qZ 2 rfl ?_))));refine jh (λH=>aa Ab.rw H (Ns.all ⟨n0,trivial⟩)) (js [0] rfl ?_);exact j1 (rt rfl) lv
def iH (N:Nat) (I:A6) (j:A7) (K:List Rel):Option ((List B0)×(List Rel)):= qD (σ:=(List B0)×Int×(List Rel)) (lF (λs=>match s with | (c,p,t)=>if (p != (c.length:Int)) then qD (σ:=(List B0)×(List Rel)) (qU (λd s=>match s with | (L,M)=>qD (σ:=(List B0)×(List Rel)) (qU (λf s=>match s with | (O,P)=>qD (σ:=(List B0)×(List Rel)) (qU (λe s=>match s with | (x,h)=>qD (σ:=(List Rel)×Bool) (if ((e:Int) != (f:Int)) then if ((e:Int) != (1+(d:Int))) then xH (dF N I.size h (f:Int) (1+(d:Int)) (e:Int)) λy=>some (.nx (y.2,y.1)) else some (.nx (h,false)) else some (.nx (h,false))) λ(i,z)=>if z then xH (ap x ([(B0.mk (f:Int) (1+(d:Int)) (e:Int))])) λQ=>some (.go (Q,i)) else some (.go (x,i))) j.vars.toNat 0 (O,P)) λ(A,B)=>some (.go (A,B))) (1+(d:Int)).toNat 0 (L,M)) λ(C,D)=>some (.go (C,D))) (j.vars - 1).toNat 0 (c,t)) λ(E,F)=>some (.go (E,(c.length:Int),F)) else some (.brk (c,p,t))) N ([],(-1),K)) λ(G,R,H)=>some (G,H)
theorem xJj {x0:A6} {x1:A7} {x2:List Rel} (r:(List B0)×(List Rel)) (hR:iH N x0 x1 x2=some r) {d:Vl} {e:Vl} {c:Vl} {X0:List Nat} (i:Wd) (hN:HN B i) (S0:Sep X0 B i i [rw B 2 oR 99 c x2]) (A0:Bo B i (Pt 2 xC) d x0) (h:Bo B i (Pt 2 xJ) e x1):Calls prog 90 #[d,e,c] i (Gt B i X0 (.v λU=>.st (U) λD=>rl 3 xO 91 U r.1::rw B 2 oR 99 c r.2::D)):=by
 unfold iH at hR
 revert r
 refine jin func90 [(0,d),(1,e),(2,c)] S0 λr=>?_;refine xN (xK rfl (jR0 xO λv3=>xI rfl (xA rfl (vA (λ(s1,s2,s3)=>.v λM=>.fa (xM s2) <| .st [(2,c),(7,M)] [rl 3 xO 91 M s1,rw B 2 oR 99 c s3]) ?_ (λ(s1,s2,s3) M _=>?_)))))
 ·
  refine zH ?_;refine jw (λ(f,O,s6)=>.v λP=>.fa (xM O) <| .st [(0,d),(1,e),(2,c),(7,P),(8,xB O)] [rl 3 xO 91 P f,rw B 2 oR 99 c s6]) ⟨_,kV,ls⟩ (λ_ (f,O,s6) P i1=>?_);refine xV (jA 2 rfl (nO (λH=>H.l 0 rfl) λ_=>xA rfl (xW ?_ ?_)))
  ·
   refine xCs (jo rfl (nO (λH=>H.l 0 rfl) λi2=>xK rfl (xA rfl (vA (λ(s7,s8)=>.v λQ=>.st [(0,d),(1,e),(2,c),(7,Q),(8,xB (f.length:Int))] [rl 3 xO 91 Q s7,rw B 2 oR 99 c s8]) ?_ (λ(s7,s8) Q=>?_)))))
   ·
    refine zH ?_;refine jc (λj (R,F)=>.v λC=>.st [(9,xB (1+(j:Int))),(0,d),(1,e),(2,c),(7,C),(8,xB (f.length:Int))] [rl 3 xO 91 C R,rw B 2 oR 99 c F]) ⟨_,ls⟩ (λ_ (R,F) _ t C=>?_) (λ_ j (R,F) t C=>?_)
    ·have l1:=yF t;refine xV (jA 2 rfl (jN h (kZ h xJ.f0 λ_ h1=>aJ h1 λ_=>xA rfl (zX l1 (xP ?_)))));exact jf ⟨_,ls⟩
    refine xV (jA 2 rfl (jN h (kZ h xJ.f0 λ_ h2=>aJ h2 λi3=>xA rfl (kA (tG t) (oJ ?_)))));have j2:=xWn t zD i3;have m1:=xHr t zD i3;refine qH (xA rfl (vA (λ(W,X)=>.v λS=>.st [(0,d),(1,e),(2,c),(7,S),(8,xB (f.length:Int)),(9,xB (1+(j:Int)))] [rl 3 xO 91 S W,rw B 2 oR 99 c X]) ?_ (λ(W,X) S=>?_)))
    ·
     refine zH ?_;refine jc (λz (G,I)=>.v λE=>.st [(10,xB (z:Int)),(0,d),(1,e),(2,c),(7,E),(8,xB (f.length:Int)),(9,xB (1+(j:Int)))] [rl 3 xO 91 E G,rw B 2 oR 99 c I]) ⟨_,ls⟩ (λ_ (G,I) _ x E=>?_) (λ_ z (G,I) x E=>?_)
     ·have l2:=vJ x;refine xV (oD 3 rfl (zX l2 (xP ?_)));exact jf ⟨_,ls⟩
     refine xV (oD 3 rfl (kA (qW x) (oJ ?_)));have j3:=dL x j2;refine qH (xA rfl (vA (λ(Y,Z)=>.v λK=>.st [(0,d),(1,e),(2,c),(7,K),(8,xB (f.length:Int)),(9,xB (1+(j:Int))),(10,xB (z:Int))] [rl 3 xO 91 K Y,rw B 2 oR 99 c Z]) ?_ (λ(Y,Z) K=>?_)))
     ·
      refine zH ?_;refine jc (λT (A,L)=>.v λp=>.st [(11,xB (T:Int)),(0,d),(1,e),(2,c),(7,p),(8,xB (f.length:Int)),(9,xB (1+(j:Int))),(10,xB (z:Int))] [rl 3 xO 91 p A,rw B 2 oR 99 c L]) ⟨_,ls⟩ (λ_ (A,L) _ y p=>?_) (λ_ T (A,L) y p=>?_)
      ·have l3:=vJ y;refine xV (jA 2 rfl (jN h (kZ h xJ.f0 λ_ h3=>aJ h3 λ_=>xA rfl (zX l3 (xP ?_)))));exact jf ⟨_,ls⟩
      refine xV (jA 2 rfl (jN h (kZ h xJ.f0 λ_ h4=>aJ h4 λi4=>xA rfl (kA (qW y) (oJ ?_)))));have j4:=dL y i4;have m2:=vZ y i4;refine sJ (vA (λ(a0,a1)=>.st [(0,d),(1,e),(2,c),(7,p),(8,xB (f.length:Int)),(9,xB (1+(j:Int))),(10,xB (z:Int)),(11,xB (T:Int)),(58,.bool a1)] [rl 3 xO 91 p A,rw B 2 oR 99 c a0]) ?_ (λ(a0,a1)=>?_))
      ·
       refine iQ (jA 4 rfl (dZ 43 (λ_=>?_) (λ_=>?_)))
       ·
        refine jA 5 rfl (dZ 48 (λ_=>?_) (λ_=>?_))
        ·exact jo rfl (jN A0 (kZ A0 xC.f0 λ_ h5=>aJ h5 λi5=>jA 4 rfl (jB λz1 c1=>(js [1,0] rfl (jko 1 (λK1 H=>xFj z1 c1 _ H.hN K1 i5 j3 j2 j4) (xA rfl (js [1,0] rfl (jf ls))))))))
        exact oD 10 rfl (jf ls)
       exact oD 15 rfl (jf ls)
      refine dA (xW ?_ ?_)
      ·refine iQ (jA 4 rfl (qC e5 ?_));refine iX (λH=>Eo.agg (xO.m j3 j2 j4)) λ_=>jB λz2 c2=>(js [1,0,2] rfl (jPL c2 λb2=>zL 1 rfl (jo rfl (oE m2 (xA rfl ?_)))));exact jg ⟨_,ls⟩
      refine qM (jo rfl (oE m2 (xA rfl ?_)));exact jg ⟨_,ls⟩
     refine aK (jo rfl (oE (vZ x j2) (xA rfl ?_)));exact jg ⟨_,ls⟩
    refine aK (jo rfl (xDv m1 (xA rfl ?_)));exact jg ⟨_,ls⟩
   refine oBg ?_;exact jg ⟨_,i2,ls⟩
  refine mK (jbk (wI ?_));exact jf ⟨_,i1,ls⟩
 refine oQ (qZ 2 rfl ?_);exact j1 (rt rfl) ⟨_,lv⟩
def sS (c:List Rel):Option Bool:= qD (σ:=Unit) (oM (λe (d:Rel) s=>match s with | _=>if ((d.tuples.length:Int)==0) then some (.ret true) else some (.go ())) c 0 ()) λ_=>some false
theorem xJz {h} {c} {e} (hN:HN B e) (f:Bo B e (Sl 2 oR) c h):∀ r,sS h=some r->CG B e 91 #[c] (sB r):=by
 refine vW func91 [(0,c)] hN λr=>?_;refine xI rfl (xA rfl (vA (λ_=>.st [] []) ?_ (λ_=>?_)))
 ·
  refine zH (jl (λi _=>.st [(3,xB (i:Int)),(0,c)] []) ls (λ_ _ _ p=>?_) (λi _ _ d t=>?_))
  ·have x:=oO p;exact xV (jA 2 rfl (jL f λ_=>xA rfl (zX x (xP (jf ls)))))
  refine xV (jA 2 rfl (jL f λj=>xA rfl (kA (xZ d) (oJ ?_))));have j1:=bV (Ae d) j;refine qH (jA 2 rfl (jI f t λ_ y=>kZ y oR.f1 λ_ z=>aT z λ_ A=>jL A λ_=>xA rfl (xW ?_ ?_)))
  ·exact xN (qA 1 rfl (dB (zC (cV (eT (qJ lv))))))
  exact qM (jo rfl (oE (qE d j) (xA rfl (jg ls))))
 exact oQ (xX rfl (qJ lv))
def gN (N:Nat) (h i:Int) (e:List Rel) (d:List Int) (f:Int):Option Bool:= qD (σ:=Unit) (oM (λj (p:Int) s=>match s with | _=>xH (aS e (j:Int) (d.length:Int) p f) λt=>if (!t) then some (.ret false) else some (.go ())) d 0 ()) λ_=>qD (σ:=Int) (lF (λc=>qD (σ:=Bool) (if (decide (c<i)) then some (.nx ((d.length:Int)==0)) else some (.nx false)) λx=>if x then qD (σ:=Bool) (qU (λy z=>qD (σ:=Bool) (if z then some (.nx true) else xH (aS e 0 c f (y:Int)) λA=>some (.nx A)) λB=>some (.go B)) h.toNat 0 false) λC=>if (!C) then some (.ret false) else xH (ck (c+1)) λD=>some (.go D) else some (.brk c)) N 1) λE=>some true
theorem xLd {c d E h e} {f p} {t} (hN:HN B t) (C:xM c) (a1:xM d) (F:Bo B t (Sl 2 oR) f E) (A3:Bo B t (Sl 1 xF) p h) (D:xM e):∀ r,gN N c d E h e=some r->CG B t 137 #[xB c,xB d,f,p,xB e] (sB r):=by
 refine vW func137 [(0,xB c),(1,xB d),(2,f),(3,p),(4,xB e)] hN λr=>?_;refine xK rfl (jo rfl (jL A3 λy=>xI rfl (xA rfl (vA (λ_=>.st [(0,xB c),(1,xB d),(2,f),(4,xB e),(11,xB (h.length:Int))] []) ?_ (λ_=>?_)))))
 ·
  refine zH (jl (λG _=>.st [(12,xB (G:Int)),(0,xB c),(1,xB d),(2,f),(3,p),(4,xB e),(11,xB (h.length:Int))] []) ls (λ_ _ _ O=>?_) (λG _ _ x P=>?_))
  ·have Q:=oO O;exact xV (oD 3 rfl (zX Q (xP (jf ls))))
  refine xV (oD 3 rfl (kA (xZ x) (oJ (qH (jA 5 rfl (jI A3 P λ_ R=>aJ R λM=>jo rfl (jB λS T=>(jk (λH=>pN aA (H.a F) (bV (Ae x) y) y M D S T) (xA rfl (xW ?_ ?_))))))))))
  ·exact xN (qA 1 rfl (dB (zC (cV (eT (qJ lv))))))
  exact qM (jo rfl (oE (qE x y) (xA rfl (jg ls))))
 refine bX (xA rfl (vA (λU=>.fa (xM U) <| .st [] []) ?_ (λ_ _=>?_)))
 ·
  refine zH ?_;refine jw (λi=>.fa (xM i) <| .st [(0,xB c),(1,xB d),(2,f),(4,xB e),(11,xB (h.length:Int)),(13,xB i)] []) ⟨zD,ls⟩ λ_ i I=>xSf (vA (λW=>.st [(0,xB c),(1,xB d),(2,f),(4,xB e),(11,xB (h.length:Int)),(13,xB i),(39,.bool W)] []) ?_ (λ_=>?_))
  ·
   refine iQ (jA 4 rfl (dZ 36 (λ_=>?_) (λ_=>?_)))
   ·exact oD 3 rfl (jf ls)
   exact oD 3 rfl (jf ls)
  refine dA (xW ?_ ?_)
  ·
   refine mB (xI rfl (xA rfl (vA (λX=>.st [(0,xB c),(1,xB d),(2,f),(4,xB e),(11,xB (h.length:Int)),(13,xB i),(14,.bool X)] []) ?_ (λ_=>?_))))
   ·
    refine zH (jc (λz A=>.st [(15,xB (z:Int)),(0,xB c),(1,xB d),(2,f),(4,xB e),(11,xB (h.length:Int)),(13,xB i),(14,.bool A)] []) ls (λ_ A _ j=>?_) (λ_ z A j=>?_))
    ·have Y:=vJ j;exact xV (oD 3 rfl (zX Y (xP (jf ls))))
    refine xV (oD 3 rfl (kA (qW j) (oJ (zH (vA (λK=>.st [(0,xB c),(1,xB d),(2,f),(4,xB e),(11,xB (h.length:Int)),(13,xB i),(14,.bool K),(15,xB (z:Int))] []) ?_ (λK=>?_))))))
    ·
     refine iQ (jA 2 rfl (dZ 48 (λ_=>?_) (λ_=>?_)))
     ·exact oD 7 rfl (jf ls)
     exact jA 4 rfl (jB λZ c2=>(jk (λH=>pN aA (H.a F) xU I D (dL j C) Z c2) (oD 2 rfl (jf ls))))
    exact aK (jo rfl (oE (vZ j C) (xA rfl (jg ls))))
   refine oQ (oD 2 rfl (xW ?_ ?_))
   ·exact xN (qA 1 rfl (dB (zC (cV (eT (qJ lv))))))
   refine qM (jo rfl (jB λz3 L=>(kE L (xA rfl ?_))));exact jg ⟨(zI L),ls⟩
  refine mK (jbk (wI ?_));exact jf ⟨I,ls⟩
 exact oQ (xX rfl (qJ lv))
def pK (N:Nat) (d e:Int) (i:List Rel):Option ((List Int)×Bool):= qD (σ:=List Int) (qU (λz f=>qD (σ:=Int) (lF (λc=>qD (σ:=Bool) (if (decide (c<d)) then xH (gN N d e i f c) λj=>some (.nx (!j)) else some (.nx false)) λp=>if p then xH (ck (c+1)) λt=>some (.go t) else some (.brk c)) N 0) λh=>if (h==d) then some (.ret ([],false)) else xH (ap f ([h])) λx=>some (.go x)) e.toNat 0 []) λy=>some (y,true)
theorem xHn {d e C} {f} {x} (hN:HN B x) (G:xM d) (t:xM e) (I:Bo B x (Sl 2 oR) f C):∀ r,pK N d e C=some r->CG B x 92 #[xB d,xB e,f] (.v λA=>.st (.tuple #[A,.bool r.2]) λD=>rl 1 xF 2 A r.1::D):=by
 refine vW func92 [(0,xB d),(1,xB e),(2,f)] hN λr=>?_;refine kW 2 rfl (jR0 xF λS=>xI rfl (xA rfl (vA (λK=>.v λy=>.st [(8,y)] [rl 1 xF 2 y K]) ?_ (λ_ y=>?_))))
 ·
  refine zH ?_;refine jc (λj h=>.v λc=>.st [(9,xB (j:Int)),(0,xB d),(1,xB e),(2,f),(8,c)] [rl 1 xF 2 c h]) ⟨_,ls⟩ (λ_ h _ i c=>?_) (λ_ j h i c=>?_)
  ·have L:=vJ i;refine xV (oD 3 rfl (zX L (xP ?_)));exact jf ⟨_,ls⟩
  refine xV (oD 3 rfl (kA (qW i) (oJ ?_)));have j1:=dL i t;refine qH (xR rfl (vA (λz=>.fa (xM z) <| .st [(0,xB d),(1,xB e),(2,f),(8,c),(9,xB (j:Int)),(10,xB z)] [rl 1 xF 2 c h]) ?_ (λz M=>?_)))
  ·
   refine zH ?_;refine jw (λp=>.fa (xM p) <| .st [(0,xB d),(1,xB e),(2,f),(8,c),(9,xB (j:Int)),(10,xB p)] [rl 1 xF 2 c h]) ⟨xU,ls⟩ λ_ p E=>xSf (vA (λO=>.st [(0,xB d),(1,xB e),(2,f),(8,c),(9,xB (j:Int)),(10,xB p),(28,.bool O)] [rl 1 xF 2 c h]) ?_ (λ_=>?_))
   ·
    refine iQ (jA 4 rfl (dZ 20 (λ_=>?_) (λ_=>?_)))
    ·exact jA 5 rfl (jB λP Q=>(jk (λH=>xLd aA G t (H.a I) (H.l 0 rfl) E P Q) (oD 2 rfl (jf ls))))
    exact oD 8 rfl (jf ls)
   refine dA (xW ?_ ?_)
   ·refine oHe (jo rfl (jB λT F=>(kE F (jo rfl (xNv ?_)))));exact jg ⟨(zI F),ls⟩
   refine mK (jbk (wI ?_));exact jf ⟨E,ls⟩
  refine bX (oD 3 rfl (xW ?_ ?_))
  ·refine xN (jR0 xF λU=>jA 2 rfl (aZ (dB (zC (cV (eT (js [0] rfl ?_)))))));exact j2 (rt rfl) (rt rfl) ⟨_,lv⟩
  refine xLe (jA 2 rfl (iX (λH=>Eo.int M) λ_=>jB λW R=>(js [1,0] rfl (jPL R λX=>zL 1 rfl (jo rfl (oE (vZ i t) (xA rfl ?_)))))));exact jg ⟨_,ls⟩
 refine oQ (qZ 3 rfl ?_);exact j2 (rt rfl) (rt rfl) ⟨_,lv⟩
def fI (N:Nat) (d:A6) (c:A7) (i:Op):Option (A9×Int):= xH (rR N (A6.mk d.size d.rels) (A7.mk c.vars c.cons) (Op.mk i.arity i.table) 7) λj=>if (j != 0) then some ((A9.mk 0 ([]) ([]) ([]) ([])),j) else if (c.vars==1) then xH (nV (A6.mk d.size d.rels) (A7.mk c.vars c.cons)) λp=>xH (lS N (A6.mk d.size d.rels) (A7.mk c.vars c.cons) p) λe=>xH (pF e.2) λt=>if t then some ((A9.mk 1 ([]) e.1 ([]) ([])),0) else xH (ix e.2 0) λx=>xH (ix x 0) λy=>some ((A9.mk 0 ([y]) ([]) ([]) ([])),0) else xH (mD N (A6.mk d.size d.rels) (A7.mk c.vars c.cons)) λz=>xH (iH N (A6.mk d.size d.rels) (A7.mk c.vars c.cons) z) λf=>xH (sS f.2) λA=>if A then some ((A9.mk 2 ([]) ([]) f.1 ([])),0) else xH (pK N d.size c.vars f.2) λh=>if (!h.2) then some ((A9.mk 0 ([]) ([]) ([]) ([])),6) else some ((A9.mk 0 h.1 ([]) ([]) ([])),0)
theorem yN {C E F} {j p t} {e} (hN:HN B e) (T:Bo B e (qR 2 xC) j C) (U:Bo B e (qR 2 xJ) p E) (W:Bo B e (qR 2 vX) t F):∀ r,fI N C E F=some r->CG B e 55 #[j,p,t] (.v λx=>.v λy=>.v λz=>.fa (xM r.1.kind) <| .fa (xM r.2) <| .st (.tuple #[.agg #[xB r.1.kind,x,y,z,aB],xB r.2]) λD=>rl 1 xF 2 x r.1.values::rl 3 xS 89 y r.1.arcs::rl 3 xO 91 z r.1.pairs::D):=by
 refine vW func55 [(0,j),(1,p),(2,t)] hN λr=>?_;obtain⟨v3,rfl,c,f⟩:=xC.o T;refine jX e2 (λ_=>?_);obtain⟨an,rfl,d,h⟩:=xJ.o U;refine jX e2 (λ_=>?_);obtain⟨v4,rfl,X,Y⟩:=vX.o W;refine jX e2 λb1=>aM rfl λb2=>xI rfl (jB λZ c1=>(jk (λH=>xDm aA (xC.b (H.g 3 rfl).bk c (H.a f)) (xJ.b (H.g 2 rfl).bk d (H.a h)) (vX.b (H.g 1 rfl).bk X (H.a Y)) xNy Z c1) λP=>xK rfl (oD 2 rfl (xW ?_ ?_))))
 ·refine xN (qC e5 (jo rfl (kG e3 (xT rfl ?_))));exact mA (λH=>(((H.nl 1 xF 2).nl 3 xS 89).nl 3 xO 91).s [2,1,0] rfl rfl) (cN 0 e2) (rt rfl) ⟨_,_,_,xU,P,lv⟩
 refine qY (oH e2 (jb 2 e3 (xA rfl (xW ?_ ?_))))
 ·
  refine xN (jB λz2 Q=>(jk (λH=>xBe aA (xC.b (H.g 3 rfl).bk c (H.a f)) (xJ.b (H.g 2 rfl).bk d (H.a h)) z2 Q) λv5=>xK rfl (jo rfl (js [4,3,0,1,2] rfl (jh (λH=>H.mg) (cM λw1 X1 N1 _ G I A _=>?_))))));have K1:=G.l.bk;have K2:=G.r.bk;refine jB λz3 c2=>(jh (λH=>H.lw) (jko 1 (λK3 H=>xBx z3 c2 _ H.hN K3 (xC.b (K1.to H.sm) c (H.u (I f))) (xJ.b (K2.to H.sm) d (H.u (I h)))) λv6=>xI rfl (jo rfl (jB λz4 c3=>(jk (λH=>xBv aA (H.r 1 rfl) z4 c3) (aI (xW ?_ ?_)))))))
  ·refine xN (jo rfl ?_);refine qC (hone:=(λH=>oc rfl (oc (H.l 0 rfl).one on))) e5 (js [2,0,1,3] rfl ?_);refine kG (hv:=(λH=>oc rfl (oc rfl (oc (H.l 1 rfl).one (oc rfl (oc rfl on)))))) e3 (jo rfl (xJn (kY A (jh (λH=>H.um) ?_))));exact mA (λH=>((H.nl 1 xF 2).nl 3 xO 91).s [1,5,0] rfl rfl) (cN 2 e2) (rt rfl) ⟨_,_,_,zD,xU,lv⟩
  refine qG (jo rfl (jB λz5 c4=>(js [1,0,2,3] rfl (cM λ_ _ _ _ g2 _ R _=>(jI g2.rd c4 λ_ h4=>aT h4 λ_ h5=>jB λz6 c5=>(jI h5 c5 λ_ h6=>aJ h6 λi4=>iX (λH=>Eo.int i4) (λv7=>?_)))))));refine qC (hone:=(λH=>oc rfl (oc (H.l 0 rfl).one on))) e5 (js [2,0,1,3] rfl ?_);refine kG (hv:=(λH=>oc rfl (oc (H.l 1 rfl).one (oc rfl (oc rfl (oc rfl on)))))) e3 (xT rfl (kY R (kY A (jh (λH=>H.um) ?_))));exact mA (λH=>((H.nl 3 xS 89).nl 3 xO 91).s [6,1,0] rfl rfl) (cN 3 e2) (rt rfl) ⟨_,_,_,xU,xU,lv⟩
 refine qG (jB λz7 c6=>(jk (λH=>xIr aA (xC.b (H.g 3 rfl).bk c (H.a f)) (xJ.b (H.g 2 rfl).bk d (H.a h)) z7 c6) λv8=>xK rfl (jo rfl (js [4,3,0,1,2] rfl (jh (λH=>H.mg) (cM λw2 X2 N2 _ K L i _=>?_))))));have M:=K.l.bk;have O:=K.r.bk;refine jB λz8 c7=>(jh (λH=>H.lw) (jh (λH=>H.wk) (jko 1 (λK6 H=>xJj z8 c7 _ H.hN K6 (xC.b (M.to H.sm) c (H.u (L f))) (xJ.b (O.to H.sm) d (H.u (L h)))) λv9=>xI rfl (jo rfl (jB λz9 c8=>(jk (λH=>xJz aA (H.r 1 rfl) z9 c8) (aI (xW ?_ ?_))))))))
 ·refine xN (jo rfl ?_);refine qC (hone:=(λH=>oc rfl (oc (H.l 0 rfl).one on))) e5 (js [2,0,1,3] rfl ?_);refine kG (hv:=(λH=>oc rfl (oc rfl (oc rfl (oc (H.l 1 rfl).one (oc rfl on)))))) e3 (xT rfl (js [0,1,3] rfl (kY i (jh (λH=>H.um) ?_))));exact mA (λH=>((H.nl 1 xF 2).nl 3 xS 89).s [1,0,5] rfl rfl) (cN 2 e2) (rt rfl) ⟨_,_,_,pV,xU,lv⟩
 refine qG (oH e2 (jbK M e2 (oH e2 (jbK O e2 (jo rfl (jB λS c9=>(jk (λH=>xHn aA c d (H.r 1 rfl) S c9) λao=>fL 5 rfl (oD 2 rfl (xW ?_ ?_)))))))))
 ·refine xN (qC e5 (js [3,0,1,2,4] rfl (kG e3 (xT rfl (js [0,1,2,4] rfl (kY i (jh (λH=>H.um) ?_)))))));exact mA (λH=>(((H.nl 1 xF 2).nl 3 xS 89).nl 3 xO 91).s [2,1,0] rfl rfl) (cN 2 e2) (rt rfl) ⟨_,_,_,xU,sM,lv⟩
 refine qG (jo rfl ?_);refine qC (hone:=(λH=>oc rfl (oc (H.l 0 rfl).one on))) e5 (js [3,0,1,2,4] rfl ?_);refine kG (hv:=(λH=>oc rfl (oc (H.l 1 rfl).one (oc rfl (oc rfl (oc rfl on)))))) e3 (xX rfl (js [0,1,2,4] rfl (kY i (jh (λH=>H.um) ?_))));exact mA (λH=>((H.nl 3 xS 89).nl 3 xO 91).s [5,1,0] rfl rfl) (cN 2 e2) (rt rfl) ⟨_,_,_,xU,xU,lv⟩
def iI (d:Int) (c:A8) (e:List Int):Option Bool:= qD (σ:=Int) (oM (λf h i=>xH (ix c.left (f:Int)) λj=>xH (ck (j*h)) λp=>xH (ck (i+p)) λt=>some (.go t)) e 0 0) λx=>xH (ck (x - c.right)) λy=>xH (kX y d) λz=>some ((z==0))
theorem xIm {c t x} {d e} {f} (hN:HN B f) (E:xM c) (h:Bo B f (Pt 2 xL) d t) (j:Bo B f (Sl 1 xF) e x):∀ r,iI c t x=some r->CG B f 198 #[xB c,d,e] (sB r):=by
 refine vW func198 [(0,xB c),(1,d),(2,e)] hN λr=>?_;refine xK rfl (xI rfl (xA rfl (vA (λy=>.fa (xM y) <| .st [(0,xB c),(1,d),(7,xB y)] []) ?_ (λ_ _=>?_))))
 ·
  refine zH ?_;refine jl (λz p=>.fa (xM p) <| .st [(8,xB (z:Int)),(0,xB c),(1,d),(2,e),(7,xB p)] []) ⟨xU,ls⟩ (λ_ p _ G I=>?_) (λz _ _ i K _=>?_)
  ·have L:=oO G;refine xV (jA 2 rfl (jL j λ_=>xA rfl (zX L (xP ?_))));exact jf ⟨I,ls⟩
  refine xV (jA 2 rfl (jL j λA=>xA rfl (kA (xZ i) (oJ ?_))));have j1:=bV (Ae i) A;refine zH (jQ (vY 2 rfl (jqN h (cA h xL.f0 λ_ M=>eN M λ_ N=>vY 1 rfl (jB λX O=>(gU N O λ_ P=>kN P λ_=>vY 2 rfl (gU j K λ_ Q=>kN Q λ_=>jB λY R=>(jqv (λF H w l=>yB F rfl rfl R) ?_))))))));refine jB λZ C=>(jqv (λF H w l=>wF F rfl rfl C) (vY 1 rfl (lE (aK (jo rfl (oE (qE i A) (xA rfl ?_)))))));exact jg ⟨(zI C),ls⟩
 exact oQ (jA 2 rfl (jN h (kZ h xL.f1 λ_ S=>aJ S λ_=>jB λz4 D=>(fR D (jo rfl (jB λT U=>(jk (λH=>iL aA (zI D) E T U) λW=>qZ 2 rfl (qJ lv))))))))
def pY (N:Nat) (c d:Int) (h:List (List Int)):Option B3:= xH (qQ N c d) λB=>qD (σ:=Int×Int×(List A8)) (qU (λC s=>match s with | (i,j,p)=>xH (zJ N c d (1+(C:Int))) λf=>qD (σ:=Int) (qU (λt D=>xH (ix f (t:Int)) λE=>xH (ix h 0) λF=>xH (ix F (t:Int)) λG=>xH (ck (E*G)) λH=>xH (ck (D+H)) λI=>some (.go I)) d.toNat 0 0) λK=>xH (kX K c) λx=>qD (σ:=Bool) (oM (λS (L:(List Int)) M=>qD (σ:=Bool) (if M then xH (iI c (A8.mk f x) L) λO=>some (.nx O) else some (.nx false)) λP=>some (.go P)) h 0 true) λQ=>if Q then xH (ap p ([(A8.mk f x)])) λy=>xH (eW (B3.mk i j y)) λe=>some (.go (e.prime,e.unknowns,e.list)) else some (.go (i,j,p))) (B - 1).toNat 0 (c,d,[])) λ(R,z,A)=>some ((B3.mk R z A))
theorem xFp {f h x2} {p} {T} (hN:HN B T) (A:xM f) (C:xM h) (K:Bo B T (Sl 1 (zV 1 xF)) p x2):∀ r,pY N f h x2=some r->CG B T 138 #[xB f,xB h,p] (.v λa0=>.fa (xM r.prime) <| .fa (xM r.unknowns) <| .st (.agg #[xB r.prime,xB r.unknowns,a0]) λD=>rl 2 xL 186 a0 r.list::D):=by
 refine vW func138 [(0,xB f),(1,xB h),(2,p)] hN λr=>?_;refine aM rfl λc=>qS (jA 2 rfl (jR0 xL (λv1=>?_)));refine qC (hone:=(λH=>oc rfl (oc rfl (oc (H.l 0 rfl).one on)))) e5 (aM rfl (λd=>?_));refine kG (hv:=(λH=>oc rfl (oc rfl (oc (H.l 1 rfl).one on)))) e3 (cY (xA rfl (jB λz1 a1=>?_)));refine vA (λ(U,W,s3)=>.v λX=>.fa (xM U) <| .fa (xM W) <| .st [(6,oU c),(7,oU d)] [bx d [xB U,xB W,X] 150,rl 2 xL 186 X s3,bx c [xB 0,xB 0,aB] 150]) ?_ (λ(U,W,s3) X i1 i2=>?_)
 ·
  refine zH ?_;refine jc (λz (t,x,y)=>.v λe=>.fa (xM t) <| .fa (xM x) <| .st [(8,xB (1+(z:Int))),(0,xB f),(1,xB h),(2,p),(6,oU c),(7,oU d)] [bx d [xB t,xB x,e] 150,rl 2 xL 186 e y,bx c [xB 0,xB 0,aB] 150]) ⟨_,A,C,ls⟩ (λ_ (t,x,y) _ G e L M=>?_) (λ_ z (t,x,y) G e L M=>?_)
  ·have l1:=yF G;refine xV (jA 3 rfl (jk (λH=>zN aA A C z1 a1) λP=>xA rfl (zX l1 (xP ?_))));exact jf ⟨_,L,M,ls⟩
  refine xV (jA 3 rfl (jk (λH=>zN aA A C z1 a1) λP=>xA rfl (kA (tG G) (oJ ?_))));have j1:=xWn G zD P;have m1:=xHr G zD P;refine qH (jA 3 rfl (jB λE c1=>(jk (λH=>bK aA A C j1 E c1) (λi=>?_))));refine qC (hone:=(λH=>oc (H.l 0 rfl).one on)) e5 (aM rfl (λj=>?_));refine kG (hv:=(λH=>oc (H.l 1 rfl).one (oc rfl on))) e3 (cY (xA rfl ?_));refine vA (λs7=>.fa (xM s7) <| .st [(0,xB f),(1,xB h),(2,p),(6,oU c),(7,oU d),(8,xB (1+(z:Int))),(9,oU j)] [bx j [i,xB s7] 186,rl 1 xF 2 i E,bx d [xB t,xB x,e] 150,rl 2 xL 186 e y,bx c [xB 0,xB 0,aB] 150]) ?_ (λ_ i5=>?_)
  ·
   refine zH ?_;refine jc (λk2 Y=>.fa (xM Y) <| .st [(10,xB (k2:Int)),(0,xB f),(1,xB h),(2,p),(6,oU c),(7,oU d),(8,xB (1+(z:Int))),(9,oU j)] [bx j [i,xB Y] 186,rl 1 xF 2 i E,bx d [xB t,xB x,e] 150,rl 2 xL 186 e y,bx c [xB 0,xB 0,aB] 150]) ⟨xU,ls⟩ (λ_ Y _ I i6=>?_) (λ_ k2 _ I _=>?_)
   ·have l2:=vJ I;refine xV (oD 3 rfl (zX l2 (xP ?_)));exact jf ⟨i6,ls⟩
   refine xV (oD 3 rfl (kA (qW I) (oJ ?_)));have j2:=dL I C;refine zH (jB λz3 c2=>(jB λz4 c3=>(jB λz5 c4=>(jB λz6 c5=>(jB λz7 c6=>(jh (λH=>H.mg) (cM λ_ _ _ a2 g1 _ Q _=>?_)))))));have K1:=g1.l.bk;refine jD (kJ 0 rfl e2 (gH 1 rfl K1 e2 (kJ 2 rfl e2 (gH 3 rfl K1 e2 (zG [4] rfl (nM 5 rfl g1.r.ld c2 λ_ h1=>aY 6 rfl h1 λ_=>zG [7] rfl (nM 8 rfl K c3 λ_ h2=>rB (s:=λH w l=>(a2.trans (Sm.mono (H.v w l) Q.2.2))) 9 rfl h2 λ_ h3=>zG [10] rfl (nM 11 rfl h3 c4 λ_ h4=>aY (s:=λH w l=>(a2.trans (Sm.mono (H.v w l) Q.2.2))) 12 rfl h4 λ_=>jvz 13 rfl (λF H w l=>yB F rfl rfl c5) ?_))))))));refine jF9 14 rfl (kE c6 (aI (jF9 15 rfl (oH e2 (aI (jF9 16 rfl (kY Q (jh (λH=>H.um) (jW e3 (aI (gV (aK (jo rfl (oE (vZ I C) ?_))))))))))))));refine xA rfl ?_;exact jg ⟨(zI c6),ls⟩
  refine oQ (oH e2 (jb 0 e3 (jo rfl (jB λO c7=>(jk (λH=>iL aA i5 A O c7) λa3=>oH e2 (jW e3 (qS (xI rfl (xA rfl ?_)))))))));refine vA (λs9=>.st [(0,xB f),(1,xB h),(2,p),(6,oU c),(7,oU d),(8,xB (1+(z:Int))),(9,oU j),(11,.bool s9)] [bx j [i,xB O] 186,rl 1 xF 2 i E,bx d [xB t,xB x,e] 150,rl 2 xL 186 e y,bx c [xB 0,xB 0,aB] 150]) ?_ (λ_=>?_)
  ·
   refine zH ?_;refine jl (λZ R=>.st [(12,xB (Z:Int)),(0,xB f),(1,xB h),(2,p),(6,oU c),(7,oU d),(8,xB (1+(z:Int))),(9,oU j),(11,.bool R)] [bx j [i,xB O] 186,rl 1 xF 2 i E,bx d [xB t,xB x,e] 150,rl 2 xL 186 e y,bx c [xB 0,xB 0,aB] 150]) ls (λ_ R _ q1=>?_) (λZ _ R S y1=>?_)
   ·have l3:=oO q1;exact xV (jA 2 rfl (jL K λ_=>xA rfl (zX l3 (xP (jf ls)))))
   refine xV (jA 2 rfl (jL K λi7=>xA rfl (kA (xZ S) (oJ ?_))));have j3:=bV (Ae S) i7;refine zH ?_;refine vA (λa4=>.st [(0,xB f),(1,xB h),(2,p),(6,oU c),(7,oU d),(8,xB (1+(z:Int))),(9,oU j),(11,.bool a4),(12,xB (Z:Int))] [bx j [i,xB O] 186,rl 1 xF 2 i E,bx d [xB t,xB x,e] 150,rl 2 xL 186 e y,bx c [xB 0,xB 0,aB] 150]) ?_ (λa4=>?_)
   ·
    refine iQ (jA 2 rfl (dZ 62 (λ_=>?_) (λ_=>?_)))
    ·exact jA 3 rfl (jI K y1 λ_ h5=>aT h5 λ_ h6=>jB λz9 c8=>(jk (λH=>xIm aA A (xL.b (H.g 0 rfl).bk (H.l 1 rfl) a3) (H.a h6) z9 c8) (oD 2 rfl (jf ls))))
    exact oD 8 rfl (jf ls)
   exact aK (jo rfl (oE (qE S i7) (xA rfl (jg ls))))
  refine oQ (xA rfl (xW ?_ ?_))
  ·refine xN (oH e2 (jb 2 e3 (aH 0 e3 (js [1,0,2,3,4] rfl (jh (λH=>xL.w a3 H) (tD (λH=>El.agg) λ_=>jB λbb c9=>(js [3,0,1,2,4] rfl (jPL c9 λ_=>oH e2 (js [2,0,1,3] rfl (jW (hv:=(λH=>(H.l 1 rfl).one)) e3 (eR (jB λaf ag=>?_))))))))))));refine jk (λH=>xGb af ag _ aA (oZ.b (H.g 0 rfl).bk L M (H.l 1 rfl))) λv6 i8 i9=>js [1,0,2,3,4] rfl ?_;refine kG (hv:=(λH=>oc rfl (oc rfl (oc (H.l 1 rfl).one on)))) e3 (dI (jo rfl (xDv m1 (xA rfl (js [0,1,4] rfl ?_)))));exact jg ⟨_,i8,i9,ls⟩
  refine qM (jo rfl (xDv m1 (xA rfl (js [2,3,4] rfl ?_))));exact jg ⟨_,L,M,ls⟩
 refine oQ (aH 0 e3 (js [2,0,1] rfl ?_));refine kG (hv:=(λH=>oc rfl (oc rfl (oc (H.l 2 rfl).one on)))) e3 (lU ?_);exact j1m (λH=>H.s [2] rfl rfl) (cN 0 e2) ⟨_,i1,i2,lv⟩
end
section
open Go.Proofs.Tryz
set_option maxHeartbeats 1000000
set_option maxRecDepth 100000
open Go.RowKit
variable {B:Nat->Prop} {N:Nat}
def lB (N:Nat) (c:A6) (d:A7):Option (B3×Int):= xH (fP c.size) λx=>if (!x) then some ((B3.mk 0 0 ([])),4) else qD (σ:=List A8) (oM (λL (f:Con) y=>xH (ix c.rels f.rel) λe=>xH (gM N c.size e) λz=>if (!z) then some (.ret ((B3.mk 0 0 ([])),4)) else xH (pY N c.size e.arity e.tuples) λA=>qD (σ:=List A8) (oM (λM (h:A8) B=>xH (nJ (0:Int) d.vars) λC=>qD (σ:=List Int) (oM (λD (E:Int) i=>xH (ix f.scope (D:Int)) λj=>xH (ix i j) λF=>xH (ck (F+E)) λG=>xH (rm G c.size) λH=>some (.go (i.set (j).toNat H))) h.left 0 C) λI=>xH (ap B ([(A8.mk I h.right)])) λt=>some (.go t)) A.list 0 y) λK=>some (.go K)) d.cons 0 []) λp=>if (decide (24<(p.length:Int))) then some ((B3.mk 0 0 ([])),3) else some ((B3.mk c.size d.vars p),0)
theorem xGz {e h} {i j} {U} (hN:HN B U) (p:Bo B U (Pt 2 xC) i e) (t:Bo B U (Pt 2 xJ) j h):∀ r,lB N e h=some r->CG B U 93 #[i,j] (.v λag=>.fa (xM r.1.prime) <| .fa (xM r.1.unknowns) <| .fa (xM r.2) <| .st (.tuple #[.agg #[xB r.1.prime,xB r.1.unknowns,ag],xB r.2]) λD=>rl 2 xL 186 ag r.1.list::D):=by
 refine vW func93 [(0,i),(1,j)] hN λr=>?_;refine aM rfl λc=>xI rfl (jo rfl (jN p (kZ p xC.f0 λ_ h1=>aJ h1 λi1=>jB λz1 c16=>(jk (λH=>rY aA i1 z1 c16) (xA rfl (xW ?_ ?_))))))
 ·refine xN (qC e5 (kG e3 (xT rfl ?_)));exact mA (λH=>(H.nl 2 xL 186).s [0] rfl rfl) (cN 0 e2) (rt rfl) ⟨_,xU,xU,tY,lv⟩
 refine oJ (jD ?_);refine jdp (f:=1) (ls:=(bi 12 2047)) (.n λd=>.v λv2=>.fa (xM 0) <| .fa (xM 0) <| .fa (xM 0) <| .fa (xM 0) <| .fa (xM e.size) <| .fa (xM h.vars) <| .st [(0,i),(1,j),(4,oU c),(6,oU d),(30,(.agg #[xB e.size,xB h.vars,v2]))] [bx d [xB 0,xB 0,aB] 150,rl 2 xL 186 v2 ([]),bx c [xB 0,xB 0,aB] 150]) (λd v2 _ _ _ _ i2 i3=>?_) (λH1=>?_)
 ·
  refine jE 11 rfl ?_;refine kG (hv:=(λH=>oc rfl (oc rfl (oc (H.l 1 rfl).one on)))) e3 (qT (gV (bX (xA rfl ?_))));refine vA (λs1=>.v λv3=>.st [(4,oU c),(6,oU d)] [bx d [xB e.size,xB h.vars,v3] 150,rl 2 xL 186 v3 s1,bx c [xB 0,xB 0,aB] 150]) ?_ (λ_ v3=>?_)
  ·
   refine zH ?_;refine jl (λz W=>.v λI=>.st [(7,xB (z:Int)),(0,i),(1,j),(4,oU c),(6,oU d)] [bx d [xB e.size,xB h.vars,I] 150,rl 2 xL 186 I W,bx c [xB 0,xB 0,aB] 150]) ⟨_,ls⟩ (λ_ W _ q1 I=>?_) (λz _ W Z y1 I=>?_)
   ·have l1:=oO q1;refine xV (jA 2 rfl (jN t (kZ t xJ.f1 λ_ h2=>aT h2 λ_ h3=>jL h3 λ_=>xA rfl (zX l1 (xP ?_)))));exact jf ⟨_,ls⟩
   refine xV (jA 2 rfl (jN t (kZ t xJ.f1 λ_ h4=>aT h4 λ_ h5=>jL h5 λi4=>xA rfl (kA (xZ Z) (oJ ?_)))));have j1:=bV (Ae Z) i4;refine sJ (jQ (vY 1 rfl (jqN p (cA p xC.f1 λ_ h6=>eN h6 λ_ h7=>vY 1 rfl (jqN t (cA t xJ.f1 λ_ h8=>eN h8 λ_ h9=>vY 1 rfl (gU h9 y1 λ_ h10=>cA h10 vH.f0 λ_ ba=>kN ba λ_=>jB λz2 c1=>?_)))))));refine gU h7 c1 λ_ M=>vY 1 rfl (lE (bX (jo rfl (jN p (kZ p xC.f0 λ_ bb=>aJ bb λi5=>jo rfl (jB λz3 c2=>(jk (λH=>xGg aA i5 (H.a M) z3 c2) (xA rfl (xW ?_ ?_)))))))))
   ·refine xN (qC e5 (js [2,0,1] rfl (kG e3 (jo rfl (aZ (dB (zC (cV (eT ?_)))))))));exact mA (λH=>(H.nl 2 xL 186).s [0] rfl rfl) (cN 0 e2) (rt rfl) ⟨_,xU,xU,tY,lv⟩
   refine oJ (jB λy c3=>(jD ?_));refine jdp (f:=1) (ls:=(bi 15 16383)) (.n λA=>.v λP=>.fa (xM y.prime) <| .fa (xM y.unknowns) <| .st [(0,i),(1,j),(4,oU c),(6,oU d),(7,xB (z:Int)),(9,oU A),(73,(.agg #[xB y.prime,xB y.unknowns,P]))] [bx A [xB 0,xB 0,aB] 150,rl 2 xL 186 P y.list,bx d [xB e.size,xB h.vars,I] 150,rl 2 xL 186 I W,bx c [xB 0,xB 0,aB] 150]) (λA P _ _=>?_) (λH2=>?_)
   ·
    refine jE 14 rfl ?_;refine kG (hv:=(λH=>oc rfl (oc rfl (oc (H.l 1 rfl).one on)))) e3 (qT (gV (oQ (xA rfl ?_))));refine vA (λs3=>.v λv6=>.st [(0,i),(1,j),(4,oU c),(6,oU d),(7,xB (z:Int))] [bx d [xB e.size,xB h.vars,v6] 150,rl 2 xL 186 v6 s3,bx c [xB 0,xB 0,aB] 150]) ?_ (λs3 v6=>?_)
    ·
     refine zH ?_;refine jl (λK C=>.v λx=>.st [(10,xB (K:Int)),(0,i),(1,j),(4,oU c),(6,oU d),(7,xB (z:Int)),(9,oU A)] [bx A [xB y.prime,xB y.unknowns,P] 150,rl 2 xL 186 P y.list,bx d [xB e.size,xB h.vars,x] 150,rl 2 xL 186 x C,bx c [xB 0,xB 0,aB] 150]) ⟨_,ls⟩ (λ_ C _ q2 x=>?_) (λK L C a0 X x=>?_)
     ·have l2:=oO q2;refine xV (jo rfl (oH e2 (jb 0 e3 (nO (λH=>H.l 1 rfl) λ_=>xA rfl (zX l2 (xP (js [2,3,4] rfl ?_)))))));exact jf ⟨_,ls⟩
     refine xV (jo rfl (oH e2 (jb 0 e3 (nO (λH=>H.l 1 rfl) λi6=>xA rfl (kA (xZ a0) (oJ ?_))))));have j2:=bV (Ae a0) i6;refine sJ (jB λz5 c4=>(jh (λH=>H.mg) (cM λw1 X1 N1 O g1 _ G _=>?_)));have Y:=g1.l.bk;have Q:=g1.r.ld;refine jD ?_;refine jdp (f:=1) (ls:=(bi 14 8191)) (.n λE=>.v λv8=>.fa (xM L.right) <| .st [(0,i),(1,j),(4,oU c),(6,oU d),(7,xB (z:Int)),(9,oU A),(10,xB (K:Int)),(11,oU E),(92,(.agg #[v8,xB L.right]))] [bx E [aB,xB 0] 186,rl 1 xF 2 v8 z5,bx d [xB e.size,xB h.vars,x] 150,rl 2 xL 186 x C,bx c [xB 0,xB 0,aB] 150]) (λE v8 i7=>?_) (λH3=>?_)
     ·
      refine jE 13 rfl ?_;refine kG (hv:=(λH=>oc (H.l 1 rfl).one (oc rfl on))) e3 (qT (gV (bX (xA rfl ?_))));refine vA (λs5=>.v λv9=>.st [(0,i),(1,j),(4,oU c),(6,oU d),(7,xB (z:Int)),(9,oU A),(10,xB (K:Int)),(11,oU E)] [bx E [v9,xB L.right] 186,rl 1 xF 2 v9 s5,bx d [xB e.size,xB h.vars,x] 150,rl 2 xL 186 x C,bx c [xB 0,xB 0,aB] 150]) ?_ (λs5 _=>?_)
      ·
       refine zH ?_;refine jl (λk3 s6=>.v λS=>.st [(12,xB (k3:Int)),(0,i),(1,j),(4,oU c),(6,oU d),(7,xB (z:Int)),(9,oU A),(10,xB (K:Int)),(11,oU E)] [bx E [S,xB L.right] 186,rl 1 xF 2 S s6,bx d [xB e.size,xB h.vars,x] 150,rl 2 xL 186 x C,bx c [xB 0,xB 0,aB] 150]) ⟨_,ls⟩ (λ_ s6 _ q3 S=>?_) (λk3 _ s6 a1 y3 S=>?_)
       ·have l3:=oO q3;refine xV (jo rfl (oH e2 (jbK Y e2 (jo rfl (jI Q X λ_ bc=>kZ bc xL.f0 λ_ bd=>aT bd λ_ be=>jL be λ_=>xA rfl (zX l3 (xP ?_)))))));exact jf ⟨_,ls⟩
       refine xV (jo rfl (oH e2 (jbK Y e2 (jo rfl (jI Q X λ_ bf=>kZ bf xL.f0 λ_ bg=>aT bg λ_ bh=>jL bh λi8=>xA rfl (kA (xZ a1) (oJ ?_)))))));have j3:=bV (Ae a1) i8;refine qH (jo rfl (jN t (kZ t xJ.f1 λ_ bj=>aT (s:=λH=>(O.trans (Sm.mono H.sm G.2.2))) bj λ_ bm=>jo rfl (jI bm y1 λ_ bn=>kZ bn vH.f1 λ_ bp=>aT (s:=λH=>(O.trans (Sm.mono H.sm G.2.2))) bp λ_ br=>jo rfl (jB λz6 c5=>(jI br c5 λ_ bs=>aJ (s:=λH=>(O.trans (Sm.mono H.sm G.2.2))) bs λ_=>xA rfl ?_))))));refine jB λz7 c6=>(jB λz8 c7=>(jB λz9 c8=>(jh (λH=>H.mg) (cM λ_ _ _ a2 g2 e1 T _=>?_))));have K2:=g2.l.bk;refine jD (kJ 0 rfl e2 (gH 1 rfl K2 e2 (zG [2] rfl (kJ 3 rfl e2 (gH 4 rfl K2 e2 (zG [5] rfl (nM 6 rfl g2.r.ld c6 λ_ bt=>aY 7 rfl bt λ_=>kJ 8 rfl e2 (gH 9 rfl (Y.lf e1) e2 (zG [10] rfl (nM 11 rfl Q X λ_ bu=>gR 12 rfl bu xL.f0 λ_ bv=>rB (s:=λH w l=>(a2.trans (Sm.mono (H.v w l) T.2.2))) 13 rfl bv (λ_ bw=>?_)))))))))));refine zG [14] rfl (nM 15 rfl bw y3 λ_ c0=>aY (s:=λH w l=>(a2.trans (Sm.mono (H.v w l) T.2.2))) 16 rfl c0 λ_=>jvz 17 rfl (λF H w l=>wF F rfl rfl c7) (zG [18] rfl (jvN 19 rfl p (gR 20 rfl p xC.f0 λ_ h35=>aY (s:=λH w l=>(O.trans (Sm.mono (a2.trans (Sm.mono (H.v w l) T.2.2)) G.2.2))) 21 rfl h35 λi9=>jvz 22 rfl (λF H w l=>xEv F rfl rfl c8) (jF9 23 rfl (kY T (jh (λH=>H.um) (jRl 1 c6 λ_ rp1=>aI (jF9 24 rfl ?_)))))))));refine js [1,0,2,3,4] rfl (jh (λH=>H.lw) (jS rp1 (cI c6) (λH=>Eo.int (xHh c8 (zI c7) i9)) rfl (jh (λH=>H.tl) (aI (gV (aK (jo rfl (oE (qE a1 i8) (xA rfl (js [1,0,2,3,4] rfl ?_))))))))));exact jg ⟨_,ls⟩
      refine xNl (oH e2 (jb 2 e3 (aH 0 e3 (js [1,0,2,3,4] rfl (jh (λH=>xL.w i7 H) (tD (λH=>El.agg) λ_=>jB λdj c9=>(js [3,0,1,2,4] rfl (jPL c9 λdk=>oH e2 (js [2,0,1,3] rfl (jW (hv:=(λH=>(H.l 1 rfl).one)) e3 (dI (jo rfl ?_))))))))))));refine oE (qE a0 i6) (xA rfl (js [0,1,3] rfl (kY G (jh (λH=>H.um) ?_))));exact jg ⟨_,ls⟩
     refine jdp (f:=2) (ls:=(bi 14 6143)) (.n λb5=>.v λa3=>.fa (xM L.right) <| .st [(0,i),(1,j),(4,oU c),(6,oU d),(7,xB (z:Int)),(9,oU A),(10,xB (K:Int)),(11,oU b5),(85,a3),(91,xB L.right)] [bx b5 [aB,xB 0] 186,rl 1 xF 2 a3 z5,bx d [xB e.size,xB h.vars,x] 150,rl 2 xL 186 x C,bx c [xB 0,xB 0,aB] 150]) (λb5 a3 i10=>?_) (λH4=>?_)
     ·refine jE 11 rfl ?_;refine qC (hone:=(λH=>oc (H.l 1 rfl).one (oc rfl on))) e5 (qT ?_);exact H3 ⟨_,_,i10,ls⟩
     refine zG [0] rfl (jvN 1 rfl t (gR 2 rfl t xJ.f0 λ_ h36=>aY (s:=λH w l=>(O.trans (Sm.mono (H.v w l) G.2.2))) 3 rfl h36 λ_=>kJ 5 rfl e2 (gH 6 rfl Y e2 (zG [7] rfl (nM 8 rfl Q X λ_ h37=>gR 9 rfl h37 xL.f1 λ_ h38=>aY 10 rfl h38 λa4=>dV (λH=>H) 4 12 rfl rfl ?_ ?_)))))
     ·
      refine jRM (R:=xF) (λw=>⟨rfl,kS,rfl⟩) c4 λdm=>qT (dV (λH=>H) 11 12 rfl rfl ?_ ?_)
      ·refine qC (hone:=(λH=>oc (H.l 0 rfl).one (oc rfl on))) e5 (qT (jE 12 rfl (aM rfl λb6=>qT ?_)));exact H3 ⟨_,_,a4,ls⟩
      refine aM rfl λb7=>qT ?_;exact H4 ⟨_,_,a4,ls⟩
     refine aM rfl λb8=>qT (jE 4 rfl ?_);refine jRM (R:=xF) (λw=>⟨rfl,kS,rfl⟩) c4 λdp=>qT (js [1,0,2,3,4] rfl ?_);exact H4 ⟨_,_,a4,ls⟩
    refine aK (jo rfl (oE (qE Z i4) (xA rfl ?_)));exact jg ⟨_,ls⟩
   refine zG [0] rfl (jvN 1 rfl p (gR 2 rfl p xC.f0 λ_ h39=>aY 3 rfl h39 λah=>zG [4] rfl (jvN 5 rfl M (gR 6 rfl M oR.f0 λ_ h40=>aY 7 rfl h40 λai=>zG [8] rfl (jvN 9 rfl M (gR 10 rfl M oR.f1 λ_ h41=>rB 11 rfl h41 λ_ aj=>dV (λH=>H) 12 13 rfl rfl ?_ ?_))))))
   ·refine jk (λH=>xFp aA ah ai (H.a aj) y c3) λdq ca cb=>qT (jE 13 rfl (aM rfl λb9=>qT ?_));exact H2 ⟨_,_,ca,cb,ls⟩
   refine aM rfl λdr=>qT (jE 12 rfl (jk (λH=>xFp aA ah ai (H.a aj) y c3) λds cc cd=>qT (js [1,0,2,3,4] rfl ?_)));exact H2 ⟨_,_,cc,cd,ls⟩
  refine bX (oH e2 (jb 0 e3 (nO (λH=>H.l 1 rfl) λ_=>xA rfl (xW ?_ ?_))))
  ·refine xN (qC e5 (js [2,0,1] rfl (kG e3 (xT rfl ?_))));exact mA (λH=>(H.nl 2 xL 186).s [0] rfl rfl) (cN 0 e2) (rt rfl) ⟨_,xU,xU,iV,lv⟩
  refine qG (aH 0 e3 (js [2,0,1] rfl ?_));refine kG (hv:=(λH=>oc rfl (oc rfl (oc (H.l 2 rfl).one on)))) e3 (xX rfl ?_);exact mA (λH=>H.s [2] rfl rfl) (cN 0 e2) (rt rfl) ⟨_,i2,i3,xU,lv⟩
 refine jdp (f:=2) (ls:=(bi 12 1535)) (.n λa5=>.v λa6=>.fa (xM 0) <| .fa (xM 0) <| .fa (xM 0) <| .fa (xM 0) <| .fa (xM e.size) <| .fa (xM h.vars) <| .st [(0,i),(1,j),(4,oU c),(6,oU a5),(24,xB e.size),(28,xB h.vars),(29,a6)] [bx a5 [xB 0,xB 0,aB] 150,rl 2 xL 186 a6 ([]),bx c [xB 0,xB 0,aB] 150]) (λa5 a6 ce cf cg ch ci cj=>?_) (λH5=>?_)
 ·refine jE 9 rfl ?_;refine qC (hone:=(λH=>oc rfl (oc rfl (oc (H.l 1 rfl).one on)))) e5 (qT ?_);exact H1 ⟨_,_,ce,cf,cg,ch,ci,cj,ls⟩
 refine zG [0] rfl (jvN 1 rfl p (gR 2 rfl p xC.f0 λ_ cm=>aY 3 rfl cm λa7=>zG [4] rfl (jvN 5 rfl t (gR 6 rfl t xJ.f0 λ_ cn=>aY 7 rfl cn λa8=>dV (λH=>H) 8 10 rfl rfl ?_ ?_))))
 ·
  refine jR0 xL λdu=>qT (dV (λH=>H) 9 10 rfl rfl ?_ ?_)
  ·refine qC (hone:=(λH=>oc rfl (oc rfl (oc (H.l 0 rfl).one on)))) e5 (qT (jE 10 rfl (aM rfl λdw=>qT ?_)));exact H1 ⟨_,_,xU,xU,xU,xU,a7,a8,ls⟩
  refine aM rfl λdx=>qT ?_;exact H5 ⟨_,_,xU,xU,xU,xU,a7,a8,ls⟩
 refine aM rfl λdy=>qT (jE 8 rfl (jR0 xL λdz=>qT (js [1,0,2] rfl ?_)));exact H5 ⟨_,_,xU,xU,xU,xU,a7,a8,ls⟩
def mC (c:List Int):Option Int:= qD (σ:=Unit) (oM (λd (e:Int) s=>match s with | _=>if (e != 0) then some (.ret ((d:Int))) else some (.go ())) c 0 ()) λ_=>some ((-1))
theorem xIl {h} {c} {e} (hN:HN B e) (f:Bo B e (Sl 1 xF) c h):∀ r,mC h=some r->CG B e 142 #[c] (sI r):=by
 refine vW func142 [(0,c)] hN λr=>?_;refine xI rfl (xA rfl (vA (λ_=>.st [] []) ?_ (λ_=>?_)))
 ·
  refine zH (jl (λi _=>.st [(3,xB (i:Int)),(0,c)] []) ls (λ_ _ _ p=>?_) (λi _ _ d t=>?_))
  ·have x:=oO p;exact xV (jA 2 rfl (jL f λ_=>xA rfl (zX x (xP (jf ls)))))
  refine xV (jA 2 rfl (jL f λj=>xA rfl (kA (xZ d) (oJ (qH (jA 2 rfl (jI f t λ_ y=>aJ y λ_=>xA rfl (xW ?_ ?_))))))))
  ·refine xN (qA 2 rfl (dB (zC (cV (eT ?_)))));exact qJ ⟨(bV (Ae d) j),lv⟩
  exact qM (jo rfl (oE (qE d j) (xA rfl (jg ls))))
 refine oQ (xX rfl ?_);exact qJ ⟨kV,lv⟩
def gG (c:B3):Option ((List Int)×Int):= xH (uB (B3.mk c.prime c.unknowns c.list)) λi=>if (!i) then some ([],1) else xH (cS (B3.mk c.prime c.unknowns c.list)) λd=>xH (dS d.1 d.2) λp=>if (decide (0<=p)) then some ([],6) else xH (nJ (0:Int) c.unknowns) λj=>qD (σ:=List Int) (qU (λt e=>xH (ix d.1 (t:Int)) λf=>xH (mC f.left) λh=>xH (ix e h) λy=>some (.go (e.set (h).toNat f.right))) d.2.toNat 0 j) λx=>some (x,0)
theorem xDs {x} {e} {f} (hN:HN B f) (N:Bo B f (qR 3 oZ) e x):∀ r,gG x=some r->CG B f 94 #[e] (.v λt=>.fa (xM r.2) <| .st (.tuple #[t,xB r.2]) λD=>rl 1 xF 2 t r.1::D):=by
 refine vW func94 [(0,e)] hN λr=>?_;obtain⟨v1,rfl,y,z,A⟩:=oZ.o N;refine jX e2 λ_=>fL 2 rfl (jB λK O=>(jk (λH=>xEy aA (oZ.b (H.g 0 rfl).bk y z (H.a A)) K O) (xA rfl (xW ?_ ?_))))
 ·refine xN (jR0 xF λv2=>pC 2 rfl (js [0] rfl ?_));exact j2 (rt rfl) (rt rfl) ⟨_,zD,lv⟩
 refine qG (jB λh P=>(jk (λH=>rE h P _ aA (oZ.b (H.g 0 rfl).bk y z (H.a A))) λC i=>fL 5 rfl (jA 2 rfl (jB λQ S=>(jk (λH=>sD aA (H.l 0 rfl) i Q S) λa6=>xA rfl (xW ?_ ?_))))))
 ·refine xN (jR0 xF λv4=>pC 2 rfl (js [0] rfl ?_));exact j2 (rt rfl) (rt rfl) ⟨_,sM,lv⟩
 refine qG (oH e2 (jb 1 e3 (jB λa7 T=>?_)));refine jRM (R:=xF) (λw=>⟨rfl,kS,rfl⟩) T λv5=>xI rfl (xA rfl (vA (λU=>.v λj=>.st [(6,j)] [rl 1 xF 2 j U]) ?_ (λ_ j=>?_)))
 ·
  refine zH (js [0,1] rfl ?_);refine jc (λE p=>.v λd=>.st [(7,xB (E:Int)),(4,C),(5,xB h.2),(6,d)] [rl 1 xF 2 d p,rl 3 qO 194 C h.1]) ⟨_,ls⟩ (λ_ p _ c d=>?_) (λ_ E p c d=>?_)
  ·have W:=vJ c;refine xV (oD 3 rfl (zX W (xP (js [0] rfl ?_))));exact jf ⟨_,ls⟩
  refine xV (oD 3 rfl (kA (qW c) (oJ ?_)));have j1:=dL c i;refine zH (jB λz3 F=>(jB λX Y=>(jB λz5 G=>(js [1,0] rfl (cM λ_ _ _ _ Z _ L _=>?_)))));have I:=Z.ld;refine jD (zG [0,1,2] rfl (nM 3 rfl I F λ_ h3=>gR 4 rfl h3 qO.f0 λ_ h4=>rB 5 rfl h4 λ_ h5=>zG [7,8] rfl (nM 9 rfl I F λ_ h6=>gR 10 rfl h6 qO.f1 λ_ h7=>aY 11 rfl h7 λi4=>jE 6 rfl (jk (λH=>xIl aA (H.a h5) X Y) λa8=>qT (jE 12 rfl (jRl 0 G λ_ M=>qT ?_))))));refine jE 13 rfl (jh (λH=>H.lw) (jS M (cI G) (λH=>Eo.int i4) rfl (jh (λH=>H.tl) (qT (gV (aK (jo rfl (oE (vZ c i) (xA rfl (kY L (js [1,0] rfl ?_)))))))))));exact jg ⟨_,ls⟩
 refine oQ (qZ 3 rfl ?_);exact j2 (rt rfl) (rt rfl) ⟨_,xU,lv⟩
def eQ (N:Nat) (d:A6) (e:A7):Option (A9×Int):= xH (lD (A6.mk d.size d.rels) (A7.mk e.vars e.cons)) λh=>if (!h) then some ((A9.mk 0 ([]) ([]) ([]) ([])),1) else xH (lB N (A6.mk d.size d.rels) (A7.mk e.vars e.cons)) λc=>if (c.2 != 0) then some ((A9.mk 0 ([]) ([]) ([]) ([])),c.2) else xH (gG (B3.mk c.1.prime c.1.unknowns c.1.list)) λf=>if (f.2==0) then some ((A9.mk 0 f.1 ([]) ([]) ([])),0) else xH (fF (B3.mk c.1.prime c.1.unknowns c.1.list)) λi=>some ((A9.mk 3 ([]) ([]) ([]) i.1),0)
theorem yD {i j} {d e} {c} (hN:HN B c) (C:Bo B c (qR 2 xC) d i) (E:Bo B c (qR 2 xJ) e j):∀ r,eQ N i j=some r->CG B c 56 #[d,e] (.v λf=>.v λh=>.fa (xM r.1.kind) <| .fa (xM r.2) <| .st (.tuple #[.agg #[xB r.1.kind,f,aB,aB,h],xB r.2]) λD=>rl 1 xF 2 f r.1.values::ro B (V:=(Sl 1 xF)) h r.1.numbers::D):=by
 refine vW func56 [(0,d),(1,e)] hN λr=>?_;obtain⟨T,rfl,p,t⟩:=xC.o C;refine jX e2 (λ_=>?_);obtain⟨S,rfl,x,y⟩:=xJ.o E;refine jX e2 λ_=>aM rfl λ_=>xI rfl (jB λF G=>(jk (λH=>sP aA (xC.b (H.g 2 rfl).bk p (H.a t)) (xJ.b (H.g 1 rfl).bk x (H.a y)) F G) (xA rfl (xW ?_ ?_))))
 ·refine xN (qC e5 (kG e3 (xT rfl (js [0] rfl (jh (λH=>H.rob (Bo.snil (sz:=1) (R:=xF))) ?_)))));exact mA (λH=>(H.nl 1 xF 2).s [0,1] rfl rfl) (cN 1 e2) (rt rfl) ⟨_,_,xU,zD,lv⟩
 refine qG (jB λI K=>(jk (λH=>xGz aA (xC.b (H.g 2 rfl).bk p (H.a t)) (xJ.b (H.g 1 rfl).bk x (H.a y)) I K) λU z A L=>jA 3 rfl (aM rfl (λ_=>?_))));refine kG (hv:=(λH=>oc rfl (oc rfl (oc (H.l 1 rfl).one on)))) e3 (xI rfl (oD 2 rfl (xW ?_ ?_)))
 ·refine xN (qC e5 (jo rfl (js [2,0,1,3,4] rfl (kG e3 (xT rfl (js [0] rfl (jh (λH=>H.rob (Bo.snil (sz:=1) (R:=xF))) ?_)))))));exact mA (λH=>(H.nl 1 xF 2).s [0,1] rfl rfl) (cN 1 e2) (rt rfl) ⟨_,_,xU,L,lv⟩
 refine qG (aH 0 e3 (jB λM O=>?_));refine jk (λH=>xDs aA (oZ.m z A (H.l 1 rfl)) M O) λW _=>fL 5 rfl (oD 2 rfl (xW ?_ ?_))
 ·refine xN (jo rfl ?_);refine qC (hone:=(λH=>oc rfl (oc (H.l 0 rfl).one on))) e5 (js [3,0,1,2,4,5] rfl ?_);refine kG (hv:=(λH=>oc rfl (oc (H.l 1 rfl).one (oc rfl (oc rfl (oc rfl on)))))) e3 (xT rfl (js [0,1] rfl (jh (λH=>H.rob (Bo.snil (sz:=1) (R:=xF))) ?_)));exact mA (λH=>H.s [2,0] rfl rfl) (cN 1 e2) (rt rfl) ⟨_,_,xU,xU,lv⟩
 refine qG (aH 1 e3 (jB λP Q=>?_));refine jk (λH=>xDd P Q _ aA (oZ.m z A (H.l 2 rfl))) λX _=>jh (λH=>H.rok) (kW 5 rfl (jo rfl ?_));refine qC (hone:=(λH=>oc rfl (oc (H.ro 0 rfl).one on))) e5 (js [4,0,1,2,3,5,6] rfl ?_);refine kG (hv:=(λH=>oc rfl (oc rfl (oc rfl (oc rfl (oc (H.ro 1 rfl).one on)))))) e3 (xX rfl (js [0,1] rfl (js [1,0] rfl ?_)));exact mA (λH=>(H.nl 1 xF 2).s [0,1] rfl rfl) (cN 1 e2) (rt rfl) ⟨_,_,iV,xU,lv⟩
def pM (N:Nat) (c:A6) (e:A7):Option (Int×A9×Int):= xH (lD (A6.mk c.size c.rels) (A7.mk e.vars e.cons)) λt=>if (!t) then some (0,(A9.mk 0 ([]) ([]) ([]) ([])),1) else xH (pS N (A6.mk c.size c.rels)) λd=>if (d.2.2 != 0) then some (0,(A9.mk 0 ([]) ([]) ([]) ([])),d.2.2) else qD (σ:=Int×Int×(List Int)×(List B1)×(List B0)×(List Int)) (if (d.1==1) then xH (ix d.2.1.table 0) λx=>xH (cQ N (A6.mk c.size c.rels) (A7.mk e.vars e.cons) x) λj=>some (.nx (j.2,j.1.kind,j.1.values,[],[],[])) else if (d.1==2) then xH (cZ N (A6.mk c.size c.rels) (A7.mk e.vars e.cons) (Op.mk d.2.1.arity d.2.1.table)) λh=>some (.nx (h.2,h.1.kind,h.1.values,h.1.arcs,[],[])) else if (d.1==3) then xH (fI N (A6.mk c.size c.rels) (A7.mk e.vars e.cons) (Op.mk d.2.1.arity d.2.1.table)) λf=>some (.nx (f.2,f.1.kind,f.1.values,f.1.arcs,f.1.pairs,[])) else xH (eQ N (A6.mk c.size c.rels) (A7.mk e.vars e.cons)) λi=>some (.nx (i.2,i.1.kind,i.1.values,[],[],i.1.numbers))) λ(p,y,z,A,B,C)=>if (p != 0) then some (0,(A9.mk 0 ([]) ([]) ([]) ([])),p) else some (d.1,(A9.mk y z A B C),0)
theorem yC {K L} {j p} {h} (hN:HN B h) (A0:Bo B h (qR 2 xC) j K) (A1:Bo B h (qR 2 xJ) p L):∀ r,pM N K L=some r->CG B h 34 #[j,p] (.v λE=>.v λF=>.v λG=>.v λI=>.fa (xM r.1) <| .fa (xM r.2.1.kind) <| .fa (xM r.2.2) <| .st (.tuple #[xB r.1,.agg #[xB r.2.1.kind,E,F,G,I],xB r.2.2]) λD=>rl 1 xF 2 E r.2.1.values::rl 3 xS 89 F r.2.1.arcs::rl 3 xO 91 G r.2.1.pairs::ro B (V:=(Sl 1 xF)) I r.2.1.numbers::D):=by
 refine vW func34 [(0,j),(1,p)] hN λr=>?_;obtain⟨v2,rfl,c,d⟩:=xC.o A0;refine jX e2 (λ_=>?_);obtain⟨aw,rfl,e,f⟩:=xJ.o A1;refine jX e2 λ_=>jo rfl (aM rfl λM=>xI rfl (jB λz1 c1=>(jk (λH=>sP aA (xC.b (H.g 2 rfl).bk c (H.a d)) (xJ.b (H.g 1 rfl).bk e (H.a f)) z1 c1) (xA rfl (xW ?_ ?_)))))
 ·refine xN (qC e5 (jo rfl (kG e3 (xT rfl (js [0] rfl (jh (λH=>H.rob (Bo.snil (sz:=1) (R:=xF))) ?_))))));exact j3m (λH=>(((H.nl 1 xF 2).nl 3 xS 89).nl 3 xO 91).s [2,1,0,3] rfl rfl) (rt rfl) (cN 1 e2) (rt rfl) ⟨_,_,_,_,xU,xU,zD,lv⟩
 refine qG (jB λO c2=>(jk (λH=>xGs aA (xC.b (H.g 2 rfl).bk c (H.a d)) O c2) λv3 i3 P i5=>jA 4 rfl (aM rfl λ_=>jo rfl ?_)));refine kG (hv:=(λH=>oc rfl (oc (H.l 1 rfl).one on))) e3 (xI rfl (oD 2 rfl (xW ?_ ?_)))
 ·refine xN (qC e5 (jA 2 rfl (js [2,0,1,3,4] rfl (kG e3 (xT rfl (js [0] rfl (jh (λH=>H.rob (Bo.snil (sz:=1) (R:=xF))) ?_)))))));exact j3m (λH=>(((H.nl 1 xF 2).nl 3 xS 89).nl 3 xO 91).s [2,1,0,3] rfl rfl) (rt rfl) (cN 1 e2) (rt rfl) ⟨_,_,_,_,xU,xU,i5,lv⟩
 refine qG (qC e5 (aM rfl λQ=>kG e3 (cY (xA rfl ?_))));refine vA (λ(t,x,S,T,U,W)=>.v λy=>.v λz=>.v λA=>.v λC=>.fa (xM t) <| .fa (xM x) <| .st [(5,oU M),(7,xB O.1),(9,xB t),(10,oU Q)] [ro B (V:=(Sl 1 xF)) C W,rl 3 xO 91 A U,rl 3 xS 89 z T,rl 1 xF 2 y S,bx Q [xB x,y,z,A,C] 57,bx M [xB 0,aB,aB,aB,aB] 57]) ?_ (λ(t,x,S,T,U,W) y z A C i6 i7=>?_)
 ·
  refine qH (oD 2 rfl (xW ?_ ?_))
  ·refine jB λz3 c3=>(jB λz4 c4=>(js [1,2,4,5,0,3] rfl (jh (λH=>H.mg) (jh (λH=>H.mg) (jh (λH=>H.mg) (cM λ_ _ _ _ i X Y _=>(jD (rQ 0 rfl i.r.bk e2 (rQ 1 rfl i.l.r.bk e2 (kJ 2 rfl e2 (gH 3 rfl i.l.l.l.bk e2 (nM 4 rfl i.l.l.r.ld c3 λ_ h3=>aY 5 rfl h3 λi8=>jE 6 rfl ?_))))))))))));refine jk (λH=>yS aA (xC.m c (H.a (X d))) (xJ.m e (H.a (X f))) i8 z4 c4) λv8 i9 Z=>qT (zG [7,8,9] rfl (jE 10 rfl (js [1,0,2] rfl ?_)));refine kG (hv:=(λH=>oc rfl (oc (H.l 1 rfl).one (oc rfl (oc rfl (oc rfl on)))))) e3 (qT (zG [11] rfl (gV (oBg (kY Y (jh (λH=>H.um) (jh (λH=>H.um) (jh (λH=>H.um) (jh (λH=>H.nl 3 xS 89) (jh (λH=>H.nl 3 xO 91) (jh (λH=>H.nl 1 xF 2) (jh (λH=>H.lw) (jh (λH=>H.rwo) (jh (λH=>H.rok) ?_))))))))))))));refine js [0,1,2,8,7,9] rfl ?_;exact jf ⟨_,_,_,_,Z,i9,ls⟩
  refine xN (oD 2 rfl (xW ?_ ?_))
  ·refine iQ (aH 5 e3 (aH 4 e3 (aH 1 e3 (jB λz5 c5=>?_))));refine jk (λH=>uQ aA (xC.m c (H.a d)) (xJ.m e (H.a f)) (vX.m P (H.l 2 rfl)) z5 c5) λv9 ax a0 a1=>jA 3 rfl (js [2,0,1,3,4,5,6,7] rfl ?_);refine kG (hv:=(λH=>oc rfl (oc (H.l 1 rfl).one (oc (H.l 2 rfl).one (oc rfl (oc rfl on)))))) e3 (jo rfl (xNv (jh (λH=>H.nl 3 xO 91) (jh (λH=>H.nl 1 xF 2) (jh (λH=>H.lw) (jh (λH=>H.rwo) (jh (λH=>H.rok) (js [0,1,4,3,2,7] rfl ?_))))))));exact jf ⟨_,_,_,_,a1,a0,ls⟩
  refine xN (oD 2 rfl (xW ?_ ?_))
  ·refine iQ (aH 5 e3 (aH 4 e3 (aH 1 e3 (jB λz6 c6=>?_))));refine jk (λH=>yN aA (xC.m c (H.a d)) (xJ.m e (H.a f)) (vX.m P (H.l 2 rfl)) z6 c6) λay az b0 a2 a3=>jA 3 rfl (js [3,0,1,2,4,5,6,7,8] rfl ?_);refine kG (hv:=(λH=>oc rfl (oc (H.l 1 rfl).one (oc (H.l 2 rfl).one (oc (H.l 3 rfl).one (oc rfl on)))))) e3 (jo rfl (xNv (jh (λH=>H.nl 1 xF 2) (jh (λH=>H.lw) (jh (λH=>H.rwo) (jh (λH=>H.rok) (js [0,4,3,2,1,7] rfl ?_)))))));exact jf ⟨_,_,_,_,a3,a2,ls⟩
  refine iQ (aH 5 e3 (aH 4 e3 (jB λz7 c7=>?_)));refine jk (λH=>yD H.hN (xC.m c (H.u d)) (xJ.m e (H.u f)) z7 c7) λb1 b2 a4 a5=>jA 3 rfl (js [2,0,1,3,4,5,6,7] rfl ?_);refine kG (hv:=(λH=>oc rfl (oc (H.l 1 rfl).one (oc rfl (oc rfl (oc (H.ro 2 rfl).one on)))))) e3 (jo rfl (xNv (jh (λH=>H.nl 3 xS 89) (jh (λH=>H.nl 3 xO 91) (js [4,0,1,3,2,7] rfl ?_)))));exact jf ⟨_,_,_,_,a5,a4,ls⟩
 refine bX (oD 2 rfl (xW ?_ ?_))
 ·refine xN (qC e5 (jA 2 rfl (js [5,0,1,2,3,4] rfl (kG e3 (xT rfl (js [0] rfl (jh (λH=>H.rob (Bo.snil (sz:=1) (R:=xF))) ?_)))))));exact j3m (λH=>(((H.nl 1 xF 2).nl 3 xS 89).nl 3 xO 91).s [2,1,0,3] rfl rfl) (rt rfl) (cN 1 e2) (rt rfl) ⟨_,_,_,_,xU,xU,i6,lv⟩
 refine oJ (js [4,0,1,2,3,5] rfl (cM λ_ _ _ _ g2 _ a6 _=>(jD (zG [0] rfl (rQ 1 rfl g2.bk e2 (zG [2] rfl (jE 3 rfl (js [4,0,1,2,3] rfl ?_))))))));refine kG (hv:=(λH=>oc rfl (oc (H.l 4 rfl).one (oc (H.l 3 rfl).one (oc (H.l 2 rfl).one (oc (H.ro 1 rfl).one on)))))) e3 (qT (zG [4] rfl (gV (lY (kY a6 (js [2,0,1,3,4,5] rfl ?_))))));exact j3m (λH=>H.s [5,4,3,0] rfl rfl) (rt rfl) (cN 2 e2) (rt rfl) ⟨_,_,_,_,i3,i7,xU,lv⟩
def dY (N:Nat) (d:B6):Option ((List A9)×Bool):= qD (σ:=Bool) (xH (bH d.template) λf=>if (!f) then some (.nx true) else xH (kR (d.jobs.length:Int) 1 4) λh=>if (!h) then some (.nx true) else xH (kR d.clerks 1 3) λi=>some (.nx (!i))) λe=>if e then some ([],false) else qD (σ:=List A9) (oM (λy (j:A7) p=>xH (pM N d.template j) λc=>if (c.2.2 != 0) then some (.ret ([],false)) else xH (ap p ([(A9.mk c.2.1.kind c.2.1.values c.2.1.arcs c.2.1.pairs c.2.1.numbers)])) λt=>some (.go t)) d.jobs 0 []) λx=>some (x,true)
theorem xEu {K} {h} {t} (hN:HN B t) (c:Bo B t (Pt 4 vT) h K):∀ r,dY N K=some r->CG B t 15 #[h] (.v λF=>.st (.tuple #[F,.bool r.2]) λD=>rw B 5 oK 57 F r.1::D):=by
 refine vW func15 [(0,h)] hN λr=>?_;refine jA 2 rfl (gL (vA (λQ=>.st [(0,h),(30,.bool Q)] []) ?_ (λ_=>?_)))
 ·
  refine iQ (jo rfl (jN c (jF (s':=2) c vT.f0 λ_ W=>jB λX Y=>(jk (λH=>mZ aA (H.a W) X Y) (jA 2 rfl (dZ 14 (λ_=>?_) (λ_=>?_)))))))
  ·exact oD 16 rfl (jf ls)
  refine jo rfl (jN c (kZ c vT.f1 λ_ Z=>aT Z λ_ h3=>jL h3 λi1=>jB λz2 c2=>(jk (λH=>kM aA i1 zD tY z2 c2) (jA 3 rfl (dZ 23 (λ_=>?_) (λ_=>?_))))))
  ·exact oD 7 rfl (jf ls)
  exact jo rfl (jN c (kZ c vT.f2 λ_ h4=>aJ h4 λi2=>jB λz3 c3=>(jk (λH=>kM aA i2 zD iV z3 c3) (oD 2 rfl (jf ls)))))
 refine dA (xW ?_ ?_)
 ·refine xN (jR0 oK λv1=>pC 2 rfl (jh (λH=>H.lw) (jh (λH=>H.wk) ?_)));exact j2 (rt rfl) (rt rfl) ⟨_,lv⟩
 refine qG (jR0 oK λv2=>xI rfl (xA rfl (vA (λs1=>.v λx=>.st [(4,x)] [rw B 5 oK 57 x s1]) ?_ (λ_ x=>?_))))
 ·
  refine zH (jh (λH=>H.lw) (jh (λH=>H.wk) ?_));refine jl (λy j=>.v λi=>.st [(5,xB (y:Int)),(0,h),(4,i)] [rw B 5 oK 57 i j]) ⟨_,ls⟩ (λ_ j _ q1 i=>?_) (λy _ j p y1 i=>?_)
  ·have l1:=oO q1;refine xV (jA 2 rfl (jN c (kZ c vT.f1 λ_ h5=>aT h5 λ_ h6=>jL h6 λ_=>xA rfl (zX l1 (xP ?_)))));exact jf ⟨_,ls⟩
  refine xV (jA 2 rfl (jN c (kZ c vT.f1 λ_ h7=>aT h7 λ_ h8=>jL h8 λL=>xA rfl (kA (xZ p) (oJ ?_)))));have j1:=bV (Ae p) L;refine sJ (jB λd M=>(jD ?_));refine jdp (f:=3) (ls:=(bi 20 131071)) (.n λO=>.v λz=>.v λA=>.v λC=>.v λE=>.fa (xM d.1) <| .fa (xM d.2.1.kind) <| .fa (xM d.2.2) <| .st [(0,h),(4,i),(5,xB (y:Int)),(7,oU O),(55,xB d.1),(56,(.agg #[xB d.2.1.kind,z,A,C,E])),(57,xB d.2.2)] [bx O [xB 0,aB,aB,aB,aB] 57,rl 1 xF 2 z d.2.1.values,rl 3 xS 89 A d.2.1.arcs,rl 3 xO 91 C d.2.1.pairs,ro B (V:=(Sl 1 xF)) E d.2.1.numbers,rw B 5 oK 57 i j]) (λ_ z A C E _ i4 _=>?_) (λP=>?_)
  ·
   refine zG [17] rfl (jE 18 rfl ?_);refine kG (hv:=(λH=>oc rfl (oc (H.l 1 rfl).one (oc (H.l 2 rfl).one (oc (H.l 3 rfl).one (oc (H.ro 4 rfl).one on)))))) e3 (qT (zG [19] rfl (gV (bX (oD 2 rfl (xW ?_ ?_))))))
   ·refine xN (jR0 oK λv9=>jA 2 rfl (aZ (dB (zC (cV (eT (jh (λH=>H.lw) (jh (λH=>H.wk) (js [0] rfl ?_)))))))));exact j2 (rt rfl) (rt rfl) ⟨_,lv⟩
   refine xLe (jo rfl (aH 0 e3 (js [1,2,3,4,0,5] rfl (jh (λH=>H.mg) (jh (λH=>H.mg) (jh (λH=>H.mg) ?_))))));refine jR1c (N1:=B) n1 (nel (nel (nel n0 n0) n0) n1) (λH=>λe q=>(Eo.agg (oK.m i4 q.l.l.l.ld q.l.l.r.ld q.l.r.ld q.r.rod))) λ_=>jB λz5 c5=>(js [2,0,1] rfl (jP c5 λao=>zL 1 rfl (jo rfl (oE (qE p L) (xA rfl (js [0] rfl ?_))))));exact jg ⟨_,ls⟩
  refine zG [0] rfl (jvN 1 rfl c (jvF (s':=2) 2 rfl c vT.f0 λ_ h9=>xFu 3 rfl h9 λ_ G=>zG [4] rfl (jvN 5 rfl c (gR 6 rfl c vT.f1 λ_ R=>rB 7 rfl R λ_ S=>zG [8] rfl (nM 9 rfl S y1 λ_ T=>xFu 10 rfl T λ_ I=>dV (λH=>H) 11 16 rfl rfl ?_ ?_)))))
  ·refine jk (λH=>yC H.hN (H.u G) (H.u I) d M) λaq ar au av i5 i6 i7=>qT (zG [12,13,14,15] rfl (jE 16 rfl (aM rfl λb2=>qT ?_)));exact P ⟨_,_,_,_,_,i5,i6,i7,ls⟩
  refine aM rfl λb3=>qT (jE 11 rfl (jk (λH=>yC H.hN (H.u G) (H.u I) d M) λaw ax ay az i8 i9 U=>qT (zG [12,13,14,15] rfl (js [4,0,1,2,3,5] rfl ?_))));exact P ⟨_,_,_,_,_,i8,i9,U,ls⟩
 refine oQ (qZ 3 rfl ?_);exact j2 (rt rfl) (rt rfl) ⟨_,lv⟩
def mL (N:Nat) (c:B6):Option ((List A9)×Int):= xH (dY N (B6.mk (A6.mk c.template.size c.template.rels) c.jobs c.clerks)) λd=>if (!d.2) then some ([],1) else some (d.1,0)
theorem xFi {f} {c} {d} (hN:HN B d) (t:Bo B d (qR 4 vT) c f):∀ r,mL N f=some r->CG B d 5 #[c] (.v λe=>.fa (xM r.2) <| .st (.tuple #[e,xB r.2]) λD=>rw B 5 oK 57 e r.1::D):=by
 refine vW func5 [(0,c)] hN λr=>?_;obtain⟨G,I,rfl,x,y,z,i⟩:=vT.o t;refine jX e2 λ_=>kW 2 rfl (cM λ_ _ _ _ A h j p=>?_);have C:=A.bk;refine jB λE F=>(jk (λH=>xEu H.hN (vT.b (C.to H.sm) x (H.u (h y)) (H.u (h z)) i) E F) λK=>fL 5 rfl (oD 2 rfl (xW ?_ ?_)))
 ·refine xN (jR0 oK λL=>pC 2 rfl (js [0] rfl (kY j (js [1,0] rfl (jh (λH=>H.lw) (jh (λH=>H.wk) (js [0] rfl ?_)))))));exact j2 (rt rfl) (rt rfl) ⟨_,zD,lv⟩
 refine qG (qZ 3 rfl (jh (λH=>p Ab.rw H (Ns.all trivial)) ?_));exact j2 (rt rfl) (rt rfl) ⟨_,xU,lv⟩
def bI (c d e:Int):Option Bool:= qD (σ:=Bool) (if (decide (d<=c)) then some (.nx (decide (c<=e))) else some (.nx false)) λf=>some f
theorem bN {c d e} {f} (hN:HN B f) (i:xM c) (j:xM d) (p:xM e):∀ r,bI c d e=some r->CG B f 38 #[xB c,xB d,xB e] (sB r):=by
 refine vW func38 [(0,xB c),(1,xB d),(2,xB e)] hN λr=>?_;refine xR rfl (vA (λh=>.st [(6,.bool h)] []) ?_ (λ_=>?_))
 ·
  refine iQ (jA 4 rfl (dZ 10 (λ_=>?_) (λ_=>?_)))
  ·exact oD 5 rfl (jf ls)
  exact oD 5 rfl (jf ls)
 exact lY (qJ lv)
def nG (c:Int):Option Bool:= xH (bI c 1 4) λd=>some d
theorem wM {c} {d} (hN:HN B d) (e:xM c):∀ r,nG c=some r->CG B d 59 #[xB c] (sB r):=by
 refine jiN func59 [(0,xB c)] hN λr=>?_;exact xN (xK rfl (jo rfl (jB λf h=>(jk (λH=>bN aA e zD tY f h) (xX rfl (qJ lv))))))
def tA (c:Int):Option Bool:= xH (bI c 1 4) λd=>some d
theorem xLc {c} {d} (hN:HN B d) (e:xM c):∀ r,tA c=some r->CG B d 99 #[xB c] (sB r):=by
 refine jiN func99 [(0,xB c)] hN λr=>?_;exact xN (xK rfl (jo rfl (jB λf h=>(jk (λH=>bN aA e zD tY f h) (xX rfl (qJ lv))))))
def fD (c d:Int):Option Bool:= xH (ck (c - 1)) λe=>xH (bI d 0 e) λf=>some f
theorem tK {c d} {e} (hN:HN B e) (p:xM c) (h:xM d):∀ r,fD c d=some r->CG B e 147 #[xB c,xB d] (sB r):=by
 refine jiN func147 [(0,xB c),(1,xB d)] hN λr=>?_;exact xN (xK rfl (jA 2 rfl (jB λt f=>(fR f (jB λi j=>(jk (λH=>bN aA h xU (zI f) i j) (xX rfl (qJ lv))))))))
def lL (c d:Int):Option Bool:= xH (fD d c) λe=>some ((!e))
theorem xEd {c f} {d} {e} (hN:HN B e) (h:xM c) (i:Bo B e (Pt 1 xF) d f):∀ r,lL c f=some r->CG B e 146 #[xB c,d] (sB r):=by
 refine jiN func146 [(0,xB c),(1,d)] hN λr=>?_;exact xN (xK rfl (aJ i λj=>jo rfl (jB λp t=>(jk (λH=>tK aA j h p t) (qZ 2 rfl (qJ lv))))))
def qK (c:List Int) (d:Int->Option Bool):Option Int:= qD (σ:=Unit) (oM (λe (f:Int) s=>match s with | _=>xH (d f) λh=>if h then some (.ret ((e:Int))) else some (.go ())) c 0 ()) λ_=>some ((-1))
theorem bT {i p} {f c e} {d} (hN:HN B d) (t:Bo B d (Sl 1 xF) f i) (z:∀ args w,(callFunc c args).run prog w= .ok (.enter c args) w) (A:∀ (j:Int) (r:Bool),p j=some r->∀ W,Below d.heap.size d W->xM j->Calls prog c ([xB j]++e:List Vl).toArray W (Gt (All W) W [] (sB r))):∀ r,qK i p=some r->CG B d 203 #[f,.func (.func c) #[] e.toArray] (sI r):=by
 refine vW func203 [(0,f),(1,.func (.func c) #[] e.toArray)] hN λr=>?_;refine xI rfl (jo rfl (jL t λx=>xA rfl (vA (λ_=>.st [] []) ?_ (λ_=>?_))))
 ·
  refine zH (jl (λy _=>.st [(8,xB (y:Int)),(0,f),(1,.func (.func c) #[] e.toArray),(7,xB (i.length:Int))] []) ls (λ_ _ _ D=>?_) (λy _ _ h E=>?_))
  ·have F:=oO D;exact xN (xR rfl (zX F (xP (jf ls))))
  refine xN (xR rfl (kA (xZ h) (oJ (qH (kW 2 rfl (jA 3 rfl (jI t E λ_ G=>aJ G λC=>jB λI K=>?_)))))));refine jkV z e2 (λH=>A _ I K _ H.bl C) (aI (xW ?_ ?_))
  ·refine xN (qA 2 rfl (dB (zC (cV (eT ?_)))));exact qJ ⟨(bV (Ae h) x),lv⟩
  exact qM (oE (qE h x) (xA rfl (jg ls)))
 refine oQ (xX rfl ?_);exact qJ ⟨kV,lv⟩
def vP (c:List Int) (d:Int->Option Bool):Option Bool:= xH (qK c d) λe=>some ((decide (0<=e)))
theorem bB {j p} {i c f} {d} (hN:HN B d) (y:Bo B d (Sl 1 xF) i j) (t:∀ args w,(callFunc c args).run prog w= .ok (.enter c args) w) (x:∀ (e:Int) (r:Bool),p e=some r->∀ W,Below d.heap.size d W->xM e->Calls prog c ([xB e]++f:List Vl).toArray W (Gt (All W) W [] (sB r))):∀ r,vP j p=some r->CG B d 145 #[i,.func (.func c) #[] f.toArray] (sB r):=by
 refine jiN func145 [(0,i),(1,.func (.func c) #[] f.toArray)] hN λr=>?_;exact xN (xK rfl (jA 2 rfl (jB λz A=>(jk (λH=>bT aA (H.a y) t (λe r h W C=>x e r h W (H.bl.trans (C.mono H.fr.size))) z A) λD=>qZ 2 rfl (qJ lv)))))
def bA (d:Int) (c:List Int) (e:Int):Option Bool:= qD (σ:=Bool) (if ((c.length:Int)==e) then xH (vP c (λf=>lL f d)) λh=>some (.nx (!h)) else some (.nx false)) λi=>some i
theorem lR {c i d} {e} {f} (hN:HN B f) (p:xM c) (j:Bo B f (Sl 1 xF) e i) (A:xM d):∀ r,bA c i d=some r->CG B f 100 #[xB c,e,xB d] (sB r):=by
 refine vW func100 [(0,xB c),(1,e),(2,xB d)] hN λr=>?_;refine jX e2 λ_=>xR rfl (vA (λt=>.st [(6,.bool t)] []) ?_ (λ_=>?_))
 ·
  refine iQ (jo rfl (jL j λ_=>jA 3 rfl (dZ 11 (λ_=>?_) (λ_=>?_))))
  ·exact jo rfl (cU e2 (jB λx y=>(jk (λH=>bB aA (H.a j) call146 (λC r h W z f0=>xEd aA f0 ((c1I (H.g 0 rfl).bk p).w z) r h) x y) (oD 3 rfl (js [] rfl (jf ls))))))
  exact oD 6 rfl (js [] rfl (jf ls))
 exact lY (qJ lv)
def mP (c:Int):Option Bool:= some ((c != c))
theorem uW {c} {d} (hN:HN B d) (e:xM c):∀ r,mP c=some r->CG B d 204 #[xB c] (sB r):=by
 refine jiN func204 [(0,xB c)] hN λr=>?_;exact xN (xK rfl (qZ 4 rfl (qJ lv)))
def eX (c d:Int):Option Int:= xH (mP c) λf=>xH (mP d) λe=>if f then if e then some 0 else some ((-1)) else if e then some 1 else if (decide (c<d)) then some ((-1)) else if (decide (d<c)) then some 1 else some 0
theorem xDf {c d} {e} (hN:HN B e) (f:xM c) (h:xM d):∀ r,eX c d=some r->CG B e 148 #[xB c,xB d] (sI r):=by
 refine vW func148 [(0,xB c),(1,xB d)] hN λr=>?_;refine xK rfl (jo rfl (jB λi j=>(jk (λH=>uW aA f i j) (xK rfl (jo rfl (jB λp t=>(jk (λH=>uW aA h p t) (xI rfl (xA rfl ?_)))))))));refine xW ?_ ?_
 ·
  refine xV (xA rfl (xW ?_ ?_))
  ·refine xN (jo rfl (xJn ?_));exact qJ ⟨xU,lv⟩
  refine qG (xT rfl ?_);exact qJ ⟨kV,lv⟩
 refine qY (xA rfl (xW ?_ ?_))
 ·refine xN (xT rfl ?_);exact qJ ⟨zD,lv⟩
 refine qY (oD 3 rfl (xW ?_ ?_))
 ·refine xN (xT rfl ?_);exact qJ ⟨kV,lv⟩
 refine qY (oD 3 rfl (xW ?_ ?_))
 ·refine xN (xT rfl ?_);exact qJ ⟨zD,lv⟩
 refine qG (xX rfl ?_);exact qJ ⟨xU,lv⟩
def kB (d c:List Int):Option Int:= qD (σ:=Unit) (oM (λe (h:Int) s=>match s with | _=>if (decide ((c.length:Int)<=(e:Int))) then some (.ret 1) else xH (ix c (e:Int)) λi=>xH (eX h i) λf=>if (f != 0) then some (.ret f) else some (.go ())) d 0 ()) λ_=>if (decide ((d.length:Int)<(c.length:Int))) then some ((-1)) else some 0
theorem gD {h p} {c d} {e} (hN:HN B e) (i:Bo B e (Sl 1 xF) c h) (j:Bo B e (Sl 1 xF) d p):∀ r,kB h p=some r->CG B e 101 #[c,d] (sI r):=by
 refine vW func101 [(0,c),(1,d)] hN λr=>?_;refine xI rfl (jo rfl (jL i λt=>xA rfl (vA (λ_=>.st [(0,c),(1,d)] []) ?_ (λ_=>?_))))
 ·
  refine zH (jl (λx _=>.st [(11,xB (x:Int)),(0,c),(1,d),(9,c),(10,xB (h.length:Int))] []) ls (λ_ _ _ z=>?_) (λx _ _ f A=>?_))
  ·have C:=oO z;exact xN (xR rfl (zX C (xP (jf ls))))
  refine xN (xR rfl (kA (xZ f) (oJ ?_)));have j1:=bV (Ae f) t;refine qH (jo rfl (jI i A λ_ D=>aJ D λE=>fL 2 rfl (jA 2 rfl (jL j λ_=>xA rfl (xW ?_ ?_)))))
  ·refine xN (jo rfl (aZ (dB (zC (cV (eT ?_))))));exact qJ ⟨zD,lv⟩
  refine qG (jA 2 rfl (jB λM F=>(jI j F λ_ G=>aJ G λI=>xK rfl (jA 2 rfl (jB λK L=>(jk (λH=>xDf aA E I K L) λy=>xK rfl (oD 2 rfl (xW ?_ ?_))))))))
  ·refine xN (qA 2 rfl (dB (zC (cV (eT ?_)))));exact qJ ⟨y,lv⟩
  exact qM (oE (qE f t) (xA rfl (jg ls)))
 refine bX (jo rfl (jL i λ_=>jo rfl (jL j λ_=>xA rfl (xW ?_ ?_))))
 ·refine xN (xT rfl ?_);exact qJ ⟨kV,lv⟩
 refine qG (xX rfl ?_);exact qJ ⟨xU,lv⟩
def fM (d:Int) (c:Rel):Option Bool:= qD (σ:=Bool) (xH (nG d) λh=>if (!h) then some (.nx true) else xH (tA c.arity) λi=>some (.nx (!i))) λj=>if j then some false else qD (σ:=Unit) (oM (λe (f:(List Int)) s=>match s with | _=>qD (σ:=Bool) (xH (bA d f c.arity) λp=>if (!p) then some (.nx true) else if (decide (0<(e:Int))) then xH (ck ((e:Int) - 1)) λt=>xH (ix c.tuples t) λx=>xH (kB x f) λy=>some (.nx (decide (0<=y))) else some (.nx false)) λz=>if z then some (.ret false) else some (.go ())) c.tuples 0 ()) λ_=>some true
theorem xIs {c d} {i} {j} (hN:HN B j) (x:xM c) (C:Bo B j (qR 2 oR) i d):∀ r,fM c d=some r->CG B j 62 #[xB c,i] (sB r):=by
 refine vW func62 [(0,xB c),(1,i)] hN λr=>?_;obtain⟨f,rfl,y,p⟩:=oR.o C;refine jX e2 λe=>jo rfl (gL ?_);refine vA (λD=>.st [(0,xB c),(3,oU e),(15,.bool D)] [bx e [xB d.arity,f] 99]) ?_ (λ_=>?_)
 ·
  refine iQ (jo rfl (jB λE F=>(jk (λH=>wM aA x E F) (jA 2 rfl (dZ 10 (λ_=>?_) (λ_=>?_))))))
  ·exact oD 5 rfl (jf ls)
  exact oH e2 (jb 0 e3 (jB λG I=>(jk (λH=>xLc aA y G I) (oD 2 rfl (jf ls)))))
 refine dA (xW ?_ ?_)
 ·exact xN (xT rfl (qJ lv))
 refine qY (oH e2 (jb 0 e3 (jL p λz=>xA rfl (vA (λ_=>.st [] []) ?_ (λ_=>?_)))))
 ·
  refine zH ?_;refine jl (λt _=>.st [(19,xB (t:Int)),(0,xB c),(3,oU e),(17,f),(18,xB (d.tuples.length:Int))] [bx e [xB d.arity,f] 99]) ls (λ_ _ _ K=>?_) (λt _ _ h L=>?_)
  ·have M:=oO K;exact xN (xR rfl (zX M (xP (js [] rfl (jf ls)))))
  refine xN (xR rfl (kA (xZ h) (oJ ?_)));have j1:=bV (Ae h) z;refine qH (jo rfl (jI p L λ_ N=>aT N λ_ A=>xFz 2 rfl ?_));refine vA (λO=>.st [(0,xB c),(3,oU e),(17,f),(18,xB (d.tuples.length:Int)),(19,xB (t:Int)),(44,.bool O)] [bx e [xB d.arity,f] 99]) ?_ (λ_=>?_)
  ·
   refine iQ (jA 2 rfl (oH e2 (jb 0 e3 (jB λP Q=>(jk (λH=>lR aA x (H.a A) y P Q) (jA 2 rfl (dZ 30 (λ_=>?_) (λ_=>?_))))))))
   ·exact oD 14 rfl (jf ls)
   refine jA 3 rfl (dZ 33 (λ_=>?_) (λ_=>?_))
   ·exact oH e2 (jb 0 e3 (jo rfl (jB λZ R=>(fR R (jB λz5 S=>(jI p S λ_ T=>aT T λ_ U=>jo rfl (jB λW X=>(jk (λH=>gD aA (H.a U) (H.a A) W X) λY=>oD 3 rfl (jf ls)))))))))
   exact oD 11 rfl (jf ls)
  refine dA (xW ?_ ?_)
  ·exact xN (qA 1 rfl (dB (zC (cV (eT (qJ lv))))))
  exact qM (oE (qE h z) (xA rfl (jg ls)))
 exact oQ (xX rfl (qJ lv))
def lC (c:Rel) (d:A6):Option Bool:= xH (fM d.size (Rel.mk c.arity c.tuples)) λe=>some ((!e))
theorem xAf {f h} {d e} {c} (hN:HN B c) (j:Bo B c (qR 2 oR) d f) (p:Bo B c (Pt 2 xC) e h):∀ r,lC f h=some r->CG B c 61 #[d,e] (sB r):=by
 refine vW func61 [(0,d),(1,e)] hN λr=>?_;obtain⟨C,rfl,t,x⟩:=oR.o j;refine jX e2 λ_=>xK rfl (kZ p xC.f0 λ_ i=>aJ i λy=>aH 0 e3 (jB λz A=>?_));exact jk (λH=>xIs aA y (oR.m t (H.a x)) z A) (qZ 2 rfl (qJ lv))
def aQ (c:List Rel) (d:Rel->Option Bool):Option Int:= qD (σ:=Unit) (oM (λe (f:Rel) s=>match s with | _=>xH (d f) λh=>if h then some (.ret ((e:Int))) else some (.go ())) c 0 ()) λ_=>some ((-1))
theorem gW {i j} {f c e} {d} (hN:HN B d) (p:Bo B d (Sl 2 oR) f i) (A:∀ args w,(callFunc c args).run prog w= .ok (.enter c args) w) (C:∀ (t:Rel) (r:Bool),j t=some r->∀ W,Below d.heap.size d W->∀ (x:Vl),Bo (All W) W (qR 2 oR) x t->Calls prog c ([x]++e:List Vl).toArray W (Gt (All W) W [] (sB r))):∀ r,aQ i j=some r->CG B d 98 #[f,.func (.func c) #[] e.toArray] (sI r):=by
 refine vW func98 [(0,f),(1,.func (.func c) #[] e.toArray)] hN λr=>?_;refine xI rfl (jo rfl (jL p λy=>xA rfl (vA (λ_=>.st [] []) ?_ (λ_=>?_))))
 ·
  refine zH (jl (λz _=>.st [(8,xB (z:Int)),(0,f),(1,.func (.func c) #[] e.toArray),(7,xB (i.length:Int))] []) ls (λ_ _ _ E=>?_) (λz _ _ h F=>?_))
  ·have G:=oO E;exact xN (xR rfl (zX G (xP (jf ls))))
  refine xN (xR rfl (kA (xZ h) (oJ (qH (kW 2 rfl (jA 3 rfl (jI p F λ_ D=>jlA D λ_ I=>jB λK L=>?_)))))));refine jkV A e2 (λH=>C _ K L _ H.bl _ (H.a I)) (aI (xW ?_ ?_))
  ·refine xN (qA 2 rfl (dB (zC (cV (eT ?_)))));exact qJ ⟨(bV (Ae h) y),lv⟩
  exact qM (oE (qE h y) (xA rfl (jg ls)))
 refine oQ (xX rfl ?_);exact qJ ⟨kV,lv⟩
def vU (c:List Rel) (d:Rel->Option Bool):Option Bool:= xH (aQ c d) λe=>some ((decide (0<=e)))
theorem aL {j p} {i c f} {d} (hN:HN B d) (z:Bo B d (Sl 2 oR) i j) (x:∀ args w,(callFunc c args).run prog w= .ok (.enter c args) w) (y:∀ (e:Rel) (r:Bool),p e=some r->∀ W,Below d.heap.size d W->∀ (t:Vl),Bo (All W) W (qR 2 oR) t e->Calls prog c ([t]++f:List Vl).toArray W (Gt (All W) W [] (sB r))):∀ r,vU j p=some r->CG B d 60 #[i,.func (.func c) #[] f.toArray] (sB r):=by
 refine jiN func60 [(0,i),(1,.func (.func c) #[] f.toArray)] hN λr=>?_;exact xN (xK rfl (jA 2 rfl (jB λA C=>(jk (λH=>gW aA (H.a z) x (λe r h W D=>y e r h W (H.bl.trans (D.mono H.fr.size))) A C) λE=>qZ 2 rfl (qJ lv)))))
def zP (c:A6):Option Bool:= qD (σ:=Bool) (xH (nG c.size) λd=>if d then if (decide ((c.rels.length:Int)<=6)) then xH (vU c.rels (λe=>lC e (A6.mk c.size c.rels))) λf=>some (.nx (!f)) else some (.nx false) else some (.nx false)) λh=>some h
theorem fJ {f} {c} {d} (hN:HN B d) (p:Bo B d (qR 2 xC) c f):∀ r,zP f=some r->CG B d 37 #[c] (sB r):=by
 refine vW func37 [(0,c)] hN λr=>?_;obtain⟨C,rfl,i,e⟩:=xC.o p;refine jX e2 λ_=>xR rfl (vA (λt=>.st [(2,.bool t)] []) ?_ (λ_=>?_))
 ·
  refine iQ (oH e2 (jb 0 e3 (jB λx y=>(jk (λH=>wM aA i x y) (jo rfl (dZ 6 (λ_=>?_) (λ_=>?_)))))))
  ·
   refine oH e2 (jb 0 e3 (jL e λ_=>jA 3 rfl (dZ 12 (λ_=>?_) (λ_=>?_))))
   ·exact oH e2 (jb 0 e3 (cU e2 (jB λz j=>(jk (λH=>aL aA (H.a e) call61 (λD r h W A E f0=>xAf aA f0 ((xC.b (H.g 0 rfl).bk i (H.a e)).w A) r h) z j) (oD 3 rfl (js [] rfl (jf ls)))))))
   exact oD 7 rfl (js [] rfl (jf ls))
  exact oD 13 rfl (js [] rfl (jf ls))
 exact lY (qJ lv)
def xBl (c:Int):Option Bool:= xH (bI c 1 10) λd=>some d
theorem xMw {c} {d} (hN:HN B d) (e:xM c):∀ r,xBl c=some r->CG B d 102 #[xB c] (sB r):=by
 refine jiN func102 [(0,xB c)] hN λr=>?_;exact xN (xK rfl (jo rfl (jB λf h=>(jk (λH=>bN aA e zD xQg f h) (xX rfl (qJ lv))))))
def jR (c:Con) (d:A6) (e:A7):Option Bool:= qD (σ:=Bool) (xH (ck ((d.rels.length:Int) - 1)) λf=>xH (bI c.rel 0 f) λh=>if (!h) then some (.nx true) else xH (ix d.rels c.rel) λi=>xH (bA e.vars c.scope i.arity) λj=>some (.nx (!j))) λp=>some p
theorem yU {h i j} {d e f} {c} (hN:HN B c) (x:Bo B c (qR 2 vH) d h) (p:Bo B c (Pt 2 xC) e i) (y:Bo B c (Pt 2 xJ) f j):∀ r,jR h i j=some r->CG B c 104 #[d,e,f] (sB r):=by
 refine vW func104 [(0,d),(1,e),(2,f)] hN λr=>?_;obtain⟨U,rfl,z,A⟩:=vH.o x;refine jX e2 λ_=>xR rfl (vA (λC=>.st [(4,.bool C)] []) ?_ (λ_=>?_))
 ·
  refine jQ (sQ e2 (jqb 0 e3 (cA p xC.f1 λ_ D=>eN D λ_ E=>jqL E λ_=>jB λW t=>(jqv (λF H w l=>xBi F rfl rfl t) (jB λG I=>(jqk (λH=>bN aA z xU (zI t) G I) (vY 2 rfl (dZ 13 (λ_=>?_) (λ_=>?_)))))))))
  ·exact vY 15 rfl (lE (dA (js [] rfl (jf ls))))
  refine cA y xJ.f0 λ_ K=>kN K λL=>sQ e2 (jqb 0 e3 (cA p xC.f1 λ_ M=>eN M λ_ N=>sQ e2 (jqb 0 e3 (jB λX O=>(gU N O λ_ P=>cA P oR.f0 λ_ Q=>kN Q λR=>jB λS T=>(jqk (λH=>lR aA L (H.a A) R S T) (vY 3 rfl ?_)))))));exact lE (dA (js [] rfl (jf ls)))
 exact lY (qJ lv)
def aO (c:List Con) (d:Con->Option Bool):Option Int:= qD (σ:=Unit) (oM (λe (f:Con) s=>match s with | _=>xH (d f) λh=>if h then some (.ret ((e:Int))) else some (.go ())) c 0 ()) λ_=>some ((-1))
theorem iA {i j} {f c e} {d} (hN:HN B d) (p:Bo B d (Sl 2 vH) f i) (A:∀ args w,(callFunc c args).run prog w= .ok (.enter c args) w) (C:∀ (t:Con) (r:Bool),j t=some r->∀ W,Below d.heap.size d W->∀ (x:Vl),Bo (All W) W (qR 2 vH) x t->Calls prog c ([x]++e:List Vl).toArray W (Gt (All W) W [] (sB r))):∀ r,aO i j=some r->CG B d 149 #[f,.func (.func c) #[] e.toArray] (sI r):=by
 refine vW func149 [(0,f),(1,.func (.func c) #[] e.toArray)] hN λr=>?_;refine xI rfl (jo rfl (jL p λy=>xA rfl (vA (λ_=>.st [] []) ?_ (λ_=>?_))))
 ·
  refine zH (jl (λz _=>.st [(8,xB (z:Int)),(0,f),(1,.func (.func c) #[] e.toArray),(7,xB (i.length:Int))] []) ls (λ_ _ _ E=>?_) (λz _ _ h F=>?_))
  ·have G:=oO E;exact xN (xR rfl (zX G (xP (jf ls))))
  refine xN (xR rfl (kA (xZ h) (oJ (qH (kW 2 rfl (jA 3 rfl (jI p F λ_ D=>jlA D λ_ I=>jB λK L=>?_)))))));refine jkV A e2 (λH=>C _ K L _ H.bl _ (H.a I)) (aI (xW ?_ ?_))
  ·refine xN (qA 2 rfl (dB (zC (cV (eT ?_)))));exact qJ ⟨(bV (Ae h) y),lv⟩
  exact qM (oE (qE h y) (xA rfl (jg ls)))
 refine oQ (xX rfl ?_);exact qJ ⟨kV,lv⟩
def zB (c:List Con) (d:Con->Option Bool):Option Bool:= xH (aO c d) λe=>some ((decide (0<=e)))
theorem bZ {j p} {i c f} {d} (hN:HN B d) (z:Bo B d (Sl 2 vH) i j) (x:∀ args w,(callFunc c args).run prog w= .ok (.enter c args) w) (y:∀ (e:Con) (r:Bool),p e=some r->∀ W,Below d.heap.size d W->∀ (t:Vl),Bo (All W) W (qR 2 vH) t e->Calls prog c ([t]++f:List Vl).toArray W (Gt (All W) W [] (sB r))):∀ r,zB j p=some r->CG B d 103 #[i,.func (.func c) #[] f.toArray] (sB r):=by
 refine jiN func103 [(0,i),(1,.func (.func c) #[] f.toArray)] hN λr=>?_;exact xN (xK rfl (jA 2 rfl (jB λA C=>(jk (λH=>iA aA (H.a z) x (λe r h W D=>y e r h W (H.bl.trans (D.mono H.fr.size))) A C) λE=>qZ 2 rfl (qJ lv)))))
def aN (d:A6) (c:A7):Option Bool:= qD (σ:=Bool) (xH (zP (A6.mk d.size d.rels)) λf=>if f then xH (xBl c.vars) λh=>if h then if (decide ((c.cons.length:Int)<=24)) then xH (zB c.cons (λi=>jR i (A6.mk d.size d.rels) (A7.mk c.vars c.cons))) λj=>some (.nx (!j)) else some (.nx false) else some (.nx false) else some (.nx false)) λe=>some e
theorem eY {i j} {d e} {c} (hN:HN B c) (A:Bo B c (qR 2 xC) d i) (C:Bo B c (qR 2 xJ) e j):∀ r,aN i j=some r->CG B c 63 #[d,e] (sB r):=by
 refine vW func63 [(0,d),(1,e)] hN λr=>?_;obtain⟨M,rfl,p,t⟩:=xC.o A;refine jX e2 (λ_=>?_);obtain⟨L,rfl,x,f⟩:=xJ.o C;refine jX e2 λ_=>xR rfl (vA (λz=>.st [(4,.bool z)] []) ?_ (λ_=>?_))
 ·
  refine iQ (aH 1 e3 (jB λD E=>?_));refine jk (λH=>fJ aA (xC.m p (H.a t)) D E) (jo rfl (dZ 7 (λ_=>?_) (λ_=>?_)))
  ·
   refine oH e2 (jb 0 e3 (jB λF G=>(jk (λH=>xMw aA x F G) (jA 2 rfl (dZ 12 (λ_=>?_) (λ_=>?_))))))
   ·
    refine oH e2 (jb 0 e3 (jL f λ_=>jA 3 rfl (dZ 18 (λ_=>?_) (λ_=>?_))))
    ·exact oH e2 (jb 0 e3 (cU e2 (jB λI K=>(jk (λH=>bZ aA (H.a f) call104 (λN r h W y O f0=>yU aA f0 ((xC.b (H.g 1 rfl).bk p (H.a t)).w y) ((xJ.b (H.g 0 rfl).bk x (H.a f)).w y) r h) I K) (oD 3 rfl (js [] rfl (jf ls)))))))
    exact oD 7 rfl (js [] rfl (jf ls))
   exact oD 13 rfl (js [] rfl (jf ls))
  exact oD 18 rfl (js [] rfl (jf ls))
 exact lY (qJ lv)
def nY (c:Rel):Option Bool:= some (((c.tuples.length:Int)==0))
theorem xCl {e} {c} {d} (hN:HN B d) (f:Bo B d (qR 2 oR) c e):∀ r,nY e=some r->CG B d 105 #[c] (sB r):=by
 refine vW func105 [(0,c)] hN λr=>?_;obtain⟨i,rfl,j,h⟩:=oR.o f;exact jX e2 λ_=>xK rfl (oH e2 (jb 0 e3 (jL h λ_=>qZ 2 rfl (qJ lv))))
def sH (d:List Int) (c:Int):Option Int:= some c
theorem xGf {f h} {d e} {c} (hN:HN B c) (p:Bo B c (Sl 1 xF) d f) (i:Bo B c (Pt 1 xF) e h):∀ r,sH f h=some r->CG B c 151 #[d,e] (sI r):=by
 refine vW func151 [(0,d),(1,e)] hN λr=>?_;refine xK rfl (aJ i λj=>xX rfl ?_);exact qJ ⟨j,lv⟩
end
end Go.Proofs.YtomlfdagbmgmgaaGreat
