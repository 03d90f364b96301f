import Derived.Test.YtlommebgedmjdaaGreatDoorJI
import Derived.Test.YtlommebgedmjdaaGreatDoorP1
import Derived.Test.YtlommebgedmjdaaGreatDoorSO
namespace Go.Proofs.YtlommebgedmjdaaGreatDoor
open Go.Proofs.Tryz
set_option maxHeartbeats 1000000
set_option linter.unusedVariables false
set_option linter.unusedSimpArgs false
set_option maxRecDepth 100000
open Go.RowKit
def bZ (N:Nat) (d:solver) (c:List Int):Option ((List Int)×Bool):=
 vC (σ:=Unit) (
  oM (σ:=Unit) (ρ:=(List Int)×Bool) (fun (f:Nat) (p:Int) (s:Unit)=>
    match s with
    | _=>
    xK (ck ((f:Int)+1)) fun h=>
    xK (sl c 0 h) fun i=>
    xK (bG N d i) fun j=>
    if (!j) then
     some (.ret ([],false))
    else
     some (.go ())) c 0 ()) fun _=>
 xK (dX (fun a _=>some (false,a)) N d c ([])) fun e=>
 some (e.2,(!e.1))
theorem nN {B:Nat→Prop} {N:Nat} {C:solver} {t:List Int} (r:(List Int)×Bool) (K:bZ N C t=some r) {d:Value} {e:Value} (i:World) (hN:∀ c,B c→c<i.heap.size) (E:Bo B i (Pt 4 qZ) d C) (y:Bo B i (Sl 1 xG) e t):Calls Tryz.prog 65 #[d,e] i (Gt B i [] (.v fun A=>.st (.tuple #[A,.bool r.2]) fun D=>rl 1 xG 2 A r.1::D)):=by
 unfold bZ at K
 revert r
 refine zI func65 [(0,d),(1,e)] (Sep.start hN) fun r=>?_;refine xL (jA 2 rfl (xO (jA 1 rfl (jL y fun F=>jA 1 rfl (xF (zX (fun _=>.st [(0,d),(1,e)] []) ?_ (fun _=>?_)))))))
 ·
  refine eD (jl (fun G _=>.st [(11,xI (G:Int)),(0,d),(1,e),(10,xI (t.length:Int))] []) ls (fun _ _ _ L=>?_) (fun G _ _ p _=>?_))
  ·
   have z:=qC L;refine xL (jA 1 rfl (xV (gR z (xS ?_))));exact jf ls
  have z:=xW p;refine xL (jA 1 rfl (xV (gN z (qD ?_))));have j1:=jZ (Nat.le_of_lt p) F;have M:=vK p F;refine kE (jA 2 rfl (xN (jA 3 rfl (jB fun U O=>(lY O (jB fun V P=>(jC rfl rfl y P fun _ Q=>jB fun R S=>(jk (fun H=>pS R S _ aA (H.a E) (H.a Q)) (jA 1 rfl ?_)))))))));refine xF (zC (fun _=>?_) (fun _=>?_))
  ·
   refine xL (jA 2 rfl (vE (jrt (eX (jrj (a_R (jh (fun H=>H.nl 1 xG 2) ?_)))))));exact j2 (rt rfl) (rt rfl) ⟨_,lv⟩
  refine vY (oQ M (jA 1 rfl (xF ?_)));exact jg ls
 refine qQ (dG rfl fun j=>xN (jA 2 rfl (sA e2 (jh (fun H=>H.nl 1 xG 2) (jB fun I T=>(js [1,0] rfl (jh (fun H=>H.mg) (jh (D':=(bI j ([]))::_) (fun H=>Sep.exI (f:=fun v=>pr (bx j [v] 36) (rl 1 xG 2 v ([]))) (b:=cL) H) (jkw (fun K1 H=>xHm (fun _ _ h=>h) call125 (xTz j) N I T _ K1 (H.u E) (H.u y)) ?_)))))))));refine jex0 (fun H=>Sep.exE (f:=fun v=>pr (bx j [v] 36) (rl 1 xG 2 v I.2)) H) fun W=>jh (fun H=>H.um) (jA 2 rfl (xN (jb 0 e3 (jA 3 rfl (xP (js [1] rfl ?_))))));exact j2 (rt rfl) (rt rfl) ⟨_,lv⟩
def lJ (N:Nat) (c:List Int) (d:solver):Option Bool:=
 xK (bZ N d c) fun e=>
 some e.2
theorem xCu {B:Nat→Prop} {N:Nat} {h:List Int} {i:solver} (r:Bool) (j:lJ N h i=some r) {e:Value} {f:Value} (d:World) (hN:∀ c,B c→c<d.heap.size) (p:Bo B d (Sl 1 xG) e h) (t:Bo B d (Pt 1 (RP 4 qZ)) f i):Calls Tryz.prog 151 #[e,f] d (Gt B d [] (.st (.bool r) fun D=>D)):=by
 unfold lJ at j
 revert r
 refine zI func151 [(0,e),(1,f)] (Sep.start hN) fun r=>?_;refine xL (jA 1 rfl (xN (jlP t fun _ y=>jA 1 rfl (jB fun z A=>(jk (fun H=>nN z A _ aA (H.a y) (H.a p)) fun _=>jA 5 rfl (xN (jA 2 rfl (xP ?_))))))));exact zB (rt rfl) lv
def rC (c d:Int):Option Int:=
 vC (σ:=Int) (
  aY (σ:=Int) (ρ:=Int) (fun (i:Nat) (e:Int)=>
   xK (ck (e*c)) fun f=>
   some (.go f)) d.toNat 0 1) fun h=>
 some h
theorem xJq {B:Nat→Prop} {e f:Int} (r:Int) (A:rC e f=some r)  (h:World) (hN:∀ c,B c→c<h.heap.size) (G:xH e) (p:xH f):Calls Tryz.prog 152 #[xI e,xI f] h (Gt B h [] (.fa (xH r) <| .st (xI r) fun D=>D)):=by
 unfold rC at A
 revert r
 refine zI func152 [(0,xI e),(1,xI f)] (Sep.start hN) fun r=>?_;refine xL (jA 1 rfl (xN (jA 1 rfl (xO (jA 2 rfl (xF (zX (fun y=>.fa (xH y) <| .st [(5,xI y)] []) ?_ (fun _ C=>?_))))))))
 ·
  refine eD ?_;refine jc (fun z i=>.fa (xH i) <| .st [(7,xI (z:Int)),(0,xI e),(5,xI i),(6,xI f)] []) ⟨(show xH (1) by decide),ls⟩ (fun _ i _ d E=>?_) (fun _ z _ d _=>?_)
  ·
   have j:=iL d;refine xL (jA 1 rfl (xV (gR j (xS ?_))));exact jf ⟨E,ls⟩
  have j:=eW d;refine xL (jA 1 rfl (xV (gN j (qD ?_))));have j1:=xBl d p;have F:=mB d p;refine xJr (jA 2 rfl (jB fun H t=>(xSm t (jA 1 rfl (zQ (oQ F (jA 1 rfl (xF ?_))))))));exact jg ⟨(bD t),ls⟩
 refine qQ (jA 2 rfl (xP ?_));exact zB (rt rfl) ⟨C,lv⟩
def aX (N:Nat) (f h i:Int):Option (List Int):=
 xK (mkz (0:Int) h) fun j=>
 xK (ck (h - 1)) fun p=>
 vC (σ:=Int×Int×(List Int)) (
  whl (σ:=Int×Int×(List Int)) (ρ:=(List Int)) (fun(s:Int×Int×(List Int))=>
    match s with
    | (e,c,d)=>
    if (decide (0≤c)) then
     xK (rm e f) fun t=>
     xK (ix d c) fun B=>
     xK (dv e f) fun y=>
     xK (ck (c - 1)) fun z=>
     some (.go (y,z,(d.set (c).toNat t)))
    else
     some (.brk (e,c,d))) N (i,p,j)) fun(C,D,A)=>
 some A
theorem xHh {B:Nat→Prop} {N:Nat} {d e f:Int} (r:(List Int)) (S:aX N d e f=some r)  (h:World) (hN:∀ c,B c→c<h.heap.size) (O:xH d) (V:xH e) (P:xH f):Calls Tryz.prog 153 #[xI d,xI e,xI f] h (Gt B h [] (.v fun y=>.st (y) fun D=>rl 1 xG 2 y r::D)):=by
 unfold aX at S
 revert r
 refine zI func153 [(0,xI d),(1,xI e),(2,xI f)] (Sep.start hN) fun r=>?_;refine xL (jA 1 rfl (xN (jA 1 rfl (jB fun W T=>?_))));refine jRM (R:=xG) (fun w=>⟨rfl,by decide,rfl⟩) T fun X=>jA 1 rfl (xO (jA 1 rfl (jB fun Y z=>(dA z (jA 1 rfl (xF (zX (fun(C,E,F)=>.v fun i=>.fa (xH C) <| .fa (xH E) <| .st [(7,i)] [rl 1 xG 2 i F]) ?_ (fun(C,E,F) i _ _=>?_))))))))
 ·
  refine eD ?_;refine jw (fun(j,p,A)=>.v fun t=>.fa (xH j) <| .fa (xH p) <| .st [(0,xI d),(2,xI j),(7,t),(8,xI p)] [rl 1 xG 2 t A]) ⟨_,P,(bD z),ls⟩ (fun _ (j,p,A) t G U=>?_);refine oH (jA 2 rfl (xF (zC (fun _=>?_) (fun _=>?_))))
  ·
   refine rF (jA 4 rfl (jB fun Z I=>(xPs I (jB fun z4 K=>(jRl 0 K fun _ Q=>jh (fun H=>H.lw) (jS Q (xAr K) (fun H=>Eo.int (xWq I G O)) rfl (jh (fun H=>H.tl) (tH (jA 2 rfl ?_)))))))));refine jB fun z5 L=>(xXv L (jA 1 rfl (zQ (jA 1 rfl (jB fun z6 M=>(dA M (jA 1 rfl (xF ?_))))))));exact jg ⟨_,(oAw L),(bD M),ls⟩
  refine sI (jbk (xCi ?_));exact jf ⟨_,G,U,ls⟩
 refine qQ (jA 2 rfl (xP ?_));exact j1 (rt rfl) ⟨_,lv⟩
def fN (N:Nat) (d c:Int) (h:(List Int)→Option Bool):Option Rel:=
 xK (rC d c) fun i=>
 vC (σ:=(List (List Int))) (
  aY (σ:=(List (List Int))) (ρ:=Rel) (fun(j:Nat) (e:(List (List Int)))=>
   xK (aX N d c (j:Int)) fun f=>
   xK (h f) fun p=>
   if p then
    xK (ap e ([f])) fun t=>
    some (.go t)
   else
    some (.go e)) i.toNat 0 []) fun y=>
 some ((Rel.mk c y))
theorem xAa {B:Nat→Prop} {N:Nat} {h d:Int} {K:(List Int)→Option Bool} (r:Rel) (T:fN N h d K=some r) {e:FuncId} {j:List Value} (i:World) (hN:∀ c,B c→c<i.heap.size) (F:xH h) (z:xH d) (R:∀ args w,(callFunc e args).run Tryz.prog w= .ok (.enter e args) w) (S:∀ (L:List Int) (r:Bool),K L=some r→∀ W,Below i.heap.size i W→∀ (M:Value),Bo (All W) W (Sl 1 xG) M L→Calls Tryz.prog e ([M]++j:List Value).toArray W (Gt (All W) W [] (.st (.bool r) fun D=>D))):Calls Tryz.prog 82 #[xI h,xI d,.func (.func e) #[] j.toArray] i (Gt B i [] (.v fun G=>.fa (xH r.arity) <| .st (.agg #[xI r.arity,G]) fun D=>rl 1 (fG 1 xG) 36 G r.tuples::D)):=by
 unfold fN at T
 revert r
 refine zI func82 [(0,xI h),(1,xI d),(2,.func (.func e) #[] j.toArray)] (Sep.start hN) fun r=>?_;refine xL (dG rfl fun p=>xN (jA 1 rfl (qT e5 (dG rfl fun t=>bC e3 (xO (jA 2 rfl (jB fun O U=>(jk (fun H=>xJq O U _ aA F z) (fun I=>?_)))))))));refine jA 1 rfl (xF ?_);refine zX (fun V=>.v fun A=>.st [(6,xU p),(7,xU t)] [rl 1 (fG 1 xG) 36 A V,bx t [xI d,A] 108,bx p [xI 0,cL] 108]) ?_ (fun _ A=>?_)
 ·
  refine eD (jh (fun H=>H.nl 1 (fG 1 xG) 36) ?_);refine jc (fun P C=>.v fun y=>.st [(15,xI (P:Int)),(0,xI h),(1,xI d),(2,.func (.func e) #[] j.toArray),(6,xU p),(7,xU t),(14,xI O)] [rl 1 (fG 1 xG) 36 y C,bx t [xI d,y] 108,bx p [xI 0,cL] 108]) ⟨_,ls⟩ (fun _ C _ f y=>?_) (fun _ P C f y=>?_)
  ·
   have E:=iL f;refine xL (jA 1 rfl (xV (gR E (xS ?_))));exact jf ⟨_,ls⟩
  have E:=eW f;refine xL (jA 1 rfl (xV (gN E (qD ?_))));have j1:=xBl f I;have Q:=mB f I;refine kE (jA 2 rfl (xN (jA 3 rfl (jB fun X Y=>(jk (fun H=>xHh X Y _ aA F z j1) fun _=>jA 1 rfl (xN (jA 2 rfl (jB fun Z c3=>?_))))))));refine jkV R e2 (fun H=>S _ Z c3 _ H.bl _ (H.l 0 rfl)) (xF (zC (fun _=>?_) (fun _=>?_)))
  ·
   refine a_g (xY e2 (jb 2 e3 (jA 1 rfl (jh (fun H=>H.os) (lC (fun H=>El.sl) fun _=>jB fun z4 c4=>(js [1,0,2,3] rfl (jPL c4 fun v3=>xY e2 (js [1,0,2] rfl ?_))))))));refine jW (hv:=(fun H=>(H.l 1 rfl).one)) e3 (zQ (oQ Q (jA 1 rfl (xF (js [1,0,2] rfl ?_)))));exact jg ⟨_,ls⟩
  refine vY (oQ Q (jA 1 rfl (xF (js [1,2,3] rfl ?_))));exact jg ⟨_,ls⟩
 refine qQ (zY 1 e3 (js [2,0,1] rfl ?_));refine bC (hv:=(fun H=>oc rfl (oc (H.l 1 rfl).one on))) e3 (xP ?_);exact j1m (fun H=>H.s [1] rfl rfl) (rcA 0 e2) ⟨_,z,lv⟩
def iH (N:Nat) (c:Template) (d:Formula):Option Rel:=
 xK (bR (Template.mk c.size c.rels) d.vars d.atoms) fun f=>
 xK (fN N c.size d.free (fun h=>lJ N h f)) fun e=>
 some ((Rel.mk e.arity e.tuples))
theorem xGp {B:Nat→Prop} {N:Nat} {j:Template} {p:Formula} (r:Rel) (C:iH N j p=some r) {e:Value} {f:Value} (d:World) (hN:∀ c,B c→c<d.heap.size) (E:Bo B d (qG 2 xA) e j) (F:Bo B d (qG 3 xC) f p):Calls Tryz.prog 81 #[e,f] d (Gt B d [] (.v fun i=>.fa (xH r.arity) <| .st (.agg #[xI r.arity,i]) fun D=>rl 1 (fG 1 xG) 36 i r.tuples::D)):=by
 unfold iH at C
 revert r
 refine zI func81 [(0,e),(1,f)] (Sep.start hN) fun r=>?_;refine xL ?_;obtain⟨T,rfl,t,G⟩:=xA.o E;refine jX e2 (fun _=>?_);obtain⟨U,rfl,I,z,K⟩:=xC.o F;refine jX e2 fun _=>dG rfl fun _=>xN (zY 2 e3 (xY e2 (jb 1 e3 (xY e2 (jb 1 e3 (jB fun L M=>?_))))));refine jk (fun H=>tP L M _ H.hN (xA.m t (H.u G)) z (H.u K)) fun _=>lA fun _ _ _ _ O _ A _=>?_;have y:=O.rod;refine dG rfl fun _=>jW (hv:=(fun H=>(H.a y).pone)) e3 (xN (xY e2 (jb 3 e3 (xY e2 (jb 2 e3 (sA e2 (jB fun P Q=>(jk (fun H=>xAa P Q _ aA t I call151 (fun V r h W R X f0=>xCu r h W aA f0 ((c1P (H.g 0 rfl).bk (H.a y)).w R))) fun Y S=>js [2,0,1,3,4] rfl ?_))))))));refine bC (hv:=(fun H=>oc rfl (oc (H.l 1 rfl).one on))) e3 (xP (dL A ?_));exact j1m (fun H=>H.s [2] rfl rfl) (rcA 1 e2) ⟨_,S,lv⟩
def aQ (N:Nat) (c:List Int) (d:Rel) (e:Template) (f:Int):Option Bool:=
 xK (cP N d c) fun h=>
 xK (ix e.rels f) fun i=>
 xK (cP N i c) fun j=>
 some ((h != j))
theorem wK {B:Nat→Prop} {N:Nat} {j:List Int} {p:Rel} {t:Template} {y:Int} (r:Bool) (C:aQ N j p t y=some r) {e:Value} {f:Value} {h:Value} {i:Value} (d:World) (hN:∀ c,B c→c<d.heap.size) (z:Bo B d (Sl 1 xG) e j) (E:Bo B d (Pt 2 oV) f p) (G:Bo B d (Pt 2 xA) h t) (I:Bo B d (Pt 1 xG) i y):Calls Tryz.prog 83 #[e,f,h,i] d (Gt B d [] (.st (.bool r) fun D=>D)):=by
 unfold aQ at C
 revert r
 refine zI func83 [(0,e),(1,f),(2,h),(3,i)] (Sep.start hN) fun r=>?_;refine xL (jA 1 rfl (xV (jQ (xRz E fun _ K=>qR 1 rfl (jB fun L M=>(jqk (fun H=>lF L M _ aA (H.a K) (H.a z)) (zA G xA.f1 fun _ A=>aZ A fun _ O=>aD I (fun _=>?_))))))));refine jB fun U P=>(jqI O P fun _ Q=>xRz Q fun _ R=>qR 1 rfl (jB fun S T=>(jqk (fun H=>lF S T _ aA (H.a R) (H.a z)) (jqv (fun F H w l=>xZp underlying4 F rfl rfl) (qR 1 rfl (iS (jY ?_)))))));exact zB (rt rfl) lv
def aV (N:Nat) (d e:Template) (j:Gadgets):Option (Int×(List Int)):=
 vC (σ:=Unit) (
  oM (σ:=Unit) (ρ:=Int×(List Int)) (fun (f:Nat) (c:Formula) (s:Unit)=>
    match s with
    | _=>
    xK (iH N (Template.mk e.size e.rels) (Formula.mk c.free c.vars c.atoms)) fun h=>
    xK (fN N d.size c.free (fun p=>aQ N p (Rel.mk h.arity h.tuples) (Template.mk d.size d.rels) (f:Int))) fun i=>
    if (decide (0<(i.tuples.length:Int))) then
     xK (ix i.tuples 0) fun t=>
     some (.ret ((f:Int),t))
    else
     some (.go ())) j.formulas 0 ()) fun _=>
 some ((-1),[])
theorem rP {B:Nat→Prop} {N:Nat} {f i:Template} {j:Gadgets} (r:Int×(List Int)) (S:aV N f i j=some r) {p:Value} {t:Value} {y:Value} (d:World) (hN:∀ c,B c→c<d.heap.size) (T:Bo B d (qG 2 xA) p f) (U:Bo B d (qG 2 xA) t i) (X:Bo B d (qG 1 xJ) y j):Calls Tryz.prog 37 #[p,t,y] d (Gt B d [] (.v fun C=>.fa (xH r.1) <| .st (.tuple #[xI r.1,C]) fun D=>ro B (V:=(Sl 1 xG)) C r.2::D)):=by
 unfold aV at S
 revert r
 refine zI func37 [(0,p),(1,t),(2,y)] (Sep.start hN) fun r=>?_;refine xL ?_;obtain⟨Y,rfl,E,Z⟩:=xA.o T;refine jX e2 (fun F=>?_);obtain⟨P,rfl,i2,h2⟩:=xA.o U;refine jX e2 (fun G=>?_);obtain⟨v4,rfl,I⟩:=xJ.o X;refine jX e2 fun _=>jA 2 rfl (xO (xY e2 (jb 0 e3 (jL I fun K=>jA 1 rfl (xF (zX (fun _=>.st [] []) ?_ (fun _=>?_)))))))
 ·
  refine eD (js [1,2] rfl ?_);refine jl (fun L _=>.st [(15,xI (L:Int)),(3,xU F),(4,xU G),(13,v4),(14,xI (j.formulas.length:Int))] [bx G [xI i.size,P] 26,bx F [xI f.size,Y] 26]) ls (fun _ _ _ q1=>?_) (fun L x3 _ e y1=>?_)
  ·
   have z:=qC q1;refine xL (jA 1 rfl (xV (gR z (xS (js [] rfl ?_)))));exact jf ls
  have z:=xW e;refine xL (jA 1 rfl (xV (gN z (qD ?_))));have j1:=jZ (Nat.le_of_lt e) K;have m1:=vK e K;refine kE (jA 1 rfl (jI I y1 fun _ h4=>jlA h4 fun _ h5=>dG rfl fun _=>dG rfl fun _=>js [1,0,2,3] rfl (jW e3 ?_)));obtain⟨v5,rfl,M,i5,O⟩:=xC.o h5;refine js [1,0,2,3] rfl ?_;refine bC (hv:=(fun H=>oc rfl (oc rfl (oc (H.a O).one on)))) e3 (xN (zY 2 e3 (zY 0 e3 (jB fun z1 c1=>?_))));refine jk (fun H=>xGp z1 c1 _ aA (xA.m i2 (H.a h2)) (xC.m M i5 (H.a O))) fun v6 i6=>dG rfl (fun _=>?_);refine bC (hv:=(fun H=>oc rfl (oc (H.l 1 rfl).one on))) e3 (xN (xY e2 (jb 5 e3 (xY e2 (jb 2 e3 (sA e2 (jB fun z2 c2=>(jk (fun H=>xAa z2 c2 _ aA E M call83 (fun a0 r h W A u0 f0=>wK r h W aA f0 ((oV.b (H.g 0 rfl).bk i6 (H.l 1 rfl)).w A) ((xA.b (H.g 5 rfl).bk E (H.a Z)).w A) ((c1I (H.g 3 rfl).bk j1).w A))) fun v7 _=>dG rfl (fun _=>?_)))))))));refine bC (hv:=(fun H=>oc rfl (oc (H.l 1 rfl).one on))) e3 (xN (xY e2 (jb 0 e3 (jLc (fun H=>H.l 1 rfl) fun _=>jA 1 rfl (xF (zC (fun _=>?_) (fun _=>?_)))))))
  ·
   refine a_s (js [1,0,2,3,4,5,6,7] rfl (lA fun _ _ _ _ g1 _ Q _=>?_));have h7:=g1.ld;refine jQ (jqb 4 e3 (nV e2 (jqb 0 e3 (jB fun z3 c3=>(jqI h7 c3 fun _ h8=>aZ h8 fun v8 h9=>qR 2 rfl (iS (xJv (jrt ?_))))))));refine eX (jrj (a_R (jh (fun H=>H.rob h9) (js [0] rfl (jh (fun H=>Q.2.1 H (Ns.all trivial)) ?_)))));exact j2 (rt rfl) (rt rfl) ⟨_,j1,lv⟩
  refine vY (oQ m1 (jA 1 rfl (xF (js [6,7] rfl ?_))));exact jg ls
 refine qQ (jA 2 rfl (xP (jh (fun H=>H.rob (Bo.snil (sz:=1) (R:=xG))) ?_)));exact j2 (rt rfl) (rt rfl) ⟨_,(show xH (-1) by decide),lv⟩
def dS (N:Nat) (c d:Template) (f:Gadgets):Option (Int×(List Int)×Int):=
 xK (aG (Template.mk c.size c.rels) (Template.mk d.size d.rels) (Gadgets.mk f.formulas)) fun h=>
 if (!h) then
  some (0,[],1)
 else
  xK (aV N (Template.mk c.size c.rels) (Template.mk d.size d.rels) (Gadgets.mk f.formulas)) fun e=>
  if (decide (e.1<0)) then
   some (0,[],6)
  else
   xK (oD e.2) fun i=>
   some (e.1,i,0)
theorem xAw {B:Nat→Prop} {N:Nat} {j p:Template} {t:Gadgets} (r:Int×(List Int)×Int) (F:dS N j p t=some r) {e:Value} {f:Value} {h:Value} (d:World) (hN:∀ c,B c→c<d.heap.size) (G:Bo B d (qG 2 xA) e j) (I:Bo B d (qG 2 xA) f p) (K:Bo B d (qG 1 xJ) h t):Calls Tryz.prog 9 #[e,f,h] d (Gt B d [] (.v fun i=>.fa (xH r.1) <| .fa (xH r.2.2) <| .st (.tuple #[xI r.1,i,xI r.2.2]) fun D=>rl 1 xG 2 i r.2.1::D)):=by
 unfold dS at F
 revert r
 refine zI func9 [(0,e),(1,f),(2,h)] (Sep.start hN) fun r=>?_;refine xL ?_;obtain⟨U,rfl,y,z⟩:=xA.o G;refine jX e2 (fun _=>?_);obtain⟨T,rfl,A,C⟩:=xA.o I;refine jX e2 (fun _=>?_);obtain⟨V,rfl,E⟩:=xJ.o K;refine jX e2 fun _=>jA 3 rfl (xO (zY 2 e3 (zY 1 e3 (zY 0 e3 (jB fun L M=>?_)))));refine jk (fun H=>pJ L M _ aA (xA.m y (H.a z)) (xA.m A (H.a C)) (xJ.m (H.a E))) (jA 1 rfl (xF (zC (fun _=>?_) (fun _=>?_))))
 ·
  refine xL (jA 3 rfl (xT (jh (fun H=>H.nl 1 xG 2) (js [0] rfl ?_))));exact j3 (rt rfl) (rt rfl) (rt rfl) ⟨_,(show xH (0) by decide),(show xH (1) by decide),lv⟩
 refine oY (zY 2 e3 (zY 1 e3 (zY 0 e3 (jB fun O P=>?_))));refine jk (fun H=>rP O P _ H.hN (xA.m y (H.u z)) (xA.m A (H.u C)) (xJ.m (H.u E))) fun _ Q=>jA 5 rfl (xO (jA 2 rfl (xF (zC (fun _=>?_) (fun _=>?_)))))
 ·
  refine xL (jA 3 rfl (xT (jh (fun H=>H.nl 1 xG 2) (js [0] rfl ?_))));exact j3 (rt rfl) (rt rfl) (rt rfl) ⟨_,(show xH (0) by decide),(show xH (6) by decide),lv⟩
 refine oY (jA 2 rfl (jB fun R S=>(jk (fun H=>kY R S _ aA (H.ro 0 rfl)) fun W=>jA 3 rfl (xP (js [0] rfl ?_)))));exact j3 (rt rfl) (rt rfl) (rt rfl) ⟨_,Q,(show xH (0) by decide),lv⟩
def iD (c d:Atom):Option Bool:=
 vC (σ:=Bool) (
  if (c.rel==d.rel) then  xK (cU c.args d.args) fun e=>
   some (.nx e) else  some (.nx false)) fun f=>
 some f
theorem yG {B:Nat→Prop} {j p:Atom} (r:Bool) (t:iD j p=some r) {h:Value} {i:Value} (d:World) (hN:∀ c,B c→c<d.heap.size) (e:Bo B d (Pt 2 xM) h j) (f:Bo B d (Pt 2 xM) i p):Calls Tryz.prog 157 #[h,i] d (Gt B d [] (.st (.bool r) fun D=>D)):=by
 unfold iD at t
 revert r
 refine zI func157 [(0,h),(1,i)] (Sep.start hN) fun r=>?_;refine xL (jA 1 rfl (xV (zX (fun y=>.st [(4,.bool y)] []) ?_ (fun _=>?_))))
 ·
  refine jQ (qR 1 rfl (iO e (zA e xM.f0 fun _ z=>aD z fun _=>qR 1 rfl (iO f (zA f xM.f0 fun _ A=>aD A fun _=>qR 2 rfl (dP 14 (fun _=>?_) (fun _=>?_)))))))
  ·
   refine qR 1 rfl (iO e (zA e xM.f1 fun _ C=>aZ C fun _ E=>qR 1 rfl (iO f (zA f xM.f1 fun _ F=>aZ F fun _ G=>jB fun I K=>(jqk (fun H=>iA I K _ aA (H.a E) (H.a G)) (qR 2 rfl ?_))))));refine iS (dI ?_);exact jf ls
  refine qR 11 rfl (iS (dI ?_));exact jf ls
 refine jY ?_;exact zB (rt rfl) lv
def lQ (c d:Formula):Option Bool:=
 vC (σ:=Bool) (
  if (c.free != d.free) then  some (.nx true) else  if (c.vars != d.vars) then  some (.nx true) else  some (.nx ((c.atoms.length:Int) != (d.atoms.length:Int)))) fun e=>
 if e then
  some false
 else
  vC (σ:=Unit) (
   oM (σ:=Unit) (ρ:=Bool) (fun (f:Nat) (h:Atom) (s:Unit)=>
     match s with
     | _=>
     xK (ix d.atoms (f:Int)) fun i=>
     xK (iD h i) fun j=>
     if (!j) then
      some (.ret false)
     else
      some (.go ())) c.atoms 0 ()) fun _=>
  some true
theorem xFw {B:Nat→Prop} {t y:Formula} (r:Bool) (O:lQ t y=some r) {f:Value} {h:Value} (i:World) (hN:∀ c,B c→c<i.heap.size) (d:Bo B i (Pt 3 xC) f t) (e:Bo B i (Pt 3 xC) h y):Calls Tryz.prog 85 #[f,h] i (Gt B i [] (.st (.bool r) fun D=>D)):=by
 unfold lQ at O
 revert r
 refine zI func85 [(0,f),(1,h)] (Sep.start hN) fun r=>?_;refine xL (jA 1 rfl (bS (zX (fun P=>.st [(0,f),(1,h),(38,.bool P)] []) ?_ (fun _=>?_))))
 ·
  refine jQ (qR 1 rfl (iO d (zA d xC.f0 fun _ Q=>aD Q fun _=>qR 1 rfl (iO e (zA e xC.f0 fun _ R=>aD R fun _=>qR 2 rfl (dP 15 (fun _=>?_) (fun _=>?_)))))))
  ·
   refine qR 23 rfl (iS (dI ?_));exact jf ls
  refine qR 1 rfl (iO d (zA d xC.f1 fun _ S=>aD S fun _=>qR 1 rfl (iO e (zA e xC.f1 fun _ T=>aD T fun _=>qR 3 rfl (dP 26 (fun _=>?_) (fun _=>?_))))))
  ·
   refine qR 12 rfl (iS (dI ?_));exact jf ls
  refine qR 1 rfl (iO d (zA d xC.f2 fun _ U=>aZ U fun _ V=>jqL V fun _=>qR 1 rfl (iO e (zA e xC.f2 fun _ W=>aZ W fun _ X=>jqL X fun _=>qR 2 rfl ?_))));refine iS (dI ?_);exact jf ls
 refine dI (zC (fun _=>?_) (fun _=>?_))
 ·
  refine xL (jA 1 rfl (xT ?_));exact zB (rt rfl) lv
 refine kZ (jA 1 rfl (xF (zX (fun _=>.st [] []) ?_ (fun _=>?_))))
 ·
  refine eD (jl (fun z _=>.st [(5,xI (z:Int)),(0,f),(1,h)] []) ls (fun _ _ _ Y=>?_) (fun z _ _ j Z=>?_))
  ·
   have p:=qC Y;refine oH (jA 2 rfl (jN d (dH d xC.f2 fun _ h9=>iI h9 fun _ C=>jL C fun _=>jA 1 rfl (xF (gR p (xS ?_))))));exact jf ls
  have p:=xW j;refine oH (jA 2 rfl (jN d (dH d xC.f2 fun _ E=>iI E fun _ F=>jL F fun A=>jA 1 rfl (xF (gN p (qD ?_))))));have j1:=jZ (Nat.le_of_lt j) A;have m1:=vK j A;refine xDs (jQ (qR 1 rfl (iO d (zA d xC.f2 fun _ G=>aZ G fun _ I=>qR 1 rfl (jqI I Z fun _ K=>qR 1 rfl (iO e (zA e xC.f2 (fun _ L=>?_))))))));refine aZ L fun _ M=>qR 1 rfl (jB fun z1 c1=>(jqI M c1 fun _ N=>jB fun z2 c2=>(jqk (fun H=>yG z2 c2 _ aA (H.a K) (H.a N)) (qR 1 rfl (iS (dI (zC (fun _=>?_) (fun _=>?_))))))))
  ·
   refine xL (jA 1 rfl (vE (jrt (eX (jrj (a_R ?_))))));exact zB (rt rfl) lv
  refine vY (jA 1 rfl (oQ m1 (jA 1 rfl (xF ?_))));exact jg ls
 refine qQ (jA 1 rfl (xP ?_));exact zB (rt rfl) lv
def nQ (c d:Gadgets):Option Bool:=
 if ((c.formulas.length:Int) != (d.formulas.length:Int)) then
  some false
 else
  vC (σ:=Unit) (
   oM (σ:=Unit) (ρ:=Bool) (fun (e:Nat) (f:Formula) (s:Unit)=>
     match s with
     | _=>
     xK (ix d.formulas (e:Int)) fun h=>
     xK (lQ f h) fun i=>
     if (!i) then
      some (.ret false)
     else
      some (.go ())) c.formulas 0 ()) fun _=>
  some true
theorem xGf {B:Nat→Prop} {t y:Gadgets} (r:Bool) (K:nQ t y=some r) {f:Value} {h:Value} (e:World) (hN:∀ c,B c→c<e.heap.size) (d:Bo B e (Pt 1 xJ) f t) (i:Bo B e (Pt 1 xJ) h y):Calls Tryz.prog 39 #[f,h] e (Gt B e [] (.st (.bool r) fun D=>D)):=by
 unfold nQ at K
 revert r
 refine zI func39 [(0,f),(1,h)] (Sep.start hN) fun r=>?_;refine xL (jA 1 rfl (bS (jQ (qR 1 rfl (iO d (zA d xJ.f0 fun _ L=>aZ L fun _ M=>jqL M fun _=>qR 1 rfl (iO i ?_)))))));refine zA i xJ.f0 fun _ N=>aZ N fun _ O=>jqL O fun _=>qR 1 rfl (iS (dI (zC (fun _=>?_) (fun _=>?_))))
 ·
  refine xL (jA 1 rfl (xT ?_));exact zB (rt rfl) lv
 refine kZ (jA 1 rfl (xF (zX (fun _=>.st [] []) ?_ (fun _=>?_))))
 ·
  refine eD (jl (fun z _=>.st [(5,xI (z:Int)),(0,f),(1,h)] []) ls (fun _ _ _ P=>?_) (fun z _ _ j Q=>?_))
  ·
   have p:=qC P;refine oH (jA 2 rfl (jN d (dH d xJ.f0 fun _ R=>iI R fun _ S=>jL S fun _=>jA 1 rfl (xF (gR p (xS ?_))))));exact jf ls
  have p:=xW j;refine oH (jA 2 rfl (jN d (dH d xJ.f0 fun _ T=>iI T fun _ C=>jL C fun A=>jA 1 rfl (xF (gN p (qD ?_))))));have j1:=jZ (Nat.le_of_lt j) A;have U:=vK j A;refine xDs (jQ (qR 1 rfl (iO d (zA d xJ.f0 fun _ V=>aZ V fun _ W=>qR 1 rfl (jqI W Q fun _ E=>qR 1 rfl (iO i (zA i xJ.f0 (fun _ F=>?_))))))));refine aZ F fun _ G=>qR 1 rfl (jB fun z1 X=>(jqI G X fun _ I=>jB fun Y Z=>(jqk (fun H=>xFw Y Z _ aA (H.a E) (H.a I)) (qR 1 rfl (iS (dI (zC (fun _=>?_) (fun _=>?_))))))))
  ·
   refine xL (jA 1 rfl (vE (jrt (eX (jrj (a_R ?_))))));exact zB (rt rfl) lv
  refine vY (jA 1 rfl (oQ U (jA 1 rfl (xF ?_))));exact jg ls
 refine qQ (jA 1 rfl (xP ?_));exact zB (rt rfl) lv
def aF (c d:Gadgets):Option Bool:=
 xK (nQ (Gadgets.mk c.formulas) (Gadgets.mk d.formulas)) fun e=>
 some e
theorem pV {B:Nat→Prop} {h i:Gadgets} (r:Bool) (j:aF h i=some r) {e:Value} {f:Value} (d:World) (hN:∀ c,B c→c<d.heap.size) (p:Bo B d (qG 1 xJ) e h) (t:Bo B d (qG 1 xJ) f i):Calls Tryz.prog 10 #[e,f] d (Gt B d [] (.st (.bool r) fun D=>D)):=by
 unfold aF at j
 revert r
 refine zI func10 [(0,e),(1,f)] (Sep.start hN) fun r=>?_;refine xL ?_;obtain⟨E,rfl,y⟩:=xJ.o p;refine jX e2 (fun _=>?_);obtain⟨F,rfl,z⟩:=xJ.o t;refine jX e2 fun _=>jA 1 rfl (xN (jB fun A C=>(jk (fun H=>xGf A C _ aA (xJ.b (H.g 1 rfl).bk (H.a y)) (xJ.b (H.g 0 rfl).bk (H.a z))) (jA 1 rfl (xP ?_)))));exact zB (rt rfl) lv
def oZ (e f:List Formula) (h:Formula→Formula→Option Bool):Option Bool:=
 if ((e.length:Int) != (f.length:Int)) then
  some false
 else
  vC (σ:=Unit) (
   oM (σ:=Unit) (ρ:=Bool) (fun (i:Nat) (c:Formula) (s:Unit)=>
     match s with
     | _=>
     xK (ix f (i:Int)) fun d=>
     xK (h (Formula.mk c.free c.vars c.atoms) (Formula.mk d.free d.vars d.atoms)) fun j=>
     if (!j) then
      some (.ret false)
     else
      some (.go ())) e 0 ()) fun _=>
  some true
theorem cE {B:Nat→Prop} {p z:List Formula} {A:Formula→Formula→Option Bool} (r:Bool) (R:oZ p z A=some r) {h:Value} {i:Value} {e:FuncId} {f:List Value} (d:World) (hN:∀ c,B c→c<d.heap.size) (t:Bo B d (Sl 3 xC) h p) (C:Bo B d (Sl 3 xC) i z) (O:∀ args w,(callFunc e args).run Tryz.prog w= .ok (.enter e args) w) (P:∀ (E F:Formula) (r:Bool),A E F=some r→∀ W,Below d.heap.size d W→∀ (G I:Value),Bo (All W) W (qG 3 xC) G E→Bo (All W) W (qG 3 xC) I F→Calls Tryz.prog e ([G,I]++f:List Value).toArray W (Gt (All W) W [] (.st (.bool r) fun D=>D))):Calls Tryz.prog 40 #[h,i,.func (.func e) #[] f.toArray] d (Gt B d [] (.st (.bool r) fun D=>D)):=by
 unfold oZ at R
 revert r
 refine zI func40 [(0,h),(1,i),(2,.func (.func e) #[] f.toArray)] (Sep.start hN) fun r=>?_;refine xL (jA 1 rfl (xO (jA 1 rfl (jL t fun _=>jA 1 rfl (jL C fun _=>jA 1 rfl (xF (zC (fun _=>?_) (fun _=>?_))))))))
 ·
  refine xL (jA 1 rfl (xT ?_));exact zB (rt rfl) lv
 refine kZ (jA 1 rfl (jL t fun K=>jA 1 rfl (xF (zX (fun _=>.st [] []) ?_ (fun _=>?_)))))
 ·
  refine eD (jl (fun L _=>.st [(17,xI (L:Int)),(1,i),(2,.func (.func e) #[] f.toArray),(15,h),(16,xI (p.length:Int))] []) ls (fun _ _ _ S=>?_) (fun L x3 _ j T=>?_))
  ·
   have y:=qC S;refine xL (jA 1 rfl (xV (gR y (xS ?_))));exact jf ls
  have y:=xW j;refine xL (jA 1 rfl (xV (gN y (qD ?_))));have j1:=jZ (Nat.le_of_lt j) K;have U:=vK j K;refine kE (jA 1 rfl (jI t T fun _ V=>jlA V fun _ X=>dG rfl fun _=>jA 1 rfl ?_));obtain⟨v2,rfl,Y,Z,M⟩:=xC.o X;refine bC (hv:=(fun H=>oc rfl (oc rfl (oc (H.a M).one on)))) e3 (xN (jA 2 rfl (jB fun z1 c1=>(jI C c1 fun _ h4=>jlA h4 fun _ Q=>dG rfl (fun _=>?_)))));obtain⟨v3,rfl,i4,i5,N⟩:=xC.o Q;refine bC (hv:=(fun H=>oc rfl (oc rfl (oc (H.a N).one on)))) e3 (xN (jA 1 rfl (zY 1 e3 (zY 0 e3 (jB fun z2 c2=>?_)))));refine jkV O e2 (fun H=>P _ _ z2 c2 _ H.bl _ _ (xC.m Y Z (H.a M)) (xC.m i4 i5 (H.a N))) (jA 1 rfl (xF (zC (fun _=>?_) (fun _=>?_))))
  ·
   refine xL (jA 1 rfl (vE (jrt (eX (jrj (a_R ?_))))));exact zB (rt rfl) lv
  refine vY (oQ U (jA 1 rfl (xF (js [] rfl ?_))));exact jg ls
 refine qQ (jA 1 rfl (xP ?_));exact zB (rt rfl) lv
def vJ (c d:List Atom) (h:Atom→Atom→Option Bool):Option Bool:=
 if ((c.length:Int) != (d.length:Int)) then
  some false
 else
  vC (σ:=Unit) (
   oM (σ:=Unit) (ρ:=Bool) (fun (i:Nat) (e:Atom) (s:Unit)=>
     match s with
     | _=>
     xK (ix d (i:Int)) fun f=>
     xK (h (Atom.mk e.rel e.args) (Atom.mk f.rel f.args)) fun j=>
     if (!j) then
      some (.ret false)
     else
      some (.go ())) c 0 ()) fun _=>
  some true
theorem fU {B:Nat→Prop} {p z:List Atom} {A:Atom→Atom→Option Bool} (r:Bool) (Q:vJ p z A=some r) {h:Value} {i:Value} {e:FuncId} {f:List Value} (d:World) (hN:∀ c,B c→c<d.heap.size) (t:Bo B d (Sl 2 xM) h p) (C:Bo B d (Sl 2 xM) i z) (O:∀ args w,(callFunc e args).run Tryz.prog w= .ok (.enter e args) w) (P:∀ (E F:Atom) (r:Bool),A E F=some r→∀ W,Below d.heap.size d W→∀ (G I:Value),Bo (All W) W (qG 2 xM) G E→Bo (All W) W (qG 2 xM) I F→Calls Tryz.prog e ([G,I]++f:List Value).toArray W (Gt (All W) W [] (.st (.bool r) fun D=>D))):Calls Tryz.prog 86 #[h,i,.func (.func e) #[] f.toArray] d (Gt B d [] (.st (.bool r) fun D=>D)):=by
 unfold vJ at Q
 revert r
 refine zI func86 [(0,h),(1,i),(2,.func (.func e) #[] f.toArray)] (Sep.start hN) fun r=>?_;refine xL (jA 1 rfl (xO (jA 1 rfl (jL t fun _=>jA 1 rfl (jL C fun _=>jA 1 rfl (xF (zC (fun _=>?_) (fun _=>?_))))))))
 ·
  refine xL (jA 1 rfl (xT ?_));exact zB (rt rfl) lv
 refine kZ (jA 1 rfl (jL t fun K=>jA 1 rfl (xF (zX (fun _=>.st [] []) ?_ (fun _=>?_)))))
 ·
  refine eD (jl (fun L _=>.st [(17,xI (L:Int)),(1,i),(2,.func (.func e) #[] f.toArray),(15,h),(16,xI (p.length:Int))] []) ls (fun _ _ _ R=>?_) (fun L x3 _ j S=>?_))
  ·
   have y:=qC R;refine xL (jA 1 rfl (xV (gR y (xS ?_))));exact jf ls
  have y:=xW j;refine xL (jA 1 rfl (xV (gN y (qD ?_))));have j1:=jZ (Nat.le_of_lt j) K;have T:=vK j K;refine kE (jA 1 rfl (jI t S fun _ U=>jlA U fun _ V=>dG rfl fun _=>jA 1 rfl ?_));obtain⟨v2,rfl,X,M⟩:=xM.o V;refine bC (hv:=(fun H=>oc rfl (oc (H.a M).one on))) e3 (xN (jA 2 rfl (jB fun z1 Y=>(jI C Y fun _ Z=>jlA Z fun _ h5=>dG rfl (fun _=>?_)))));obtain⟨a4,rfl,i3,N⟩:=xM.o h5;refine bC (hv:=(fun H=>oc rfl (oc (H.a N).one on))) e3 (xN (jA 1 rfl (zY 1 e3 (zY 0 e3 (jB fun z2 c2=>?_)))));refine jkV O e2 (fun H=>P _ _ z2 c2 _ H.bl _ _ (xM.m X (H.a M)) (xM.m i3 (H.a N))) (jA 1 rfl (xF (zC (fun _=>?_) (fun _=>?_))))
  ·
   refine xL (jA 1 rfl (vE (jrt (eX (jrj (a_R ?_))))));exact zB (rt rfl) lv
  refine vY (oQ T (jA 1 rfl (xF (js [] rfl ?_))));exact jg ls
 refine qQ (jA 1 rfl (xP ?_));exact zB (rt rfl) lv
def kG (c d:List Int):Option Bool:=
 if ((c.length:Int) != (d.length:Int)) then
  some false
 else
  vC (σ:=Unit) (
   oM (σ:=Unit) (ρ:=Bool) (fun (f:Nat) (e:Int) (s:Unit)=>
     match s with
     | _=>
     xK (ix d (f:Int)) fun h=>
     if (e != h) then
      some (.ret false)
     else
      some (.go ())) c 0 ()) fun _=>
  some true
theorem nI {B:Nat→Prop} {i t:List Int} (r:Bool) (C:kG i t=some r) {e:Value} {f:Value} (d:World) (hN:∀ c,B c→c<d.heap.size) (j:Bo B d (Sl 1 xG) e i) (y:Bo B d (Sl 1 xG) f t):Calls Tryz.prog 158 #[e,f] d (Gt B d [] (.st (.bool r) fun D=>D)):=by
 unfold kG at C
 revert r
 refine zI func158 [(0,e),(1,f)] (Sep.start hN) fun r=>?_;refine xL (jA 1 rfl (xO (jA 1 rfl (jL j fun _=>jA 1 rfl (jL y fun _=>jA 1 rfl (xF (zC (fun _=>?_) (fun _=>?_))))))))
 ·
  refine xL (jA 1 rfl (xT ?_));exact zB (rt rfl) lv
 refine kZ (jA 1 rfl (jL j fun z=>jA 1 rfl (xF (zX (fun _=>.st [] []) ?_ (fun _=>?_)))))
 ·
  refine eD (jl (fun A _=>.st [(13,xI (A:Int)),(0,e),(1,f),(12,xI (i.length:Int))] []) ls (fun _ _ _ E=>?_) (fun A _ _ h F=>?_))
  ·
   have p:=qC E;refine xL (jA 1 rfl (xV (gR p (xS ?_))));exact jf ls
  have p:=xW h;refine xL (jA 1 rfl (xV (gN p (qD ?_))));have j1:=jZ (Nat.le_of_lt h) z;have G:=vK h z;refine kE (jA 2 rfl (xV (jQ (qR 2 rfl (jqI j F fun _ H=>aD H fun _=>qR 2 rfl (jB fun L I=>(jqI y I fun _ K=>aD K (fun _=>?_))))))));refine qR 1 rfl (iS (dI (zC (fun _=>?_) (fun _=>?_))))
  ·
   refine xL (jA 1 rfl (vE (jrt (eX (jrj (a_R ?_))))));exact zB (rt rfl) lv
  refine vY (oQ G (jA 1 rfl (xF ?_)));exact jg ls
 refine qQ (jA 1 rfl (xP ?_));exact zB (rt rfl) lv
def mL (c d:Atom):Option Bool:=
 vC (σ:=Bool) (
  if (c.rel==d.rel) then  xK (kG c.args d.args) fun e=>
   some (.nx e) else  some (.nx false)) fun f=>
 some f
theorem xDq {B:Nat→Prop} {h i:Atom} (r:Bool) (j:mL h i=some r) {e:Value} {f:Value} (d:World) (hN:∀ c,B c→c<d.heap.size) (p:Bo B d (qG 2 xM) e h) (t:Bo B d (qG 2 xM) f i):Calls Tryz.prog 87 #[e,f] d (Gt B d [] (.st (.bool r) fun D=>D)):=by
 unfold mL at j
 revert r
 refine zI func87 [(0,e),(1,f)] (Sep.start hN) fun r=>?_;refine xL ?_;obtain⟨G,rfl,I,y⟩:=xM.o p;refine jX e2 (fun _=>?_);obtain⟨F,rfl,K,z⟩:=xM.o t;refine jX e2 fun _=>jA 1 rfl (xV (zX (fun A=>.st [(4,.bool A)] []) ?_ (fun _=>?_)))
 ·
  refine a_g (xY e2 (jb 1 e3 (xY e2 (jb 0 e3 (jA 2 rfl (dP 10 (fun _=>?_) (fun _=>?_)))))))
  ·
   refine xY e2 (jb 1 e3 (xY e2 (jb 0 e3 (jB fun C E=>(jk (fun H=>nI C E _ aA (H.a y) (H.a z)) (jA 2 rfl (xF (js [] rfl ?_))))))));exact jf ls
  refine jA 7 rfl (xF (js [] rfl ?_));exact jf ls
 refine jY ?_;exact zB (rt rfl) lv
def dE (c d:Formula):Option Bool:=
 vC (σ:=Bool) (
  if (c.free==d.free) then  if (c.vars==d.vars) then  xK (vJ c.atoms d.atoms (fun e f=>mL e f)) fun h=>
    some (.nx h) else  some (.nx false) else  some (.nx false)) fun i=>
 some i
theorem yM {B:Nat→Prop} {i j:Formula} (r:Bool) (t:dE i j=some r) {e:Value} {f:Value} (d:World) (hN:∀ c,B c→c<d.heap.size) (y:Bo B d (qG 3 xC) e i) (z:Bo B d (qG 3 xC) f j):Calls Tryz.prog 41 #[e,f] d (Gt B d [] (.st (.bool r) fun D=>D)):=by
 unfold dE at t
 revert r
 refine zI func41 [(0,e),(1,f)] (Sep.start hN) fun r=>?_;refine xL ?_;obtain⟨I,rfl,K,L,A⟩:=xC.o y;refine jX e2 (fun _=>?_);obtain⟨M,rfl,G,N,C⟩:=xC.o z;refine jX e2 fun _=>jA 1 rfl (xV (zX (fun E=>.st [(4,.bool E)] []) ?_ (fun _=>?_)))
 ·
  refine a_g (xY e2 (jb 1 e3 (xY e2 (jb 0 e3 (jA 2 rfl (dP 10 (fun _=>?_) (fun _=>?_)))))))
  ·
   refine xY e2 (jb 1 e3 (xY e2 (jb 0 e3 (jA 3 rfl (dP 17 (fun _=>?_) (fun _=>?_))))))
   ·
    refine xY e2 (jb 1 e3 (xY e2 (jb 0 e3 (jB fun F p=>(jk (fun H=>fU F p _ aA (H.a A) (H.a C) call87 (fun O P r h W Q R S f0 f1=>xDq r h W aA f0 f1)) (jA 2 rfl (xF (js [] rfl ?_))))))));exact jf ls
   refine jA 7 rfl (xF (js [] rfl ?_));exact jf ls
  refine jA 14 rfl (xF (js [] rfl ?_));exact jf ls
 refine jY ?_;exact zB (rt rfl) lv
def dD (c d:Gadgets):Option Bool:=
 xK (oZ c.formulas d.formulas (fun e f=>dE e f)) fun h=>
 some h
theorem yQ {B:Nat→Prop} {i j:Gadgets} (r:Bool) (p:dD i j=some r) {e:Value} {f:Value} (d:World) (hN:∀ c,B c→c<d.heap.size) (t:Bo B d (qG 1 xJ) e i) (y:Bo B d (qG 1 xJ) f j):Calls Tryz.prog 11 #[e,f] d (Gt B d [] (.st (.bool r) fun D=>D)):=by
 unfold dD at p
 revert r
 refine zI func11 [(0,e),(1,f)] (Sep.start hN) fun r=>?_;refine xL ?_;obtain⟨F,rfl,z⟩:=xJ.o t;refine jX e2 (fun _=>?_);obtain⟨G,rfl,A⟩:=xJ.o y;refine jX e2 fun _=>jA 1 rfl (xN (xY e2 (jb 1 e3 (xY e2 (jb 0 e3 (jB fun C E=>(jk (fun H=>cE C E _ aA (H.a z) (H.a A) call41 (fun I K r h W L M N f0 f1=>yM r h W aA f0 f1)) (jA 1 rfl (xP ?_)))))))));exact zB (rt rfl) lv
def qU (N:Nat) (c d:Template) (e:Gadgets):Option Bool:=
 xK (aG (Template.mk c.size c.rels) (Template.mk d.size d.rels) (Gadgets.mk e.formulas)) fun f=>
 if (!f) then
  some false
 else
  xK (aV N (Template.mk c.size c.rels) (Template.mk d.size d.rels) (Gadgets.mk e.formulas)) fun h=>
  some ((decide (h.1<0)))
theorem cN {B:Nat→Prop} {N:Nat} {i j:Template} {p:Gadgets} (r:Bool) (E:qU N i j p=some r) {e:Value} {f:Value} {h:Value} (d:World) (hN:∀ c,B c→c<d.heap.size) (F:Bo B d (qG 2 xA) e i) (G:Bo B d (qG 2 xA) f j) (I:Bo B d (qG 1 xJ) h p):Calls Tryz.prog 12 #[e,f,h] d (Gt B d [] (.st (.bool r) fun D=>D)):=by
 unfold qU at E
 revert r
 refine zI func12 [(0,e),(1,f),(2,h)] (Sep.start hN) fun r=>?_;refine xL ?_;obtain⟨Q,rfl,t,y⟩:=xA.o F;refine jX e2 (fun _=>?_);obtain⟨P,rfl,z,A⟩:=xA.o G;refine jX e2 (fun _=>?_);obtain⟨R,rfl,C⟩:=xJ.o I;refine jX e2 fun _=>jA 1 rfl (xO (zY 2 e3 (zY 1 e3 (zY 0 e3 (jB fun K L=>?_)))));refine jk (fun H=>pJ K L _ aA (xA.m t (H.a y)) (xA.m z (H.a A)) (xJ.m (H.a C))) (jA 1 rfl (xF (zC (fun _=>?_) (fun _=>?_))))
 ·
  refine xL (jA 1 rfl (xT ?_));exact zB (rt rfl) lv
 refine oY (zY 2 e3 (zY 1 e3 (zY 0 e3 (jB fun M O=>?_))));refine jk (fun H=>rP M O _ H.hN (xA.m t (H.u y)) (xA.m z (H.u A)) (xJ.m (H.u C))) fun _ _=>jA 5 rfl (xN (jA 3 rfl (xP ?_)));exact zB (rt rfl) lv
end Go.Proofs.YtlommebgedmjdaaGreatDoor
