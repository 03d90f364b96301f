import Derived.Test.YtlommebgedmjdaaGreatDoorJI
import Derived.Test.YtlommebgedmjdaaGreatDoorP1
namespace Go.Proofs.YtlommebgedmjdaaGreatDoor
open Go.Proofs.Tryz
set_option maxHeartbeats 1000000
set_option linter.unusedVariables false
set_option linter.unusedSimpArgs false
set_option maxRecDepth 100000
open Go.RowKit
def jH (c:Int):Option Bool:=
 xK (kI c 1 4) fun d=>
 some d
theorem yB {B:Nat→Prop} {d:Int} (r:Bool) (h:jH d=some r)  (e:World) (hN:∀ c,B c→c<e.heap.size) (f:xH d):Calls Tryz.prog 101 #[xI d] e (Gt B e [] (.st (.bool r) fun D=>D)):=by
 unfold jH at h
 revert r
 refine zI func101 [(0,xI d)] (Sep.start hN) fun r=>?_;refine xL (jA 1 rfl (xN (jA 1 rfl (jB fun i j=>(jk (fun H=>bN i j _ aA f (show xH (1) by decide) (show xH (4) by decide)) (jA 1 rfl (xP ?_)))))));exact zB (rt rfl) lv
def fX (c:Int):Option Bool:=
 some ((c != c))
theorem rN {B:Nat→Prop} {d:Int} (r:Bool) (f:fX d=some r)  (e:World) (hN:∀ c,B c→c<e.heap.size) (h:xH d):Calls Tryz.prog 214 #[xI d] e (Gt B e [] (.st (.bool r) fun D=>D)):=by
 unfold fX at f
 revert r
 refine zI func214 [(0,xI d)] (Sep.start hN) fun r=>?_;refine xL (jA 1 rfl (xN (jA 4 rfl (xP ?_))));exact zB (rt rfl) lv
def cC (c d:Int):Option Int:=
 xK (fX c) fun f=>
 xK (fX d) fun e=>
 if f then
  if e then
   some 0
  else
   some ((-1))
 else
  if e then
   some 1
  else
   if (decide (c<d)) then
    some ((-1))
   else
    if (decide (d<c)) then
     some 1
    else
     some 0
theorem wP {B:Nat→Prop} {d e:Int} (r:Int) (j:cC d e=some r)  (f:World) (hN:∀ c,B c→c<f.heap.size) (h:xH d) (i:xH e):Calls Tryz.prog 191 #[xI d,xI e] f (Gt B f [] (.fa (xH r) <| .st (xI r) fun D=>D)):=by
 unfold cC at j
 revert r
 refine zI func191 [(0,xI d),(1,xI e)] (Sep.start hN) fun r=>?_;refine xL (jA 1 rfl (xN (jA 1 rfl (jB fun p t=>(jk (fun H=>rN p t _ aA h) (jA 1 rfl (xN (jA 1 rfl (jB fun y z=>(jk (fun H=>rN y z _ aA i) ?_))))))))));refine jA 1 rfl (xO (jA 1 rfl (xF (zC (fun _=>?_) (fun _=>?_)))))
 ·
  refine oH (jA 1 rfl (xF (zC (fun _=>?_) (fun _=>?_))))
  ·
   refine xL (jA 1 rfl (xWd ?_));exact zB (rt rfl) ⟨(show xH (0) by decide),lv⟩
  refine oY (jA 1 rfl (xT ?_));exact zB (rt rfl) ⟨(show xH (-1) by decide),lv⟩
 refine kZ (jA 1 rfl (xF (zC (fun _=>?_) (fun _=>?_))))
 ·
  refine xL (jA 1 rfl (xT ?_));exact zB (rt rfl) ⟨(show xH (1) by decide),lv⟩
 refine kZ (jA 3 rfl (xF (zC (fun _=>?_) (fun _=>?_))))
 ·
  refine xL (jA 1 rfl (xT ?_));exact zB (rt rfl) ⟨(show xH (-1) by decide),lv⟩
 refine kZ (jA 3 rfl (xF (zC (fun _=>?_) (fun _=>?_))))
 ·
  refine xL (jA 1 rfl (xT ?_));exact zB (rt rfl) ⟨(show xH (1) by decide),lv⟩
 refine oY (jA 1 rfl (xP ?_));exact zB (rt rfl) ⟨(show xH (0) by decide),lv⟩
def qW (d c:List Int):Option Int:=
 vC (σ:=Unit) (
  oM (σ:=Unit) (ρ:=Int) (fun (e:Nat) (h:Int) (s:Unit)=>
    match s with
    | _=>
    if (decide ((c.length:Int)≤(e:Int))) then
     some (.ret 1)
    else
     xK (ix c (e:Int)) fun i=>
     xK (cC h i) fun f=>
     if (f != 0) then
      some (.ret f)
     else
      some (.go ())) d 0 ()) fun _=>
 if (decide ((d.length:Int)<(c.length:Int))) then
  some ((-1))
 else
  some 0
theorem eU {B:Nat→Prop} {i y:List Int} (r:Int) (E:qW i y=some r) {d:Value} {e:Value} (f:World) (hN:∀ c,B c→c<f.heap.size) (j:Bo B f (Sl 1 xG) d i) (p:Bo B f (Sl 1 xG) e y):Calls Tryz.prog 156 #[d,e] f (Gt B f [] (.fa (xH r) <| .st (xI r) fun D=>D)):=by
 unfold qW at E
 revert r
 refine zI func156 [(0,d),(1,e)] (Sep.start hN) fun r=>?_;refine xL (jA 1 rfl (xO (jA 1 rfl (jL j fun z=>jA 1 rfl (xF (zX (fun _=>.st [(0,d),(1,e)] []) ?_ (fun _=>?_)))))))
 ·
  refine eD (jl (fun A _=>.st [(11,xI (A:Int)),(0,d),(1,e),(9,d),(10,xI (i.length:Int))] []) ls (fun _ _ _ F=>?_) (fun A _ _ h G=>?_))
  ·
   have t:=qC F;refine xL (jA 1 rfl (xV (gR t (xS ?_))));exact jf ls
  have t:=xW h;refine xL (jA 1 rfl (xV (gN t (qD ?_))));have j1:=jZ (Nat.le_of_lt h) z;have I:=vK h z;refine kE (jA 1 rfl (jI j G fun _ K=>iG K fun L=>jA 2 rfl (xO (jA 2 rfl (jL p fun _=>jA 1 rfl (xF (zC (fun _=>?_) (fun _=>?_))))))))
  ·
   refine xL (jA 1 rfl (pF (jrt (eX (jrj (a_R ?_))))));exact zB (rt rfl) ⟨(show xH (1) by decide),lv⟩
  refine oY (jA 2 rfl (jB fun R M=>(jI p M fun _ N=>iG N fun O=>jA 1 rfl (xN (jA 2 rfl (jB fun P Q=>(jk (fun H=>wP P Q _ aA L O) fun C=>jA 1 rfl ?_)))))));refine xN (jA 2 rfl (xF (zC (fun _=>?_) (fun _=>?_))))
  ·
   refine xL (jA 2 rfl (vE (jrt (eX (jrj (a_R ?_))))));exact zB (rt rfl) ⟨C,lv⟩
  refine vY (oQ I (jA 1 rfl (xF ?_)));exact jg ls
 refine sQ (jA 1 rfl (jL j fun _=>jA 1 rfl (jL p fun _=>jA 1 rfl (xF (zC (fun _=>?_) (fun _=>?_))))))
 ·
  refine xL (jA 1 rfl (xT ?_));exact zB (rt rfl) ⟨(show xH (-1) by decide),lv⟩
 refine oY (jA 1 rfl (xP ?_));exact zB (rt rfl) ⟨(show xH (0) by decide),lv⟩
def bP (d:Int) (c:Rel):Option Bool:=
 vC (σ:=Bool) (
  xK (jH d) fun h=>
  if (!h) then  some (.nx true) else  xK (cQ c.arity) fun i=>
   some (.nx (!i))) fun j=>
 if j then
  some false
 else
  vC (σ:=Unit) (
   oM (σ:=Unit) (ρ:=Bool) (fun (e:Nat) (f:(List Int)) (s:Unit)=>
     match s with
     | _=>
     vC (σ:=Bool) (
      xK (vS d f c.arity) fun p=>
      if (!p) then  some (.nx true) else  if (decide (0<(e:Int))) then  xK (ck ((e:Int) - 1)) fun t=>
        xK (ix c.tuples t) fun y=>
        xK (qW y f) fun z=>
        some (.nx (decide (0≤z))) else  some (.nx false)) fun A=>
     if A then
      some (.ret false)
     else
      some (.go ())) c.tuples 0 ()) fun _=>
  some true
theorem xDy {B:Nat→Prop} {d:Int} {e:Rel} (r:Bool) (G:bP d e=some r) {p:Value} (i:World) (hN:∀ c,B c→c<i.heap.size) (A:xH d) (I:Bo B i (qG 2 oV) p e):Calls Tryz.prog 104 #[xI d,p] i (Gt B i [] (.st (.bool r) fun D=>D)):=by
 unfold bP at G
 revert r
 refine zI func104 [(0,xI d),(1,p)] (Sep.start hN) fun r=>?_;refine xL ?_;obtain⟨h,rfl,C,t⟩:=oV.o I;refine jX e2 fun f=>jA 1 rfl (bS ?_);refine zX (fun K=>.st [(0,xI d),(3,xU f),(15,.bool K)] [bx f [xI e.arity,h] 108]) ?_ (fun _=>?_)
 ·
  refine a_g (jA 1 rfl (jB fun L M=>(jk (fun H=>yB L M _ aA A) (jA 2 rfl (dP 10 (fun _=>?_) (fun _=>?_))))))
  ·
   refine jA 5 rfl (xF ?_);exact jf ls
  refine xY e2 (jb 0 e3 (jB fun N O=>(jk (fun H=>pN N O _ aA C) (jA 2 rfl (xF ?_)))));exact jf ls
 refine dI (zC (fun _=>?_) (fun _=>?_))
 ·
  refine xL (jA 1 rfl (xT ?_));exact zB (rt rfl) lv
 refine kZ (xY e2 (jb 0 e3 (jL t fun E=>jA 1 rfl (xF (zX (fun _=>.st [] []) ?_ (fun _=>?_))))))
 ·
  refine eD ?_;refine jl (fun y _=>.st [(19,xI (y:Int)),(0,xI d),(3,xU f),(17,h),(18,xI (e.tuples.length:Int))] [bx f [xI e.arity,h] 108]) ls (fun _ _ _ P=>?_) (fun y _ _ j Q=>?_)
  ·
   have z:=qC P;refine xL (jA 1 rfl (xV (gR z (xS (js [] rfl ?_)))));exact jf ls
  have z:=xW j;refine xL (jA 1 rfl (xV (gN z (qD ?_))));have j1:=jZ (Nat.le_of_lt j) E;have R:=vK j E;refine kE (jA 1 rfl (jI t Q fun _ S=>iI S fun _ F=>jA 2 rfl (xV ?_)));refine zX (fun T=>.st [(0,xI d),(3,xU f),(17,h),(18,xI (e.tuples.length:Int)),(19,xI (y:Int)),(44,.bool T)] [bx f [xI e.arity,h] 108]) ?_ (fun _=>?_)
  ·
   refine a_g (jA 2 rfl (xY e2 (jb 0 e3 (jB fun U V=>(jk (fun H=>fD U V _ aA A (H.a F) C) (jA 2 rfl (dP 30 (fun _=>?_) (fun _=>?_))))))))
   ·
    refine jA 14 rfl (xF ?_);exact jf ls
   refine jA 3 rfl (dP 33 (fun _=>?_) (fun _=>?_))
   ·
    refine xY e2 (jb 0 e3 (jA 1 rfl (jB fun z4 W=>(dA W (jB fun z5 X=>(jI t X fun _ Y=>iI Y fun _ Z=>jA 1 rfl (jB fun z6 c6=>(jk (fun H=>eU z6 c6 _ aA (H.a Z) (H.a F)) (fun a2=>?_)))))))));refine jA 3 rfl (xF ?_);exact jf ls
   refine jA 11 rfl (xF ?_);exact jf ls
  refine dI (zC (fun _=>?_) (fun _=>?_))
  ·
   refine xL (jA 1 rfl (vE (jrt (eX (jrj (a_R ?_))))));exact zB (rt rfl) lv
  refine vY (oQ R (jA 1 rfl (xF ?_)));exact jg ls
 refine qQ (jA 1 rfl (xP ?_));exact zB (rt rfl) lv
def eB (c:Rel) (d:Template):Option Bool:=
 xK (bP d.size (Rel.mk c.arity c.tuples)) fun e=>
 some ((!e))
theorem sY {B:Nat→Prop} {h:Rel} {i:Template} (r:Bool) (p:eB h i=some r) {e:Value} {f:Value} (d:World) (hN:∀ c,B c→c<d.heap.size) (t:Bo B d (qG 2 oV) e h) (y:Bo B d (Pt 2 xA) f i):Calls Tryz.prog 103 #[e,f] d (Gt B d [] (.st (.bool r) fun D=>D)):=by
 unfold eB at p
 revert r
 refine zI func103 [(0,e),(1,f)] (Sep.start hN) fun r=>?_;refine xL ?_;obtain⟨G,rfl,z,A⟩:=oV.o t;refine jX e2 fun _=>jA 1 rfl (xN (dH y xA.f0 fun _ j=>iG j fun C=>zY 0 e3 (jB fun E F=>?_)));refine jk (fun H=>xDy E F _ aA C (oV.m z (H.a A))) (jA 2 rfl (xP ?_));exact zB (rt rfl) lv
def aR (c:List Rel) (d:Rel→Option Bool):Option Int:=
 vC (σ:=Unit) (
  oM (σ:=Unit) (ρ:=Int) (fun (e:Nat) (f:Rel) (s:Unit)=>
    match s with
    | _=>
    xK (d f) fun h=>
    if h then
     some (.ret ((e:Int)))
    else
     some (.go ())) c 0 ()) fun _=>
 some ((-1))
theorem nG {B:Nat→Prop} {j:List Rel} {t:Rel→Option Bool} (r:Int) (K:aR j t=some r) {h:Value} {d:FuncId} {f:List Value} (e:World) (hN:∀ c,B c→c<e.heap.size) (y:Bo B e (Sl 2 oV) h j) (F:∀ args w,(callFunc d args).run Tryz.prog w= .ok (.enter d args) w) (G:∀ (z:Rel) (r:Bool),t z=some r→∀ W,Below e.heap.size e W→∀ (A:Value),Bo (All W) W (qG 2 oV) A z→Calls Tryz.prog d ([A]++f:List Value).toArray W (Gt (All W) W [] (.st (.bool r) fun D=>D))):Calls Tryz.prog 166 #[h,.func (.func d) #[] f.toArray] e (Gt B e [] (.fa (xH r) <| .st (xI r) fun D=>D)):=by
 unfold aR at K
 revert r
 refine zI func166 [(0,h),(1,.func (.func d) #[] f.toArray)] (Sep.start hN) fun r=>?_;refine xL (jA 1 rfl (xO (jA 1 rfl (jL y fun C=>jA 1 rfl (xF (zX (fun _=>.st [] []) ?_ (fun _=>?_)))))))
 ·
  refine eD (jl (fun E _=>.st [(8,xI (E:Int)),(0,h),(1,.func (.func d) #[] f.toArray),(7,xI (j.length:Int))] []) ls (fun _ _ _ L=>?_) (fun E _ _ i M=>?_))
  ·
   have p:=qC L;refine xL (jA 1 rfl (xV (gR p (xS ?_))));exact jf ls
  have p:=xW i;refine xL (jA 1 rfl (xV (gN p (qD ?_))));have j1:=jZ (Nat.le_of_lt i) C;have N:=vK i C;refine kE (jA 2 rfl (xN (jA 3 rfl (jI y M fun _ I=>jlA I fun _ O=>jB fun P Q=>?_))));refine jkV F e2 (fun H=>G _ P Q _ H.bl _ (H.a O)) (xF (zC (fun _=>?_) (fun _=>?_)))
  ·
   refine xL (jA 2 rfl (vE (jrt (eX (jrj (a_R ?_))))));exact zB (rt rfl) ⟨j1,lv⟩
  refine vY (oQ N (jA 1 rfl (xF ?_)));exact jg ls
 refine qQ (jA 1 rfl (xP ?_));exact zB (rt rfl) ⟨(show xH (-1) by decide),lv⟩
def zJ (c:List Rel) (d:Rel→Option Bool):Option Bool:=
 xK (aR c d) fun e=>
 some ((decide (0≤e)))
theorem lV {B:Nat→Prop} {p:List Rel} {t:Rel→Option Bool} (r:Bool) (C:zJ p t=some r) {j:Value} {e:FuncId} {i:List Value} (d:World) (hN:∀ c,B c→c<d.heap.size) (E:Bo B d (Sl 2 oV) j p) (z:∀ args w,(callFunc e args).run Tryz.prog w= .ok (.enter e args) w) (A:∀ (f:Rel) (r:Bool),t f=some r→∀ W,Below d.heap.size d W→∀ (y:Value),Bo (All W) W (qG 2 oV) y f→Calls Tryz.prog e ([y]++i:List Value).toArray W (Gt (All W) W [] (.st (.bool r) fun D=>D))):Calls Tryz.prog 102 #[j,.func (.func e) #[] i.toArray] d (Gt B d [] (.st (.bool r) fun D=>D)):=by
 unfold zJ at C
 revert r
 refine zI func102 [(0,j),(1,.func (.func e) #[] i.toArray)] (Sep.start hN) fun r=>?_;refine xL (jA 1 rfl (xN (jA 2 rfl (jB fun F G=>(jk (fun H=>nG F G _ aA (H.a E) z (fun f r h W I=>A f r h W (H.bl.trans (I.mono H.fr.size)))) fun K=>jA 2 rfl (xP ?_))))));exact zB (rt rfl) lv
def oJ (c:Template):Option Bool:=
 vC (σ:=Bool) (
  xK (jH c.size) fun d=>
  if d then  if (decide ((c.rels.length:Int)≤6)) then  xK (zJ c.rels (fun e=>eB e (Template.mk c.size c.rels))) fun f=>
    some (.nx (!f)) else  some (.nx false) else  some (.nx false)) fun h=>
 some h
theorem aH {B:Nat→Prop} {i:Template} (r:Bool) (t:oJ i=some r) {e:Value} (d:World) (hN:∀ c,B c→c<d.heap.size) (y:Bo B d (qG 2 xA) e i):Calls Tryz.prog 49 #[e] d (Gt B d [] (.st (.bool r) fun D=>D)):=by
 unfold oJ at t
 revert r
 refine zI func49 [(0,e)] (Sep.start hN) fun r=>?_;refine xL ?_;obtain⟨G,rfl,j,f⟩:=xA.o y;refine jX e2 fun _=>jA 1 rfl (xV (zX (fun z=>.st [(2,.bool z)] []) ?_ (fun _=>?_)))
 ·
  refine a_g (xY e2 (jb 0 e3 (jB fun A C=>(jk (fun H=>yB A C _ aA j) (jA 1 rfl (dP 6 (fun _=>?_) (fun _=>?_)))))))
  ·
   refine xY e2 (jb 0 e3 (jL f fun _=>jA 3 rfl (dP 12 (fun _=>?_) (fun _=>?_))))
   ·
    refine xY e2 (jb 0 e3 (sA e2 (jB fun E p=>(jk (fun H=>lV E p _ aA (H.a f) call103 (fun I r h W F K f0=>sY r h W aA f0 ((xA.b (H.g 0 rfl).bk j (H.a f)).w F))) (jA 3 rfl (xF (js [] rfl ?_)))))));exact jf ls
   refine jA 7 rfl (xF (js [] rfl ?_));exact jf ls
  refine jA 13 rfl (xF (js [] rfl ?_));exact jf ls
 refine jY ?_;exact zB (rt rfl) lv
def kT (d:Template) (c:Int):Option Int:=
 if (c==(-1)) then
  some 2
 else
  xK (ck ((d.rels.length:Int) - 1)) fun e=>
  xK (kI c 0 e) fun f=>
  if (!f) then
   some 0
  else
   xK (ix d.rels c) fun h=>
   some h.arity
theorem jK {B:Nat→Prop} {h:Template} {d:Int} (r:Int) (t:kT h d=some r) {f:Value} (e:World) (hN:∀ c,B c→c<e.heap.size) (y:Bo B e (qG 2 xA) f h) (p:xH d):Calls Tryz.prog 150 #[f,xI d] e (Gt B e [] (.fa (xH r) <| .st (xI r) fun D=>D)):=by
 unfold kT at t
 revert r
 refine zI func150 [(0,f),(1,xI d)] (Sep.start hN) fun r=>?_;refine xL ?_;obtain⟨I,rfl,K,i⟩:=xA.o y;refine jX e2 fun _=>jA 1 rfl (xFa (jA 3 rfl (xF (zC (fun _=>?_) (fun _=>?_)))))
 ·
  refine xL (jA 1 rfl (nR ?_));exact zB (rt rfl) ⟨(show xH (2) by decide),lv⟩
 refine xL (jA 1 rfl (xY e2 (jb 0 e3 (jL i fun _=>jB fun L j=>(dA j (jB fun z A=>(jk (fun H=>bN z A _ aA p (show xH (0) by decide) (bD j)) (jA 2 rfl (xF ?_)))))))));refine zC (fun _=>?_) (fun _=>?_)
 ·
  refine xL (jA 1 rfl (nR ?_));exact zB (rt rfl) ⟨(show xH (0) by decide),lv⟩
 refine xEh (xY e2 (jb 0 e3 (jA 1 rfl (jB fun M C=>(jI i C fun _ E=>dH E oV.f0 fun _ F=>iG F fun G=>jA 1 rfl (xP ?_))))));exact zB (rt rfl) ⟨G,lv⟩
def eP (c:Atom) (e:Template) (f:Formula):Option Bool:=
 vC (σ:=Bool) (
  xK (kT e c.rel) fun d=>
  if (d==0) then  some (.nx true) else  xK (jJ (Atom.mk c.rel c.args) d f.vars) fun h=>
   some (.nx (!h))) fun i=>
 some i
theorem tX {B:Nat→Prop} {p:Atom} {t:Template} {y:Formula} (r:Bool) (F:eP p t y=some r) {e:Value} {f:Value} {h:Value} (d:World) (hN:∀ c,B c→c<d.heap.size) (G:Bo B d (qG 2 xM) e p) (z:Bo B d (Pt 2 xA) f t) (I:Bo B d (Pt 3 xC) h y):Calls Tryz.prog 149 #[e,f,h] d (Gt B d [] (.st (.bool r) fun D=>D)):=by
 unfold eP at F
 revert r
 refine zI func149 [(0,e),(1,f),(2,h)] (Sep.start hN) fun r=>?_;refine xL ?_;obtain⟨R,rfl,i,K⟩:=xM.o G;refine jX e2 fun _=>jA 1 rfl (xV (zX (fun L=>.st [(4,.bool L)] []) ?_ (fun _=>?_)))
 ·
  refine jQ (xRz z fun _ E=>nV e2 (jqb 0 e3 (jB fun A C=>(xWw (fun H=>jK A C _ aA (H.a E) i) fun j=>qR 2 rfl (dP 10 (fun _=>?_) (fun _=>?_))))))
  ·
   refine qR 11 rfl (iS (dI (js [] rfl ?_)));exact jf ls
  refine xWb 0 e3 (xRz z fun _ M=>nV e2 (jqb 0 e3 (xWw (fun H=>jK A C _ aA (H.a M) i) fun j=>zA I xC.f1 fun _ N=>aD N fun O=>jB fun P Q=>?_)));refine jqk (fun H=>wX P Q _ aA (xM.m i (H.a K)) j O) (qR 3 rfl (iS (dI (js [] rfl ?_))));exact jf ls
 refine jY ?_;exact zB (rt rfl) lv
def cD (d:Template) (c:Formula):Option Bool:=
 vC (σ:=Bool) (
  xK (oJ (Template.mk d.size d.rels)) fun e=>
  if e then  xK (fS (Formula.mk c.free c.vars c.atoms)) fun f=>
   if f then  xK (xX c.atoms (fun h=>eP h (Template.mk d.size d.rels) (Formula.mk c.free c.vars c.atoms))) fun i=>
    some (.nx (!i)) else  some (.nx false) else  some (.nx false)) fun j=>
 some j
theorem wF {B:Nat→Prop} {p:Template} {t:Formula} (r:Bool) (F:cD p t=some r) {e:Value} {f:Value} (d:World) (hN:∀ c,B c→c<d.heap.size) (G:Bo B d (qG 2 xA) e p) (I:Bo B d (qG 3 xC) f t):Calls Tryz.prog 80 #[e,f] d (Gt B d [] (.st (.bool r) fun D=>D)):=by
 unfold cD at F
 revert r
 refine zI func80 [(0,e),(1,f)] (Sep.start hN) fun r=>?_;refine xL ?_;obtain⟨Q,rfl,y,z⟩:=xA.o G;refine jX e2 (fun _=>?_);obtain⟨R,rfl,A,j,i⟩:=xC.o I;refine jX e2 fun _=>jA 1 rfl (xV (zX (fun K=>.st [(4,.bool K)] []) ?_ (fun _=>?_)))
 ·
  refine a_g (zY 1 e3 (jB fun E L=>?_));refine jk (fun H=>aH E L _ aA (xA.m y (H.a z))) (jA 1 rfl (dP 7 (fun _=>?_) (fun _=>?_)))
  ·
   refine zY 0 e3 (jB fun M N=>?_);refine jk (fun H=>tZ M N _ aA (xC.m A j (H.a i))) (jA 2 rfl (dP 11 (fun _=>?_) (fun _=>?_)))
   ·
    refine xY e2 (jb 0 e3 (sA e2 (jB fun O P=>(jk (fun H=>aJ O P _ aA (H.a i) call149 (fun S r h W C T f0=>tX r h W aA f0 ((xA.b (H.g 1 rfl).bk y (H.a z)).w C) ((xC.b (H.g 0 rfl).bk A j (H.a i)).w C))) (jA 3 rfl (xF (js [] rfl ?_)))))));exact jf ls
   refine jA 7 rfl (xF (js [] rfl ?_));exact jf ls
  refine jA 11 rfl (xF (js [] rfl ?_));exact jf ls
 refine jY ?_;exact zB (rt rfl) lv
def aG (c d:Template) (f:Gadgets):Option Bool:=
 vC (σ:=Bool) (
  xK (oJ (Template.mk c.size c.rels)) fun h=>
  if (!h) then  some (.nx true) else  xK (oJ (Template.mk d.size d.rels)) fun i=>
   if (!i) then  some (.nx true) else  if (c.size != d.size) then  some (.nx true) else  some (.nx ((f.formulas.length:Int) != (c.rels.length:Int)))) fun j=>
 if j then
  some false
 else
  vC (σ:=Unit) (
   oM (σ:=Unit) (ρ:=Bool) (fun (p:Nat) (e:Formula) (s:Unit)=>
     match s with
     | _=>
     vC (σ:=Bool) (
      xK (cD (Template.mk d.size d.rels) (Formula.mk e.free e.vars e.atoms)) fun t=>
      if (!t) then  some (.nx true) else  xK (ix c.rels (p:Int)) fun y=>
       some (.nx (e.free != y.arity))) fun z=>
     if z then
      some (.ret false)
     else
      some (.go ())) f.formulas 0 ()) fun _=>
  some true
theorem pJ {B:Nat→Prop} {h i:Template} {j:Gadgets} (r:Bool) (Q:aG h i j=some r) {y:Value} {z:Value} {A:Value} (d:World) (hN:∀ c,B c→c<d.heap.size) (R:Bo B d (qG 2 xA) y h) (S:Bo B d (qG 2 xA) z i) (T:Bo B d (qG 1 xJ) A j):Calls Tryz.prog 36 #[y,z,A] d (Gt B d [] (.st (.bool r) fun D=>D)):=by
 unfold aG at Q
 revert r
 refine zI func36 [(0,y),(1,z),(2,A)] (Sep.start hN) fun r=>?_;refine xL ?_;obtain⟨C,rfl,U,E⟩:=xA.o R;refine jX e2 (fun e=>?_);obtain⟨p,rfl,L,M⟩:=xA.o S;refine jX e2 (fun f=>?_);obtain⟨F,rfl,G⟩:=xJ.o T;refine jX e2 fun N=>jA 1 rfl (bS ?_);refine zX (fun V=>.st [(3,xU e),(4,xU f),(5,xU N),(32,.bool V)] [bx N [F] 30,bx f [xI i.size,p] 26,bx e [xI h.size,C] 26]) ?_ (fun _=>?_)
 ·
  refine a_g (zY 2 e3 (jB fun W X=>?_));refine jk (fun H=>aH W X _ aA (xA.m U (H.a E))) (jA 2 rfl (dP 12 (fun _=>?_) (fun _=>?_)))
  ·
   refine jA 20 rfl (xF ?_);exact jf ls
  refine zY 1 e3 (jB fun Y Z=>?_);refine jk (fun H=>aH Y Z _ aA (xA.m L (H.a M))) (jA 3 rfl (dP 17 (fun _=>?_) (fun _=>?_)))
  ·
   refine jA 15 rfl (xF ?_);exact jf ls
  refine xY e2 (jb 2 e3 (xY e2 (jb 1 e3 (jA 3 rfl (dP 24 (fun _=>?_) (fun _=>?_))))))
  ·
   refine jA 8 rfl (xF ?_);exact jf ls
  refine xY e2 (jb 0 e3 (jL G fun _=>xY e2 (jb 2 e3 (jL E fun _=>jA 2 rfl (xF ?_)))));exact jf ls
 refine dI (zC (fun _=>?_) (fun _=>?_))
 ·
  refine xL (jA 1 rfl (xT ?_));exact zB (rt rfl) lv
 refine kZ (xY e2 (jb 0 e3 (jL G fun O=>jA 1 rfl (xF (zX (fun _=>.st [] []) ?_ (fun _=>?_))))))
 ·
  refine eD (js [1,2] rfl ?_);refine jl (fun I _=>.st [(36,xI (I:Int)),(3,xU e),(4,xU f),(34,F),(35,xI (j.formulas.length:Int))] [bx f [xI i.size,p] 26,bx e [xI h.size,C] 26]) ls (fun _ _ _ q1=>?_) (fun I x3 _ t y1=>?_)
  ·
   have K:=qC q1;refine xL (jA 1 rfl (xV (gR K (xS (js [] rfl ?_)))));exact jf ls
  have K:=xW t;refine xL (jA 1 rfl (xV (gN K (qD ?_))));have j1:=jZ (Nat.le_of_lt t) O;have m1:=vK t O;refine kE (jA 1 rfl (jI G y1 fun _ h4=>jlA h4 fun _ h5=>dG rfl fun _=>jA 1 rfl ?_));obtain⟨v5,rfl,i4,i5,P⟩:=xC.o h5;refine bC (hv:=(fun H=>oc rfl (oc rfl (oc (H.a P).one on)))) e3 (xV ?_);refine zX (fun s2=>.st [(3,xU e),(4,xU f),(34,F),(35,xI (j.formulas.length:Int)),(36,xI (I:Int)),(55,.bool s2)] [bx f [xI i.size,p] 26,bx e [xI h.size,C] 26]) ?_ (fun _=>?_)
  ·
   refine jQ (xWb 1 e3 (xWb 0 e3 (jB fun z3 c3=>?_)));refine jqk (fun H=>wF z3 c3 _ aA (xA.m L (H.a M)) (xC.m i4 i5 (H.a P))) (qR 2 rfl (dP 45 (fun _=>?_) (fun _=>?_)))
   ·
    refine qR 10 rfl (iS (dI (js [1,2] rfl ?_)));exact jf ls
   refine nV e2 (jqb 0 e3 (nV e2 (jqb 2 e3 (qR 1 rfl (jB fun z4 c4=>(jqI E c4 fun _ h7=>zA h7 oV.f0 fun _ h8=>aD h8 fun _=>qR 2 rfl (iS ?_)))))));refine dI (js [1,2] rfl ?_);exact jf ls
  refine dI (zC (fun _=>?_) (fun _=>?_))
  ·
   refine xL (jA 1 rfl (vE (jrt (eX (jrj (a_R ?_))))));exact zB (rt rfl) lv
  refine vY (oQ m1 (jA 1 rfl (xF ?_)));exact jg ls
 refine qQ (jA 1 rfl (xP ?_));exact zB (rt rfl) lv
def dY (c d:List Int):Option (List Int):=
 vC (σ:=(List Int)) (
  oM (σ:=(List Int)) (ρ:=(List Int)) (fun (p:Nat) (e:Int) (f:(List Int))=>
   xK (ix c e) fun h=>
   xK (ap f ([h])) fun i=>
   some (.go i)) d 0 []) fun j=>
 some j
theorem iQ {B:Nat→Prop} {z i:List Int} (r:(List Int)) (G:dY z i=some r) {e:Value} {f:Value} (d:World) (hN:∀ c,B c→c<d.heap.size) (I:Bo B d (Sl 1 xG) e z) (A:Bo B d (Sl 1 xG) f i):Calls Tryz.prog 58 #[e,f] d (Gt B d [] (.v fun y=>.st (y) fun D=>rl 1 xG 2 y r::D)):=by
 unfold dY at G
 revert r
 refine zI func58 [(0,e),(1,f)] (Sep.start hN) fun r=>?_;refine xL (jA 1 rfl (xN (jR0 xG fun T=>jA 1 rfl (xO (jA 1 rfl (jL A fun C=>jA 1 rfl (xF (zX (fun K=>.v fun j=>.st [(5,j)] [rl 1 xG 2 j K]) ?_ (fun _ j=>?_)))))))))
 ·
  refine eD ?_;refine jl (fun E F=>.v fun p=>.st [(11,xI (E:Int)),(0,e),(5,p),(9,f),(10,xI (i.length:Int))] [rl 1 xG 2 p F]) ⟨_,ls⟩ (fun _ F _ L p=>?_) (fun E _ _ h M _=>?_)
  ·
   have t:=qC L;refine xL (jA 1 rfl (xV (gR t (xS ?_))));exact jf ⟨_,ls⟩
  have t:=xW h;refine xL (jA 1 rfl (xV (gN t (qD ?_))));have j2:=jZ (Nat.le_of_lt h) C;have N:=vK h C;refine kE (jI A M fun _ O=>iG O fun _=>jA 1 rfl (tH (jA 3 rfl (jB fun U P=>(jI I P fun _ Q=>iG Q fun R=>sL (fun H=>Eo.int R) fun _=>jB fun V S=>?_)))));refine js [1,0] rfl (jPL S fun W=>jA 1 rfl (zQ (oQ N (jA 1 rfl (xF ?_)))));exact jg ⟨_,ls⟩
 refine qQ (jA 2 rfl (xP ?_));exact j1 (rt rfl) ⟨_,lv⟩
def qJ (N:Nat) (c:List (List Int)) (i:List Int) (j:(List Int)→(List Int)→Option Int):Option (Int×Bool):=
 vC (σ:=Int×Int) (
  whl (σ:=Int×Int) (ρ:=Int×Bool) (fun(s:Int×Int)=>
    match s with
    | (d,e)=>
    if (decide (d<e)) then
     xK (ck (d+e)) fun p=>
     xK (nn p) fun h=>
     xK (ix c (h / 2)) fun t=>
     xK (j t i) fun y=>
     if (decide (y<0)) then
      xK (ck ((h / 2)+1)) fun z=>
      some (.go (z,e))
     else
      some (.go (d,(h / 2)))
    else
     some (.brk (d,e))) N (0,(c.length:Int))) fun(f,E)=>
 vC (σ:=Int×Bool) (
  if (decide (f<(c.length:Int))) then  xK (ix c f) fun A=>
   xK (j A i) fun B=>
   some (.nx (f,(B==0))) else  some (.nx (f,false))) fun(C,D)=>
 some (C,D)
theorem dB {B:Nat→Prop} {N:Nat} {t:List (List Int)} {K:List Int} {L:(List Int)→(List Int)→Option Int} (r:Int×Bool) (hR:qJ N t K L=some r) {i:Value} {j:Value} {e:FuncId} {h:List Value} (f:World) (hN:∀ c,B c→c<f.heap.size) (y:Bo B f (Sl 1 (fG 1 xG)) i t) (M:Bo B f (Sl 1 xG) j K) (G:∀ args w,(callFunc e args).run Tryz.prog w= .ok (.enter e args) w) (I:∀ (O P:List Int) (r:Int),L O P=some r→∀ W,Below f.heap.size f W→∀ (Q R:Value),Bo (All W) W (Sl 1 xG) Q O→Bo (All W) W (Sl 1 xG) R P→Calls Tryz.prog e ([Q,R]++h:List Value).toArray W (Gt (All W) W [] (.fa (xH r) <| .st (xI r) fun D=>D))):Calls Tryz.prog 154 #[i,j,.func (.func e) #[] h.toArray] f (Gt B f [] (.fa (xH r.1) <| .st (.tuple #[xI r.1,.bool r.2]) fun D=>D)):=by
 unfold qJ at hR
 revert r
 refine zI func154 [(0,i),(1,j),(2,.func (.func e) #[] h.toArray)] (Sep.start hN) fun r=>?_;refine xL (jA 2 rfl (xN (jA 1 rfl (jL y fun i1=>jA 1 rfl (xN (jA 3 rfl (xV (zX (fun(z,S)=>.fa (xH z) <| .fa (xH S) <| .st [(0,i),(1,j),(2,.func (.func e) #[] h.toArray),(8,xI (t.length:Int)),(9,xI z)] []) ?_ (fun(z,S) T _=>?_)))))))))
 ·
  refine eD ?_;refine jw (fun(A,C)=>.fa (xH A) <| .fa (xH C) <| .st [(0,i),(1,j),(2,.func (.func e) #[] h.toArray),(8,xI (t.length:Int)),(9,xI A),(10,xI C)] []) ⟨(show xH (0) by decide),i1,ls⟩ (fun _ (A,C) U V=>?_);refine oH (jA 3 rfl (xF (zC (fun _=>?_) (fun _=>?_))))
  ·
   refine xWo (jA 2 rfl (jB fun z1 E=>(lY E (jB fun p d=>?_))))
   have X:xH p:=by rw[(nT d).2];exact(bD E)
   refine jU1 (bD E) d (jU2 rfl (jU3 (xRq X (nT (show nn p=some p by rw[(nT d).2];exact((nT d).2.symm ▸ d))).1) (jA 1 rfl (xN (jA 3 rfl (jB fun z3 c3=>(jI y c3 fun _ h1=>iI h1 fun _ a0=>jA 1 rfl (jB fun z4 c4=>?_))))))));refine jkV G e2 (fun H=>I _ _ z4 c4 _ H.bl _ _ (H.a a0) (H.a M)) fun ad=>jA 1 rfl (xF (zC (fun _=>?_) (fun _=>?_)))
   ·
    refine a_g (jA 1 rfl (jB fun z5 Y=>(lY Y (jA 1 rfl (xSn ?_)))));exact jg ⟨(bD Y),V,ls⟩
   refine a_g (jA 2 rfl (xSn ?_));exact jg ⟨U,(xRq X (nT (show nn p=some p by rw[(nT d).2];exact((nT d).2.symm ▸ d))).1),ls⟩
  refine sI (jbk (xCi ?_));exact jf ⟨U,V,ls⟩
 refine xQx (zX (fun(F,Z)=>.fa (xH F) <| .st [(6,xI F),(7,.bool Z)] []) ?_ (fun(F,Z) i6=>?_))
 ·
  refine a_g (jA 5 rfl (dP 39 (fun _=>?_) (fun _=>?_)))
  ·
   refine jA 3 rfl (jB fun z6 c6=>(jI y c6 fun _ h2=>iI h2 fun _ h3=>jA 1 rfl (jB fun z7 c7=>?_)));refine jkV G e2 (fun H=>I _ _ z7 c7 _ H.bl _ _ (H.a h3) (H.a M)) fun ae=>jA 4 rfl (xF ?_);exact jf ⟨T,ls⟩
  refine jA 11 rfl (xF ?_);exact jf ⟨T,ls⟩
 refine jY ?_;exact j2 (rt rfl) (rt rfl) ⟨i6,lv⟩
def iC (c d:List Int):Option Int:=
 xK (qW c d) fun e=>
 some e
theorem xCc {B:Nat→Prop} {h i:List Int} (r:Int) (p:iC h i=some r) {e:Value} {f:Value} (d:World) (hN:∀ c,B c→c<d.heap.size) (t:Bo B d (Sl 1 xG) e h) (y:Bo B d (Sl 1 xG) f i):Calls Tryz.prog 155 #[e,f] d (Gt B d [] (.fa (xH r) <| .st (xI r) fun D=>D)):=by
 unfold iC at p
 revert r
 refine zI func155 [(0,e),(1,f)] (Sep.start hN) fun r=>?_;refine xL (jA 1 rfl (xN (jA 2 rfl (jB fun z A=>(jk (fun H=>eU z A _ aA (H.a t) (H.a y)) fun j=>jA 1 rfl (xP ?_))))));exact zB (rt rfl) ⟨j,lv⟩
def cP (N:Nat) (c:Rel) (d:List Int):Option Bool:=
 xK (qJ N c.tuples d (fun e f=>iC e f)) fun h=>
 some h.2
theorem lF {B:Nat→Prop} {N:Nat} {i:Rel} {j:List Int} (r:Bool) (t:cP N i j=some r) {e:Value} {f:Value} (d:World) (hN:∀ c,B c→c<d.heap.size) (y:Bo B d (qG 2 oV) e i) (z:Bo B d (Sl 1 xG) f j):Calls Tryz.prog 84 #[e,f] d (Gt B d [] (.st (.bool r) fun D=>D)):=by
 unfold cP at t
 revert r
 refine zI func84 [(0,e),(1,f)] (Sep.start hN) fun r=>?_;refine xL ?_;obtain⟨E,rfl,F,A⟩:=oV.o y;refine jX e2 fun _=>jA 1 rfl (xN (xY e2 (jb 0 e3 (jA 1 rfl (jB fun C p=>(jk (fun H=>dB C p _ aA (H.a A) (H.a z) call155 (fun G I r h W K L M f0 f1=>xCc r h W aA f0 f1)) fun _=>jA 5 rfl (xN (jA 2 rfl ?_))))))));refine xP ?_;exact zB (rt rfl) lv
def aT (N:Nat) (e:Template) (c:Atom) (f:List Int):Option Bool:=
 xK (dY f c.args) fun d=>
 if (c.rel==(-1)) then
  xK (ix d 0) fun h=>
  xK (ix d 1) fun i=>
  some ((h==i))
 else
  xK (ix e.rels c.rel) fun j=>
  xK (cP N j d) fun p=>
  some p
theorem tY {B:Nat→Prop} {N:Nat} {i:Template} {j:Atom} {p:List Int} (r:Bool) (z:aT N i j p=some r) {e:Value} {f:Value} {h:Value} (d:World) (hN:∀ c,B c→c<d.heap.size) (A:Bo B d (qG 2 xA) e i) (C:Bo B d (qG 2 xM) f j) (E:Bo B d (Sl 1 xG) h p):Calls Tryz.prog 175 #[e,f,h] d (Gt B d [] (.st (.bool r) fun D=>D)):=by
 unfold aT at z
 revert r
 refine zI func175 [(0,e),(1,f),(2,h)] (Sep.start hN) fun r=>?_;refine xL ?_;obtain⟨X,rfl,Y,F⟩:=xA.o A;refine jX e2 (fun _=>?_);obtain⟨W,rfl,Z,G⟩:=xM.o C;refine jX e2 fun _=>jA 1 rfl (xN (jA 1 rfl (xY e2 (jb 0 e3 (jB fun I K=>(jk (fun H=>iQ I K _ aA (H.a E) (H.a G)) fun _=>jA 1 rfl (xO (xY e2 ?_))))))));refine jb 1 e3 (jA 1 rfl (xF (zC (fun _=>?_) (fun _=>?_))))
 ·
  refine a_s (lA fun _ _ _ _ L _ y _=>?_);have t:=L.ld;refine jQ (qR 1 rfl (jB fun z2 M=>(jqI t M fun _ O=>aD O fun _=>qR 1 rfl (jB fun z3 P=>(jqI t P fun _ Q=>aD Q fun _=>qR 2 rfl (iS ?_))))));refine xRw (dL y ?_);exact zB (rt rfl) lv
 refine oY (xY e2 (jb 2 e3 (xY e2 (jb 1 e3 (jB fun z4 R=>(jI F R fun _ S=>jlA S fun _ T=>jA 1 rfl (jB fun U V=>(jk (fun H=>lF U V _ aA (H.a T) (H.l 0 rfl)) ?_))))))));refine jA 1 rfl (xP ?_);exact zB (rt rfl) lv
def fR (N:Nat) (c:Atom) (d:solver) (e:(List Int)):Option Bool:=
 xK (aT N d.t (Atom.mk c.rel c.args) e) fun f=>
 some ((!f))
theorem uM {B:Nat→Prop} {N:Nat} {j:Atom} {p:solver} {t:(List Int)} (r:Bool) (y:fR N j p t=some r) {e:Value} {f:Value} {h:Value} (d:World) (hN:∀ c,B c→c<d.heap.size) (z:Bo B d (qG 2 xM) e j) (A:Bo B d (Pt 1 (RP 4 qZ)) f p) (C:Bo B d (Pt 1 (fG 1 xG)) h t):Calls Tryz.prog 174 #[e,f,h] d (Gt B d [] (.st (.bool r) fun D=>D)):=by
 unfold fR at y
 revert r
 refine zI func174 [(0,e),(1,f),(2,h)] (Sep.start hN) fun r=>?_;refine xL ?_;obtain⟨O,rfl,E,F⟩:=xM.o z;refine jX e2 fun _=>jA 1 rfl (xV (jQ (jqlP A fun _ i=>iO i (jqF (s':=2) i qZ.f0 fun _ G=>xRz G fun _ I=>xWb 0 e3 (aZ C fun _ K=>jB fun L M=>?_)))));refine jqk (fun H=>tY L M _ aA (H.a I) (xM.m E (H.a F)) (H.a K)) (qR 2 rfl (iS (jY ?_)));exact zB (rt rfl) lv
def bG (N:Nat) (c:solver) (d:List Int):Option Bool:=
 xK (ck ((d.length:Int) - 1)) fun e=>
 xK (ix c.due e) fun f=>
 xK (xX f (fun h=>fR N h c d)) fun i=>
 some ((!i))
theorem pS {B:Nat→Prop} {N:Nat} {p:solver} {t:List Int} (r:Bool) (A:bG N p t=some r) {f:Value} {i:Value} (d:World) (hN:∀ c,B c→c<d.heap.size) (e:Bo B d (Pt 4 qZ) f p) (j:Bo B d (Sl 1 xG) i t):Calls Tryz.prog 123 #[f,i] d (Gt B d [] (.st (.bool r) fun D=>D)):=by
 unfold bG at A
 revert r
 refine zI func123 [(0,f),(1,i)] (Sep.start hN) fun r=>?_;refine xL (jX1 rfl (fun H=>(H.a e).pone) fun _=>jX1 rfl (fun H=>(H.a j).one) fun _=>jA 1 rfl (xV (jQ (jqb 1 e3 (iO e (zA e qZ.f2 fun _ C=>aZ C fun _ z=>jqb 0 e3 ?_))))));refine jqL j fun _=>jB fun O E=>(jqv (fun F H w l=>xKq F rfl rfl E) (jB fun P G=>(jqI z G fun _ I=>aZ I fun _ K=>jqv (fun F H w l=>xNu F rfl rfl) (jB fun L M=>(jqk (fun H=>aJ L M _ aA (H.a K) call174 (fun Q r h W y R f0=>uM r h W aA f0 ((c1P (H.g 1 rfl).bk (H.a e)).w y) ((c1S (H.g 0 rfl).bk (H.a j)).w y))) (qR 2 rfl (iS ?_)))))));refine jY ?_;exact zB (rt rfl) lv
def kP (c:List Int):Option (List Int):=
 some c
theorem pB {B:Nat→Prop} {i:List Int} (r:(List Int)) (j:kP i=some r) {e:Value} (d:World) (hN:∀ c,B c→c<d.heap.size) (f:Bo B d (Sl 1 xG) e i):Calls Tryz.prog 176 #[e] d (Gt B d [] (.o fun h=>.fa (Bo B d (Sl 1 xG) (.slice h r.length r.length) r) <| .st ((.slice h r.length r.length)) fun D=>D)):=by
 unfold kP at j
 revert r
 refine zI func176 [(0,e)] (Sep.start hN) fun r=>?_;refine xL (jA 1 rfl (xN (jA 2 rfl (jL f fun _=>jA 1 rfl (jL f fun _=>jCl f fun t p=>jA 1 rfl (xP ?_))))));exact j1 (rt rfl) ⟨_,p,lv⟩
def zT (c:List Int):Option Int:=
 vC (σ:=Unit) (
  if (decide ((c.length:Int)<1)) then
   none
  else
   some (.nx ())) fun _=>
 xK (ix c 0) fun f=>
 vC (σ:=Int) (
  aY (σ:=Int) (ρ:=Int) (fun (h:Nat) (d:Int)=>
   xK (ix c (1+(h:Int))) fun e=>
   some (.go (if d<e then e else d))) ((c.length:Int) - 1).toNat 0 f) fun i=>
 some i
theorem pR {B:Nat→Prop} {t:List Int} (r:Int) (C:zT t=some r) {e:Value} (h:World) (hN:∀ c,B c→c<h.heap.size) (f:Bo B h (Sl 1 xG) e t):Calls Tryz.prog 173 #[e] h (Gt B h [] (.fa (xH r) <| .st (xI r) fun D=>D)):=by
 unfold zT at C
 revert r
 refine zI func173 [(0,e)] (Sep.start hN) fun r=>?_;refine xL (jA 1 rfl (xO (jA 1 rfl (jL f fun _=>jA 1 rfl (xF (zX (fun _=>.st [(0,e)] []) ?_ (fun _=>?_)))))))
 ·
  refine zC (fun _=>?_) (fun _=>?_)
  ·
   exact jno
  refine xXd ?_;exact jf ls
 refine qQ (jA 1 rfl (jB fun N E=>(jI f E fun _ F=>iG F fun G=>jA 1 rfl (xO (jA 1 rfl (xF (zX (fun y=>.fa (xH y) <| .st [(3,xI y)] []) ?_ (fun _ H=>?_))))))))
 ·
  refine eD ?_;refine jc (fun z i=>.fa (xH i) <| .st [(4,xI (1+(z:Int))),(0,e),(3,xI i)] []) ⟨G,ls⟩ (fun _ i _ d j=>?_) (fun _ z i d j=>?_)
  ·
   have p:=xLf d;refine oH (jA 2 rfl (jL f fun _=>jA 1 rfl (xF (gR p (xS ?_)))));exact jf ⟨j,ls⟩
  have p:=xIb d;refine oH (jA 2 rfl (jL f fun A=>jA 1 rfl (xF (gN p (qD ?_)))));have j1:=oBk d (show xH (1) by decide) A;have I:=xRm d (show xH (1) by decide) A;refine xJr (jA 3 rfl (jB fun O K=>(jI f K fun _ L=>iG L fun M=>oCg e2 (jA 1 rfl (zQ (jA 1 rfl (xTr I (jA 1 rfl ?_))))))));refine xF ?_;exact jg ⟨(oBl j M),ls⟩
 refine qQ (jA 2 rfl (xP ?_));exact zB (rt rfl) ⟨H,lv⟩
def oD (c:List Int):Option (List Int):=
 xK (ap ([]) c) fun d=>
 some d
theorem kY {B:Nat→Prop} {i:List Int} (r:(List Int)) (t:oD i=some r) {e:Value} (d:World) (hN:∀ c,B c→c<d.heap.size) (j:Bo B d (Sl 1 xG) e i):Calls Tryz.prog 38 #[e] d (Gt B d [] (.v fun f=>.st (f) fun D=>rl 1 xG 2 f r::D)):=by
 unfold oD at t
 revert r
 refine zI func38 [(0,e)] (Sep.start hN) fun r=>?_;refine xL (jA 1 rfl (xO (jA 1 rfl (jEn (fun H=>H.a j) fun _ p=>xF (jig (fun h=>?_) (fun h=>?_))))))
 ·
  refine jt (t':=some ([])) (by rw[p h]<;>rfl) (xL (jA 1 rfl (xT (jh (fun H=>H.nl 1 xG 2) ?_))));exact j1 (rt rfl) ⟨_,lv⟩
 refine oY (jR0 xG fun _=>jA 1 rfl (jB fun z y=>(jh (fun H=>H.lw) (jPf (fun H=>H.a j) y fun A=>jh (fun H=>H.tl) (jA 1 rfl (xP ?_))))));exact j1 (rt rfl) ⟨_,lv⟩
end Go.Proofs.YtlommebgedmjdaaGreatDoor
namespace Go.Proofs.YtlommebgedmjdaaGreatDoor
open Go.Proofs.Tryz
end Go.Proofs.YtlommebgedmjdaaGreatDoor
