import Derived.Test.YtlommebgedmjdaaGreatDoorJI
import Derived.Test.YtlommebgedmjdaaGreatDoorP1
import Derived.Test.YtlommebgedmjdaaGreatDoorPV
import Derived.Test.YtlommebgedmjdaaGreatDoorNZ
import Derived.Test.YtlommebgedmjdaaGreatDoorJH
namespace Go.Proofs.YtlommebgedmjdaaGreatDoor
open Go.Proofs.Tryz
set_option maxHeartbeats 1000000
set_option linter.unusedVariables false
set_option linter.unusedSimpArgs false
set_option maxRecDepth 100000
open Go.RowKit
def gE (N:Nat) (c:List UInt8) (E F:Int) (e:Template) (P:Int):Option (Instance×Int×Int):=
 xK (xR c E F P) fun f=>
 xK (ck (1+f.1)) fun t=>
 xK (xR c f.2.1 f.2.2 7) fun h=>
 vC (σ:=Int×Int×Int×(List Con)) (
  whl (σ:=Int×Int×Int×(List Con)) (ρ:=Instance×Int×Int) (fun(s:Int×Int×Int×(List Con))=>
    match s with
    | (i,y,z,A)=>
    vC (σ:=Bool) (
     if (decide (0<i)) then  some (.nx (decide (0<(e.rels.length:Int)))) else  some (.nx false)) fun Q=>
    if Q then
     xK (xR c y z (e.rels.length:Int)) fun d=>
     xK (ix e.rels d.1) fun R=>
     vC (σ:=Int×Int×Int×(List Int)) (
      whl (σ:=Int×Int×Int×(List Int)) (ρ:=(Ctl (Int×Int×Int×(List Con)) (Instance×Int×Int))) (fun(s:Int×Int×Int×(List Int))=>
        match s with
        | (j,B,C,D)=>
        if (decide (0<j)) then
         xK (xR c B C t) fun p=>
         xK (ap D ([p.1])) fun S=>
         xK (ck (j - 1)) fun T=>
         some (.go (T,p.2.1,p.2.2,S))
        else
         some (.brk (j,B,C,D))) N (R.arity,d.2.1,d.2.2,[])) fun(V,G,H,I)=>
     xK (ap A ([(Con.mk d.1 I)])) fun U=>
     xK (ck (i - 1)) fun K=>
     some (.go (K,G,H,U))
    else
     some (.brk (i,y,z,A))) N (h.1,h.2.1,h.2.2,[])) fun(W,L,M,O)=>
 some ((Instance.mk t O),L,M)
theorem xDi {B:Nat→Prop} {N:Nat} {Y:List UInt8} {R Z:Int} {x1:Template} {O:Int} (r:Instance×Int×Int) (hR:gE N Y R Z x1 O=some r) {d:Nat} {p:Value} {t:Value} {X0:List Nat} (C:World) (hN:∀ c,B c→c<C.heap.size) (S0:Sep X0 B C C [bx d [p,xI R,.int .u64 Z] 113]) (G:Bo B C (Sl 1 aW) p Y) (al:xH R) (F:Bo B C (Pt 2 xA) t x1) (am:xH O):Calls Tryz.prog 42 #[xU d,t,xI O] C (Gt B C X0 (.v fun a0=>.fa (xH r.1.vars) <| .fa (xH r.2.1) <| .st (.agg #[xI r.1.vars,a0]) fun D=>rl 2 oU 134 a0 r.1.cons::bx d [p,xI r.2.1,.int .u64 r.2.2] 113::D)):=by
 unfold gE at hR
 revert r
 refine zI func42 [(0,xU d),(1,t),(2,xI O)] S0 fun r=>?_;refine xL (dG rfl fun e=>xN (jA 2 rfl (jB fun z1 c1=>(js [1,0] rfl (jko 1 (fun K1 H=>xZ z1 c1 _ H.hN K1 (H.u G) al am) fun _ i1=>jB fun K P=>(lY P (qT e5 (dG rfl (fun h=>?_)))))))));refine bC e3 (xO (jA 1 rfl (jB fun z3 c3=>(js [1,0,2] rfl (jko 1 (fun K2 H=>xZ z3 c3 _ H.hN K2 (H.u G) i1 (show xH (7) by decide)) fun i2 i3=>jA 1 rfl (xF ?_))))));refine zX (fun(s1,V,s3,s4)=>.v fun W=>.fa (xH s1) <| .fa (xH V) <| .st [(0,xU d),(6,xU e),(7,xU h)] [rl 2 oU 134 W s4,bx d [p,xI V,.int .u64 s3] 113,bx h [xI K,W] 43,bx e [xI 0,cL] 43]) ?_ (fun(s1,V,s3,s4) W _ i4=>?_)
 ·
  refine eD (jh (fun H=>H.nl 2 oU 134) ?_);refine jw (fun(z,Q,X,E)=>.v fun i=>.fa (xH z) <| .fa (xH Q) <| .st [(0,xU d),(1,t),(6,xU e),(7,xU h),(8,xI z)] [rl 2 oU 134 i E,bx d [p,xI Q,.int .u64 X] 113,bx h [xI K,i] 43,bx e [xI 0,cL] 43]) ⟨_,i2,i3,ls⟩ (fun _ (z,Q,X,E) i i5 i6=>?_);refine xZr ?_;refine zX (fun s9=>.st [(0,xU d),(1,t),(6,xU e),(7,xU h),(8,xI z),(27,.bool s9)] [rl 2 oU 134 i E,bx d [p,xI Q,.int .u64 X] 113,bx h [xI K,i] 43,bx e [xI 0,cL] 43]) ?_ (fun _=>?_)
  ·
   refine a_g (jA 3 rfl (dP 20 (fun _=>?_) (fun _=>?_)))
   ·
    refine jA 1 rfl (jN F (dH F xA.f1 fun _ h1=>iI h1 fun _ h2=>jL h2 fun _=>jA 2 rfl (xF ?_)));exact jf ls
   refine jA 7 rfl (xF ?_);exact jf ls
  refine dI (zC (fun _=>?_) (fun _=>?_))
  ·
   refine rF (jA 2 rfl (jN F (dH F xA.f1 fun _ h3=>iI h3 fun _ h4=>jL h4 fun i7=>jB fun L c4=>(js [1,0,2,3] rfl (jko 1 (fun K3 H=>xZ L c4 _ H.hN K3 (H.u G) i6 i7) fun i8 i9=>qT e5 (dG rfl (fun A=>?_)))))));refine bC e3 (bS (jQ (qR 1 rfl (iO F (zA F xA.f1 fun _ h5=>aZ h5 fun _ h6=>nV e2 (jqb 0 e3 (jB fun z5 c5=>(jqI h6 c5 (fun _ h7=>?_)))))))));refine zA h7 oV.f0 fun _ h8=>aD h8 fun an=>qR 1 rfl (iS (dI ?_));refine zX (fun(a1,S,a2,a3)=>.v fun v4=>.fa (xH a1) <| .fa (xH S) <| .st [(0,xU d),(1,t),(6,xU e),(7,xU h),(8,xI z),(9,xU A)] [rl 1 xG 2 v4 a3,bx A [xI L.1,v4] 134,bx d [p,xI S,.int .u64 a2] 113,rl 2 oU 134 i E,bx h [xI K,i] 43,bx e [xI 0,cL] 43]) ?_ (fun(a1,S,a2,a3) _ _ ao=>?_)
   ·
    refine eD (jh (fun H=>H.nl 1 xG 2) ?_);refine jw (fun(I,T,a4,M)=>.v fun y=>.fa (xH I) <| .fa (xH T) <| .st [(0,xU d),(1,t),(6,xU e),(7,xU h),(8,xI z),(9,xU A),(10,xI I)] [rl 1 xG 2 y M,bx A [xI L.1,y] 134,bx d [p,xI T,.int .u64 a4] 113,rl 2 oU 134 i E,bx h [xI K,i] 43,bx e [xI 0,cL] 43]) ⟨_,an,i9,ls⟩ (fun _ (I,T,a4,M) y aq U=>?_);refine oH (jA 2 rfl (xF (zC (fun _=>?_) (fun _=>?_))))
    ·
     refine xNm (jB fun j c6=>(jB fun z7 c7=>(js [4,0,1,2,3,5] rfl (lA fun w1 X1 N1 _ g1 e1 ar _=>?_))));have K4:=g1.bk;refine jD ?_;refine jdp (f:=3) (ls:=#[true,true,true,true,true,true,true,false,false,false]) (.v fun v6=>.fa (xH j.2.1) <| .st [(0,xU d),(1,t),(6,xU e),(7,xU h),(8,xI z),(9,xU A),(10,xI I),(52,y),(57,v6)] [rl 1 xG 2 v6 ([j.1]),bx d [p,xI j.2.1,.int .u64 j.2.2] 113,rl 1 xG 2 y M,bx A [xI L.1,y] 134,rl 2 oU 134 i E,bx e [xI 0,cL] 43]) (fun _ au=>?_) (fun H1=>?_)
     ·
      refine jE 7 rfl (js [2,0,1,3,4,5] rfl (jPL c7 fun v7=>kK (fZ 8 rfl e2 (jE 9 rfl (js [2,0,1,3,4] rfl (jW (hv:=(fun H=>(H.l 1 rfl).one)) e3 (kK (jbe (mU ?_)))))))));refine jA 1 rfl (jB fun z8 c8=>(dA c8 (jA 1 rfl (xF (dL ar (js [2,1,3,4,0,5] rfl ?_))))));exact jg ⟨_,(bD c8),au,ls⟩
     refine jdp (f:=4) (ls:=#[true,true,true,true,true,true,false,false,false,false]) (.fa (xH j.2.1) <| .fa (xH j.1) <| .st [(0,xU d),(1,t),(6,xU e),(7,xU h),(8,xI z),(9,xU A),(10,xI I),(52,y),(56,xI j.1)] [bx d [p,xI j.2.1,.int .u64 j.2.2] 113,rl 1 xG 2 y M,bx A [xI L.1,y] 134,rl 2 oU 134 i E,bx e [xI 0,cL] 43]) (fun av aw=>?_) (fun H2=>?_)
     ·
      refine jE 6 rfl (sL (fun H=>Eo.int aw) fun v8=>kK ?_);exact H1 ⟨_,av,ls⟩
     refine fZ 0 rfl e2 (jvA [2] rfl (fZ 3 rfl e2 (jvb 4 rfl K4 e2 (jV (fun H=>H) 1 5 rfl rfl ?_ ?_))))
     ·
      refine jb 1 e3 (kK (jE 5 rfl (js [2,0,1,3,4] rfl (jko 1 (fun K5 H=>xZ j c6 _ H.hN K5 (H.u (e1 G)) U (bD P)) fun ax ay=>kK ?_))));exact H2 ⟨ay,ax,ls⟩
     refine js [2,0,1,3,4] rfl (jko 1 (fun K6 H=>xZ j c6 _ H.hN K6 (H.u (e1 G)) U (bD P)) fun a5 a6=>kK (jV (fun H=>H) 1 6 rfl rfl ?_ ?_))
     ·
      refine jb 2 e3 (kK ?_);exact H2 ⟨a6,a5,ls⟩
     refine sL (fun H=>Eo.int a5) fun v9=>kK (jE 1 rfl (jb 3 e3 (kK ?_)));exact H1 ⟨_,a6,ls⟩
    refine sI (jbk (xCi ?_));exact jf ⟨_,aq,U,ls⟩
   refine xQp (xY e2 (jb 4 e3 (zY 1 e3 (jh (fun H=>oU.w i8 H) (lC (fun H=>El.agg) fun _=>jB fun z9 c9=>(js [3,0,1,2,4,5] rfl (jPL c9 fun v10=>xY e2 (js [3,0,1,2,4] rfl ?_))))))));refine jW (hv:=(fun H=>(H.l 1 rfl).one)) e3 (zQ (jA 1 rfl (jB fun z10 a7=>(dA a7 (jA 1 rfl (xF (js [1,3,0,4] rfl ?_)))))));exact jg ⟨_,(bD a7),ao,ls⟩
  refine sI (jbk (xCi ?_));exact jf ⟨_,i5,i6,ls⟩
 refine qQ (zY 2 e3 (js [3,0,1,2] rfl ?_));refine bC (hv:=(fun H=>oc rfl (oc (H.l 1 rfl).one on))) e3 (xP ?_);exact j1m (fun H=>H.s [1,2] rfl rfl) (rcA 0 e2) ⟨_,(bD P),i4,lv⟩
def dU (N:Nat) (f:List UInt8) (e:Template) (h:Int):Option Instance:=
 xK (bQ f) fun c=>
 xK (gE N c.1 c.2.1 c.2.2 (Template.mk e.size e.rels) h) fun d=>
 some ((Instance.mk d.1.vars d.1.cons))
theorem xAf {B:Nat→Prop} {N:Nat} {j:List UInt8} {p:Template} {e:Int} (r:Instance) (E:dU N j p e=some r) {f:Value} {h:Value} (d:World) (hN:∀ c,B c→c<d.heap.size) (F:Bo B d (Sl 1 aW) f j) (G:Bo B d (qG 2 xA) h p) (y:xH e):Calls Tryz.prog 13 #[f,h,xI e] d (Gt B d [] (.v fun i=>.fa (xH r.vars) <| .st (.agg #[xI r.vars,i]) fun D=>rl 2 oU 134 i r.cons::D)):=by
 unfold dU at E
 revert r
 refine zI func13 [(0,f),(1,h),(2,xI e)] (Sep.start hN) fun r=>?_;refine xL ?_;obtain⟨T,rfl,I,K⟩:=xA.o G;refine jX e2 fun _=>dG rfl fun U=>xN (jA 1 rfl (jB fun z L=>(jkB (fun H=>lE z L _ H.hN (H.u F)) fun V W M O=>jA 1 rfl (js [2,0,1] rfl (lA fun X Y Z _ P t A _=>?_)))));have K1:=P.bk;refine jB fun C Q=>(jko 1 (fun R H=>xDi C Q _ H.hN R (H.u (t M)) O (xA.b (K1.to H.sm) I (H.u (t K))) y) fun v4 S _=>js [2,0,1] rfl ?_);refine bC (hv:=(fun H=>oc rfl (oc (H.l 1 rfl).one on))) e3 (xP (dL A ?_));exact j1m (fun H=>H.s [2] rfl rfl) (rcA 1 e2) ⟨_,S,lv⟩
def rL (c:Int):Option Bool:=
 xK (kI c 1 10) fun d=>
 some d
theorem xHc {B:Nat→Prop} {d:Int} (r:Bool) (h:rL d=some r)  (e:World) (hN:∀ c,B c→c<e.heap.size) (f:xH d):Calls Tryz.prog 159 #[xI d] e (Gt B e [] (.st (.bool r) fun D=>D)):=by
 unfold rL at h
 revert r
 refine zI func159 [(0,xI d)] (Sep.start hN) fun r=>?_;refine xL (jA 1 rfl (xN (jA 1 rfl (jB fun i j=>(jk (fun H=>bN i j _ aA f (show xH (1) by decide) (show xH (10) by decide)) (jA 1 rfl (xP ?_)))))));exact zB (rt rfl) lv
def eE (c:Con) (d:Template) (e:Instance):Option Bool:=
 vC (σ:=Bool) (
  xK (ck ((d.rels.length:Int) - 1)) fun f=>
  xK (kI c.rel 0 f) fun h=>
  if (!h) then  some (.nx true) else  xK (ix d.rels c.rel) fun i=>
   xK (vS e.vars c.scope i.arity) fun j=>
   some (.nx (!j))) fun p=>
 some p
theorem sV {B:Nat→Prop} {i:Con} {j:Template} {p:Instance} (r:Bool) (z:eE i j p=some r) {e:Value} {f:Value} {h:Value} (d:World) (hN:∀ c,B c→c<d.heap.size) (A:Bo B d (qG 2 oU) e i) (t:Bo B d (Pt 2 xA) f j) (C:Bo B d (Pt 2 xB) h p):Calls Tryz.prog 161 #[e,f,h] d (Gt B d [] (.st (.bool r) fun D=>D)):=by
 unfold eE at z
 revert r
 refine zI func161 [(0,e),(1,f),(2,h)] (Sep.start hN) fun r=>?_;refine xL ?_;obtain⟨Y,rfl,E,G⟩:=oU.o A;refine jX e2 fun _=>jA 1 rfl (xV (zX (fun I=>.st [(4,.bool I)] []) ?_ (fun _=>?_)))
 ·
  refine jQ (nV e2 (jqb 0 e3 (zA t xA.f1 fun _ K=>aZ K fun _ L=>jqL L fun _=>jB fun Z y=>(jqv (fun F H w l=>xKq F rfl rfl y) (jB fun M N=>(jqk (fun H=>bN M N _ aA E (show xH (0) by decide) (bD y)) (qR 2 rfl ?_)))))));refine dP 13 (fun _=>?_) (fun _=>?_)
  ·
   refine qR 15 rfl (iS (dI (js [] rfl ?_)));exact jf ls
  refine zA C xB.f0 fun _ O=>aD O fun P=>nV e2 (jqb 0 e3 (zA t xA.f1 fun _ Q=>aZ Q fun _ R=>nV e2 (jqb 0 e3 (jB fun z3 S=>(jqI R S fun _ T=>zA T oV.f0 (fun _ U=>?_))))));refine aD U fun V=>jB fun W X=>(jqk (fun H=>fD W X _ aA P (H.a G) V) (qR 3 rfl (iS (dI (js [] rfl ?_)))));exact jf ls
 refine jY ?_;exact zB (rt rfl) lv
def zF (c:List Con) (d:Con→Option Bool):Option Int:=
 vC (σ:=Unit) (
  oM (σ:=Unit) (ρ:=Int) (fun (e:Nat) (f:Con) (s:Unit)=>
    match s with
    | _=>
    xK (d f) fun h=>
    if h then
     some (.ret ((e:Int)))
    else
     some (.go ())) c 0 ()) fun _=>
 some ((-1))
theorem fV {B:Nat→Prop} {j:List Con} {t:Con→Option Bool} (r:Int) (K:zF j t=some r) {h:Value} {d:FuncId} {f:List Value} (e:World) (hN:∀ c,B c→c<e.heap.size) (y:Bo B e (Sl 2 oU) h j) (F:∀ args w,(callFunc d args).run Tryz.prog w= .ok (.enter d args) w) (G:∀ (z:Con) (r:Bool),t z=some r→∀ W,Below e.heap.size e W→∀ (A:Value),Bo (All W) W (qG 2 oU) A z→Calls Tryz.prog d ([A]++f:List Value).toArray W (Gt (All W) W [] (.st (.bool r) fun D=>D))):Calls Tryz.prog 117 #[h,.func (.func d) #[] f.toArray] e (Gt B e [] (.fa (xH r) <| .st (xI r) fun D=>D)):=by
 unfold zF at K
 revert r
 refine zI func117 [(0,h),(1,.func (.func d) #[] f.toArray)] (Sep.start hN) fun r=>?_;refine xL (jA 1 rfl (xO (jA 1 rfl (jL y fun C=>jA 1 rfl (xF (zX (fun _=>.st [] []) ?_ (fun _=>?_)))))))
 ·
  refine eD (jl (fun E _=>.st [(8,xI (E:Int)),(0,h),(1,.func (.func d) #[] f.toArray),(7,xI (j.length:Int))] []) ls (fun _ _ _ L=>?_) (fun E _ _ i M=>?_))
  ·
   have p:=qC L;refine xL (jA 1 rfl (xV (gR p (xS ?_))));exact jf ls
  have p:=xW i;refine xL (jA 1 rfl (xV (gN p (qD ?_))));have j1:=jZ (Nat.le_of_lt i) C;have N:=vK i C;refine kE (jA 2 rfl (xN (jA 3 rfl (jI y M fun _ I=>jlA I fun _ O=>jB fun P Q=>?_))));refine jkV F e2 (fun H=>G _ P Q _ H.bl _ (H.a O)) (xF (zC (fun _=>?_) (fun _=>?_)))
  ·
   refine xL (jA 2 rfl (vE (jrt (eX (jrj (a_R ?_))))));exact zB (rt rfl) ⟨j1,lv⟩
  refine vY (oQ N (jA 1 rfl (xF ?_)));exact jg ls
 refine qQ (jA 1 rfl (xP ?_));exact zB (rt rfl) ⟨(show xH (-1) by decide),lv⟩
def zL (c:List Con) (d:Con→Option Bool):Option Bool:=
 xK (zF c d) fun e=>
 some ((decide (0≤e)))
theorem lW {B:Nat→Prop} {p:List Con} {t:Con→Option Bool} (r:Bool) (C:zL p t=some r) {j:Value} {e:FuncId} {i:List Value} (d:World) (hN:∀ c,B c→c<d.heap.size) (E:Bo B d (Sl 2 oU) j p) (z:∀ args w,(callFunc e args).run Tryz.prog w= .ok (.enter e args) w) (A:∀ (f:Con) (r:Bool),t f=some r→∀ W,Below d.heap.size d W→∀ (y:Value),Bo (All W) W (qG 2 oU) y f→Calls Tryz.prog e ([y]++i:List Value).toArray W (Gt (All W) W [] (.st (.bool r) fun D=>D))):Calls Tryz.prog 160 #[j,.func (.func e) #[] i.toArray] d (Gt B d [] (.st (.bool r) fun D=>D)):=by
 unfold zL at C
 revert r
 refine zI func160 [(0,j),(1,.func (.func e) #[] i.toArray)] (Sep.start hN) fun r=>?_;refine xL (jA 1 rfl (xN (jA 2 rfl (jB fun F G=>(jk (fun H=>fV F G _ aA (H.a E) z (fun f r h W I=>A f r h W (H.bl.trans (I.mono H.fr.size)))) fun K=>jA 2 rfl (xP ?_))))));exact zB (rt rfl) lv
def bJ (d:Template) (c:Instance):Option Bool:=
 vC (σ:=Bool) (
  xK (oJ (Template.mk d.size d.rels)) fun f=>
  if f then  xK (rL c.vars) fun h=>
   if h then  if (decide ((c.cons.length:Int)≤24)) then  xK (zL c.cons (fun i=>eE i (Template.mk d.size d.rels) (Instance.mk c.vars c.cons))) fun j=>
     some (.nx (!j)) else  some (.nx false) else  some (.nx false) else  some (.nx false)) fun e=>
 some e
theorem uR {B:Nat→Prop} {j:Template} {p:Instance} (r:Bool) (E:bJ j p=some r) {e:Value} {f:Value} (d:World) (hN:∀ c,B c→c<d.heap.size) (F:Bo B d (qG 2 xA) e j) (G:Bo B d (qG 2 xB) f p):Calls Tryz.prog 88 #[e,f] d (Gt B d [] (.st (.bool r) fun D=>D)):=by
 unfold bJ at E
 revert r
 refine zI func88 [(0,e),(1,f)] (Sep.start hN) fun r=>?_;refine xL ?_;obtain⟨Q,rfl,t,y⟩:=xA.o F;refine jX e2 (fun _=>?_);obtain⟨P,rfl,z,i⟩:=xB.o G;refine jX e2 fun _=>jA 1 rfl (xV (zX (fun C=>.st [(4,.bool C)] []) ?_ (fun _=>?_)))
 ·
  refine a_g (zY 1 e3 (jB fun I K=>?_));refine jk (fun H=>aH I K _ aA (xA.m t (H.a y))) (jA 1 rfl (dP 7 (fun _=>?_) (fun _=>?_)))
  ·
   refine xY e2 (jb 0 e3 (jB fun L M=>(jk (fun H=>xHc L M _ aA z) (jA 2 rfl (dP 12 (fun _=>?_) (fun _=>?_))))))
   ·
    refine xY e2 (jb 0 e3 (jL i fun _=>jA 3 rfl (dP 18 (fun _=>?_) (fun _=>?_))))
    ·
     refine xY e2 (jb 0 e3 (sA e2 (jB fun N O=>(jk (fun H=>lW N O _ aA (H.a i) call161 (fun R r h W A S f0=>sV r h W aA f0 ((xA.b (H.g 1 rfl).bk t (H.a y)).w A) ((xB.b (H.g 0 rfl).bk z (H.a i)).w A))) (jA 3 rfl (xF (js [] rfl ?_)))))));exact jf ls
    refine jA 7 rfl (xF (js [] rfl ?_));exact jf ls
   refine jA 13 rfl (xF (js [] rfl ?_));exact jf ls
  refine jA 18 rfl (xF (js [] rfl ?_));exact jf ls
 refine jY ?_;exact zB (rt rfl) lv
def kJ (N:Nat) (c d:Template) (f:Gadgets) (e:Instance):Option Int:=
 vC (σ:=Bool) (
  xK (qU N (Template.mk c.size c.rels) (Template.mk d.size d.rels) (Gadgets.mk f.formulas)) fun h=>
  if (!h) then  some (.nx true) else  xK (bJ (Template.mk c.size c.rels) (Instance.mk e.vars e.cons)) fun i=>
   some (.nx (!i))) fun j=>
 if j then
  some 1
 else
  some 0
theorem lS {B:Nat→Prop} {N:Nat} {j p:Template} {t:Gadgets} {y:Instance} (r:Int) (C:kJ N j p t y=some r) {e:Value} {f:Value} {h:Value} {i:Value} (d:World) (hN:∀ c,B c→c<d.heap.size) (E:Bo B d (qG 2 xA) e j) (F:Bo B d (qG 2 xA) f p) (G:Bo B d (qG 1 xJ) h t) (I:Bo B d (qG 2 xB) i y):Calls Tryz.prog 43 #[e,f,h,i] d (Gt B d [] (.fa (xH r) <| .st (xI r) fun D=>D)):=by
 unfold kJ at C
 revert r
 refine zI func43 [(0,e),(1,f),(2,h),(3,i)] (Sep.start hN) fun r=>?_;refine xL ?_;obtain⟨W,rfl,z,A⟩:=xA.o E;refine jX e2 (fun _=>?_);obtain⟨V,rfl,K,L⟩:=xA.o F;refine jX e2 (fun _=>?_);obtain⟨X,rfl,M⟩:=xJ.o G;refine jX e2 (fun _=>?_);obtain⟨Y,rfl,O,P⟩:=xB.o I;refine jX e2 fun _=>jA 1 rfl (bS (zX (fun Q=>.st [(19,.bool Q)] []) ?_ (fun _=>?_)))
 ·
  refine a_g (zY 3 e3 (zY 2 e3 (zY 1 e3 (jB fun R S=>?_))));refine jk (fun H=>cN R S _ aA (xA.m z (H.a A)) (xA.m K (H.a L)) (xJ.m (H.a M))) (jA 2 rfl (dP 14 (fun _=>?_) (fun _=>?_)))
  ·
   refine jA 5 rfl (xF (js [] rfl ?_));exact jf ls
  refine zY 3 e3 (zY 0 e3 (jB fun T U=>?_));refine jk (fun H=>uR T U _ aA (xA.m z (H.a A)) (xB.m O (H.a P))) (jA 2 rfl (xF (js [] rfl ?_)));exact jf ls
 refine dI (zC (fun _=>?_) (fun _=>?_))
 ·
  refine xL (jA 1 rfl (xT ?_));exact zB (rt rfl) ⟨(show xH (1) by decide),lv⟩
 refine oY (jA 1 rfl (xP ?_));exact zB (rt rfl) ⟨(show xH (0) by decide),lv⟩
def gI (c d:Int):Option (List Int):=
 vC (σ:=(List Int)) (
  aY (σ:=(List Int)) (ρ:=(List Int)) (fun (e:Nat) (f:(List Int))=>
   xK (ck (c+(e:Int))) fun h=>
   xK (ap f ([h])) fun i=>
   some (.go i)) d.toNat 0 []) fun j=>
 some j
theorem uD {B:Nat→Prop} {e f:Int} (r:(List Int)) (E:gI e f=some r)  (i:World) (hN:∀ c,B c→c<i.heap.size) (K:xH e) (t:xH f):Calls Tryz.prog 89 #[xI e,xI f] i (Gt B i [] (.v fun y=>.st (y) fun D=>rl 1 xG 2 y r::D)):=by
 unfold gI at E
 revert r
 refine zI func89 [(0,xI e),(1,xI f)] (Sep.start hN) fun r=>?_;refine xL (jA 1 rfl (xN (jR0 xG fun L=>jA 1 rfl (xO (jA 2 rfl (xF (zX (fun F=>.v fun j=>.st [(5,j)] [rl 1 xG 2 j F]) ?_ (fun _ j=>?_))))))))
 ·
  refine eD ?_;refine jc (fun z A=>.v fun h=>.st [(9,xI (z:Int)),(0,xI e),(5,h),(8,xI f)] [rl 1 xG 2 h A]) ⟨_,ls⟩ (fun _ A _ d h=>?_) (fun _ z _ d _=>?_)
  ·
   have p:=iL d;refine xL (jA 1 rfl (xV (gR p (xS ?_))));exact jf ⟨_,ls⟩
  have p:=eW d;refine xL (jA 1 rfl (xV (gN p (qD ?_))));have j2:=xBl d t;have G:=mB d t;refine kE (jA 2 rfl (tH (jA 3 rfl (jB fun M C=>(lY C (sL (fun H=>Eo.int (bD C)) fun _=>jB fun N I=>(js [1,0] rfl (jPL I fun O=>jA 1 rfl ?_))))))));refine zQ (oQ G (jA 1 rfl (xF ?_)));exact jg ⟨_,ls⟩
 refine qQ (jA 2 rfl (xP ?_));exact j1 (rt rfl) ⟨_,lv⟩
def fA (c:Int) (d:Formula) (e:Con) (f:Int):Option Int:=
 if (decide (c<d.free)) then
  xK (ix e.scope c) fun h=>
  some h
 else
  xK (ck (c+f)) fun i=>
  some i
theorem xBh {B:Nat→Prop} {e:Int} {j:Formula} {p:Con} {t:Int} (r:Int) (A:fA e j p t=some r) {f:Value} {h:Value} {i:Value} (d:World) (hN:∀ c,B c→c<d.heap.size) (M:xH e) (C:Bo B d (Pt 3 xC) f j) (E:Bo B d (Pt 2 oU) h p) (F:Bo B d (Pt 1 xG) i t):Calls Tryz.prog 91 #[xI e,f,h,i] d (Gt B d [] (.fa (xH r) <| .st (xI r) fun D=>D)):=by
 unfold fA at A
 revert r
 refine zI func91 [(0,xI e),(1,f),(2,h),(3,i)] (Sep.start hN) fun r=>?_;refine xL (jA 1 rfl (xO (jA 1 rfl (dH C xC.f0 fun _ G=>iG G fun _=>jA 1 rfl (xF (zC (fun _=>?_) (fun _=>?_)))))))
 ·
  refine xL (dH E oU.f1 fun _ z=>iI z fun _ H=>jA 1 rfl (jB fun N I=>(jI H I fun _ K=>iG K fun L=>jA 1 rfl (xT ?_))));exact zB (rt rfl) ⟨L,lv⟩
 refine oY (jA 1 rfl (iG F fun _=>jB fun O y=>(lY y (jA 1 rfl (xP ?_)))));exact zB (rt rfl) ⟨(bD y),lv⟩
def zP (d:List Atom) (e:Int→Option Int):Option (List Atom):=
 vC (σ:=(List Atom)) (
  oM (σ:=(List Atom)) (ρ:=(List Atom)) (fun (A:Nat) (c:Atom) (f:(List Atom))=>
   vC (σ:=(List Int)) (
    oM (σ:=(List Int)) (ρ:=(Ctl ((List Atom)) (List Atom))) (fun (B:Nat) (h:Int) (i:(List Int))=>
     xK (e h) fun j=>
     xK (ap i ([j])) fun p=>
     some (.go p)) c.args 0 []) fun t=>
   xK (ap f ([(Atom.mk c.rel t)])) fun y=>
   some (.go y)) d 0 []) fun z=>
 some z
theorem gY {B:Nat→Prop} {t:List Atom} {V:Int→Option Int} (r:(List Atom)) (hR:zP t V=some r) {j:Value} {e:FuncId} {i:List Value} (A:World) (hN:∀ c,B c→c<A.heap.size) (X:Bo B A (Sl 2 xM) j t) (S:∀ args w,(callFunc e args).run Tryz.prog w= .ok (.enter e args) w) (T:∀ (M r:Int),V M=some r→∀ W,Below A.heap.size A W→xH M→Calls Tryz.prog e ([xI M]++i:List Value).toArray W (Gt (All W) W [] (.fa (xH r) <| .st (xI r) fun D=>D))):Calls Tryz.prog 90 #[j,.func (.func e) #[] i.toArray] A (Gt B A [] (.v fun U=>.st (U) fun D=>rl 2 xM 120 U r::D)):=by
 unfold zP at hR
 revert r
 refine zI func90 [(0,j),(1,.func (.func e) #[] i.toArray)] (Sep.start hN) fun r=>?_;refine xL (jA 1 rfl (xN (jR0 xM fun v1=>jA 1 rfl (xO (jA 1 rfl (jL X fun Y=>jA 1 rfl (xF (zX (fun s1=>.v fun N=>.st [(5,N)] [rl 2 xM 120 N s1]) ?_ (fun _ N=>?_)))))))))
 ·
  refine eD ?_;refine jl (fun C y=>.v fun d=>.st [(14,xI (C:Int)),(1,.func (.func e) #[] i.toArray),(5,d),(12,j),(13,xI (t.length:Int))] [rl 2 xM 120 d y]) ⟨_,ls⟩ (fun _ y _ q1 d=>?_) (fun C z y K y1 d=>?_)
  ·
   have O:=qC q1;refine xL (jA 1 rfl (xV (gR O (xS ?_))));exact jf ⟨_,ls⟩
  have O:=xW K;refine xL (jA 1 rfl (xV (gN O (qD ?_))));have j2:=jZ (Nat.le_of_lt K) Y;have m1:=vK K Y;refine kE (jI X y1 fun _ h1=>jlA h1 fun _ h2=>dG rfl (fun _=>?_));obtain⟨P,rfl,i2,Q⟩:=xM.o h2;refine bC (hv:=(fun H=>oc rfl (oc (H.a Q).one on))) e3 (xN (xY e2 (jb 0 e3 (qT e5 (dG rfl fun p=>bC e3 (xO (xY e2 (jb 1 e3 (jL Q (fun Z=>?_))))))))));refine jA 1 rfl (xF ?_);refine zX (fun s3=>.v fun v5=>.st [(1,.func (.func e) #[] i.toArray),(5,d),(8,xU p),(12,j),(13,xI (t.length:Int)),(14,xI (C:Int))] [rl 1 xG 2 v5 s3,bx p [xI z.rel,v5] 120,rl 2 xM 120 d y]) ?_ (fun s3 _=>?_)
  ·
   refine eD (jh (fun H=>H.nl 1 xG 2) (js [0,1,3] rfl ?_));refine jl (fun I E=>.v fun h=>.st [(24,xI (I:Int)),(1,.func (.func e) #[] i.toArray),(5,d),(8,xU p),(12,j),(13,xI (t.length:Int)),(14,xI (C:Int)),(22,P),(23,xI (z.args.length:Int))] [rl 1 xG 2 h E,bx p [xI z.rel,h] 120,rl 2 xM 120 d y]) ⟨_,ls⟩ (fun _ E _ q2 h=>?_) (fun I _ E L y2 h=>?_)
   ·
    have R:=qC q2;refine xL (jA 1 rfl (xV (gR R (xS ?_))));exact jf ⟨_,ls⟩
   have R:=xW L;refine xL (jA 1 rfl (xV (gN R (qD ?_))));have j3:=jZ (Nat.le_of_lt L) Z;have m2:=vK L Z;refine kE (jI Q y2 fun _ h4=>iG h4 fun i4=>jA 1 rfl (xF (jB fun F c1=>(jB fun z2 c2=>(jD ?_)))));refine jdp (f:=3) (ls:=#[true,true,true,true,true,true,false,false,false]) (.v fun v7=>.st [(1,.func (.func e) #[] i.toArray),(5,d),(8,xU p),(12,j),(13,xI (t.length:Int)),(14,xI (C:Int)),(22,P),(23,xI (z.args.length:Int)),(24,xI (I:Int)),(29,h),(33,v7)] [rl 1 xG 2 v7 ([F]),rl 1 xG 2 h E,bx p [xI z.rel,h] 120,rl 2 xM 120 d y]) (fun _=>?_) (fun H1=>?_)
   ·
    refine jE 6 rfl (js [1,0,2,3] rfl (jPL c2 fun v8=>kK (fZ 7 rfl e2 (jE 8 rfl (js [1,0,2] rfl (jW (hv:=(fun H=>(H.l 1 rfl).one)) e3 (kK (jbe (mU ?_)))))))));refine oQ m2 (jA 1 rfl (xF (js [1,0,2] rfl ?_)));exact jg ⟨_,ls⟩
   refine jdp (f:=4) (ls:=#[true,true,true,true,true,false,false,false,false]) (.fa (xH F) <| .st [(1,.func (.func e) #[] i.toArray),(5,d),(8,xU p),(12,j),(13,xI (t.length:Int)),(14,xI (C:Int)),(22,P),(23,xI (z.args.length:Int)),(24,xI (I:Int)),(29,h),(32,xI F)] [rl 1 xG 2 h E,bx p [xI z.rel,h] 120,rl 2 xM 120 d y]) (fun i5=>?_) (fun H2=>?_)
   ·
    refine jE 5 rfl (sL (fun H=>Eo.int i5) fun v9=>kK ?_);exact H1 ⟨_,ls⟩
   refine fZ 0 rfl e2 (jvA [2,3] rfl (jV (fun H=>H) 1 4 rfl rfl ?_ ?_))
   ·
    refine jb 1 e3 (kK (jE 4 rfl ?_));refine jkV S e2 (fun H=>T _ F c1 _ H.bl i4) fun G=>kK ?_;exact H2 ⟨G,ls⟩
   refine jkV S e2 (fun H=>T _ F c1 _ H.bl i4) fun G=>kK (jV (fun H=>H) 1 5 rfl rfl ?_ ?_)
   ·
    refine jb 1 e3 (kK ?_);exact H2 ⟨G,ls⟩
   refine sL (fun H=>Eo.int G) fun am=>kK (jE 1 rfl (jb 2 e3 (kK ?_)));exact H1 ⟨_,ls⟩
  refine xQp (jA 1 rfl (zY 1 e3 (jh (fun H=>xM.w i2 H) (lC (fun H=>El.agg) fun _=>jB fun z3 c3=>(js [2,0,1] rfl (jPL c3 fun an=>jA 1 rfl (zQ (oQ m1 ?_))))))));refine jA 1 rfl (xF (js [0] rfl ?_));exact jg ⟨_,ls⟩
 refine qQ (jA 2 rfl (xP ?_));exact j1 (rt rfl) ⟨_,lv⟩
def mZ (d:List Int):Option (List Int):=
 xK (oD d) fun e=>
 xK (zM e) fun c=>
 xK (vP c) fun f=>
 some f
theorem xHe {B:Nat→Prop} {h:List Int} (r:(List Int)) (i:mZ h=some r) {e:Value} (d:World) (hN:∀ c,B c→c<d.heap.size) (j:Bo B d (Sl 1 xG) e h):Calls Tryz.prog 92 #[e] d (Gt B d [] (.v fun f=>.st (f) fun D=>rl 1 xG 2 f r::D)):=by
 unfold mZ at i
 revert r
 refine zI func92 [(0,e)] (Sep.start hN) fun r=>?_;refine xL (jA 1 rfl (xN (jA 1 rfl (jB fun p t=>(jk (fun H=>kY p t _ aA (H.a j)) fun _=>jA 1 rfl (xN (jA 1 rfl (jB fun A y=>(oCc y ?_)))))))));refine xN (jA 1 rfl (jB fun C z=>(xTq z fun E=>jA 1 rfl (xP ?_))));exact j1 (rt rfl) ⟨_,lv⟩
def vG (c:List Int) (d:Int):Option Int:=
 vC (σ:=Unit) (
  oM (σ:=Unit) (ρ:=Int) (fun (e:Nat) (f:Int) (s:Unit)=>
    match s with
    | _=>
    if (d==f) then
     some (.ret ((e:Int)))
    else
     some (.go ())) c 0 ()) fun _=>
 some ((-1))
theorem nE {B:Nat→Prop} {i:List Int} {d:Int} (r:Int) (z:vG i d=some r) {e:Value} (f:World) (hN:∀ c,B c→c<f.heap.size) (p:Bo B f (Sl 1 xG) e i) (G:xH d):Calls Tryz.prog 93 #[e,xI d] f (Gt B f [] (.fa (xH r) <| .st (xI r) fun D=>D)):=by
 unfold vG at z
 revert r
 refine zI func93 [(0,e),(1,xI d)] (Sep.start hN) fun r=>?_;refine xL (jA 1 rfl (xO (jA 1 rfl (jL p fun t=>jA 1 rfl (xF (zX (fun _=>.st [] []) ?_ (fun _=>?_)))))))
 ·
  refine eD (jl (fun y _=>.st [(8,xI (y:Int)),(0,e),(1,xI d),(7,xI (i.length:Int))] []) ls (fun _ _ _ A=>?_) (fun y _ _ h C=>?_))
  ·
   have j:=qC A;refine xL (jA 1 rfl (xV (gR j (xS ?_))));exact jf ls
  have j:=xW h;refine xL (jA 1 rfl (xV (gN j (qD ?_))));have j1:=jZ (Nat.le_of_lt h) t;have E:=vK h t;refine kE (jA 2 rfl (xN (jA 3 rfl (jI p C fun _ F=>iG F fun _=>jA 1 rfl (xF (zC (fun _=>?_) (fun _=>?_)))))))
  ·
   refine xL (jA 2 rfl (vE (jrt (eX (jrj (a_R ?_))))));exact zB (rt rfl) ⟨j1,lv⟩
  refine vY (oQ E (jA 1 rfl (xF ?_)));exact jg ls
 refine qQ (jA 1 rfl (xP ?_));exact zB (rt rfl) ⟨(show xH (-1) by decide),lv⟩
def bO (S:Gadgets) (i:Instance):Option (Instance×(List Int)×Int):=
 xK (gI 0 i.vars) fun T=>
 vC (σ:=(List Int)×(List Atom)) (
  oM (σ:=(List Int)×(List Atom)) (ρ:=Instance×(List Int)×Int) (fun (k1:Nat) (j:Con) (s:(List Int)×(List Atom))=>
    match s with
    | (p,U)=>
    xK (ix S.formulas j.rel) fun c=>
    xK (ck ((p.length:Int) - c.free)) fun V=>
    xK (zP c.atoms (fun W=>fA W (Formula.mk c.free c.vars c.atoms) (Con.mk j.rel j.scope) V)) fun X=>
    xK (ap U X) fun Y=>
    xK (ck (c.vars - c.free)) fun Z=>
    xK (gI (p.length:Int) Z) fun z7=>
    xK (ap p z7) fun z8=>
    some (.go (z8,Y))) i.cons 0 (T,[])) fun(s3,E)=>
 vC (σ:=(List Int)) (
  oM (σ:=(List Int)) (ρ:=Instance×(List Int)×Int) (fun (k2:Nat) (t:Atom) (d:(List Int))=>
   if (t.rel != (-1)) then
    some (.go d)
   else
    xK (ix t.args 0) fun z9=>
    xK (ix d z9) fun e=>
    xK (ix t.args 1) fun I=>
    xK (ix d I) fun f=>
    vC (σ:=(List Int)) (
     oM (σ:=(List Int)) (ρ:=(Ctl ((List Int)) (Instance×(List Int)×Int))) (fun (F:Nat) (x4:Int) (y:(List Int))=>
      xK (ix y (F:Int)) fun K=>
      if (K==(if e<f then f else e)) then
       some (.go (y.set ((F:Int)).toNat (if f<e then f else e)))
      else
       some (.go y)) d 0 d) fun s7=>
    some (.go s7)) E 0 s3) fun z=>
 xK (mZ z) fun h=>
 vC (σ:=(List Int)) (
  oM (σ:=(List Int)) (ρ:=Instance×(List Int)×Int) (fun (G:Nat) (x5:Int) (H:(List Int))=>
   xK (ix H (G:Int)) fun L=>
   xK (vG h L) fun M=>
   some (.go (H.set ((G:Int)).toNat M))) z 0 z) fun B=>
 vC (σ:=(List Con)) (
  oM (σ:=(List Con)) (ρ:=Instance×(List Int)×Int) (fun (k5:Nat) (A:Atom) (C:(List Con))=>
   if (A.rel != (-1)) then
    xK (dY B A.args) fun N=>
    xK (ap C ([(Con.mk A.rel N)])) fun O=>
    some (.go O)
   else
    some (.go C)) E 0 []) fun D=>
 vC (σ:=Bool) (
  if (decide (10<(h.length:Int))) then  some (.nx true) else  some (.nx (decide (24<(D.length:Int))))) fun P=>
 if P then
  some ((Instance.mk 0 ([])),[],3)
 else
  xK (sl B 0 i.vars) fun Q=>
  xK (oD Q) fun R=>
  some ((Instance.mk (h.length:Int) D),R,0)
theorem pW {B:Nat→Prop} {x0:Gadgets} {j:Instance} (r:Instance×(List Int)×Int) (hR:bO x0 j=some r) {v0:Value} {v1:Value} (Q:World) (hN:∀ c,B c→c<Q.heap.size) (A0:Bo B Q (qG 1 xJ) v0 x0) (A1:Bo B Q (qG 2 xB) v1 j):Calls Tryz.prog 44 #[v0,v1] Q (Gt B Q [] (.v fun ax=>.v fun ay=>.fa (xH r.1.vars) <| .fa (xH r.2.2) <| .st (.tuple #[.agg #[xI r.1.vars,ax],ay,xI r.2.2]) fun D=>rl 2 oU 134 ax r.1.cons::rl 1 xG 2 ay r.2.1::D)):=by
 unfold bO at hR
 revert r
 refine zI func44 [(0,v0),(1,v1)] (Sep.start hN) fun r=>?_;refine xL ?_;obtain⟨v2,rfl,h1⟩:=xJ.o A0;refine jX e2 (fun b1=>?_);obtain⟨t,rfl,i1,az⟩:=xB.o A1;refine jX e2 fun d=>dG rfl fun e=>jA 2 rfl (xN (xY e2 (jb 1 e3 (jB fun z1 c1=>(jk (fun H=>uD z1 c1 _ aA (show xH (0) by decide) i1) fun v4=>jA 1 rfl (xN (jR0 xM (fun v5=>?_))))))));refine jA 1 rfl (xO (xY e2 (jb 3 e3 (jL az fun i2=>jA 1 rfl (xF ?_)))));refine zX (fun(s1,y)=>.v fun v6=>.v fun i=>.st [(3,xU d),(4,xU e),(7,v6),(8,i)] [rl 2 xM 120 i y,rl 1 xG 2 v6 s1,bx e [xI 0,cL] 43,bx d [xI j.vars,t] 43]) ?_ (fun(s1,y) v6 i=>?_)
 ·
  refine eD ?_;refine jl (fun k1 (s3,s4)=>.v fun v8=>.v fun v9=>.st [(32,xI (k1:Int)),(2,xU b1),(3,xU d),(4,xU e),(7,v8),(8,v9),(30,t),(31,xI (j.cons.length:Int))] [rl 2 xM 120 v9 s4,rl 1 xG 2 v8 s3,bx e [xI 0,cL] 43,bx d [xI j.vars,t] 43,bx b1 [v2] 30]) ⟨_,_,ls⟩ (fun _ (s3,s4) _ q1 v8 v9=>?_) (fun k1 x2 (s3,s4) hd1 y1 _ _=>?_)
  ·
   have l2:=qC q1;refine xL (jA 1 rfl (xV (gR l2 (xS (js [0,1,2,3] rfl ?_)))));exact jf ⟨_,_,ls⟩
  have l2:=xW hd1;refine xL (jA 1 rfl (xV (gN l2 (qD ?_))));have j1:=jZ (Nat.le_of_lt hd1) i2;have m1:=vK hd1 i2;refine kE (jI az y1 fun _ h2=>jlA h2 fun _ h3=>dG rfl (fun _=>?_));obtain⟨ek,rfl,i3,h4⟩:=oU.o h3;refine bC (hv:=(fun H=>oc rfl (oc (H.a h4).one on))) e3 (xN (xY e2 (jb 5 e3 (xY e2 (jb 0 e3 (jB fun z2 c2=>(jI h1 c2 fun _ h5=>jlA h5 fun _ h6=>dG rfl (fun _=>?_))))))));obtain⟨el,rfl,i4,i5,h7⟩:=xC.o h6;refine bC (hv:=(fun H=>oc rfl (oc rfl (oc (H.a h7).one on)))) e3 (xN (jA 1 rfl (jLc (fun H=>H.l 3 rfl) fun _=>xY e2 (jb 0 e3 (jB fun z3 c3=>(dA c3 (dG rfl fun _=>jW e3 (xN ?_))))))));refine jA 1 rfl (xY e2 (jb 1 e3 (sA e2 (jB fun z4 c4=>(jk (fun H=>gY z4 c4 _ aA (H.a h7) call91 (fun a0 r h W l1 f0=>xBh r h W aA f0 ((xC.b (H.g 1 rfl).bk i4 i5 (H.a h7)).w l1) ((oU.b (H.g 2 rfl).bk i3 (H.a h4)).w l1) ((c1I (H.g 0 rfl).bk (bD c3)).w l1))) fun _=>jB fun z5 c5=>(js [4,0,1,2,3,5,6,7,8] rfl (jPL c5 fun em=>jA 1 rfl (tH ?_))))))));refine jA 2 rfl (jLc (fun H=>H.l 4 rfl) fun i6=>xY e2 (jb 2 e3 (xY e2 (jb 2 e3 (jB fun z6 c6=>(dA c6 (jB fun z7 c7=>(jk (fun H=>uD z7 c7 _ aA i6 (bD c6)) fun _=>jB fun z8 c8=>?_))))))));refine js [5,0,1,2,3,4,6,7,8] rfl (jPL c8 fun en=>jA 1 rfl (zQ (oQ m1 (jA 1 rfl (xF (js [1,0,5,6,7] rfl ?_))))));exact jg ⟨_,_,ls⟩
 refine sQ (jA 1 rfl (jLc (fun H=>H.l 0 rfl) fun i7=>jA 1 rfl (xF ?_)));refine zX (fun s5=>.v fun a1=>.st [(3,xU d),(4,xU e),(7,a1),(8,i)] [rl 2 xM 120 i y,rl 1 xG 2 a1 s5,bx e [xI 0,cL] 43,bx d [xI j.vars,t] 43]) ?_ (fun s5 a1=>?_)
 ·
  refine eD ?_;refine jl (fun Y Z=>.v fun S=>.st [(66,xI (Y:Int)),(3,xU d),(4,xU e),(7,S),(8,i),(64,i),(65,xI (y.length:Int))] [rl 2 xM 120 i y,rl 1 xG 2 S Z,bx e [xI 0,cL] 43,bx d [xI j.vars,t] 43]) ⟨_,ls⟩ (fun _ Z _ q2 S=>?_) (fun Y x3 Z a2 y2 S=>?_)
  ·
   have l3:=qC q2;refine xL (jA 1 rfl (xV (gR l3 (xS ?_))));exact jf ⟨_,ls⟩
  have l3:=xW a2;refine xL (jA 1 rfl (xV (gN l3 (qD ?_))));have j2:=jZ (Nat.le_of_lt a2) i7;have m2:=vK a2 i7;refine kE (lA fun w1 X1 N1 _ g1 _ b0 _=>?_);have h8:=g1.ld;refine jI h8 y2 fun _ h9=>jlA h9 fun _ h10=>dG rfl (fun _=>?_);obtain⟨eo,rfl,i8,I⟩:=xM.o h10;refine bC (hv:=(fun H=>oc rfl (oc (H.a I).one on))) e3 (xO (xY e2 (jb 0 e3 (jA 1 rfl (xF (zC (fun _=>?_) (fun _=>?_)))))))
  ·
   refine xAg (oQ m2 (jA 1 rfl (xF (js [1,2,3] rfl (dL b0 ?_)))));exact jg ⟨_,ls⟩
  refine qD (js [1,0,2,3] rfl (lA fun _ _ _ T g2 _ K _=>?_));have L:=g2.ld;refine jQ (qR 1 rfl (nV e2 (jqb 0 e3 (jB fun z9 c9=>(jqI I c9 fun _ h14=>aD (s:=fun H w l=>(T.trans (Sm.mono (H.q w l) K.2.2))) h14 fun _=>jB fun U c10=>(jqI L c10 fun _ h15=>aD h15 fun i9=>qR 1 rfl ?_))))));refine nV e2 (jqb 0 e3 (jB fun ep b2=>(jqI I b2 fun _ h17=>aD (s:=fun H w l=>(T.trans (Sm.mono (H.q w l) K.2.2))) h17 fun _=>jB fun V b3=>(jqI L b3 fun _ h18=>aD h18 fun ca=>jqv (fun F H w l=>oAy F rfl rfl) (qR 1 rfl (nV e2 ?_))))));refine jqb 0 e3 (jqI I c9 fun _ cb=>aD (s:=fun H w l=>(T.trans (Sm.mono (H.q w l) K.2.2))) cb fun _=>jqI L c10 fun _ cc=>aD cc fun _=>qR 1 rfl (nV e2 (jqb 0 e3 (jqI I b2 fun _ cd=>aD (s:=fun H w l=>(T.trans (Sm.mono (H.q w l) K.2.2))) cd fun _=>jqI L b3 (fun _ ce=>?_)))));refine aD ce fun _=>jqv (fun F H w l=>xXk F rfl rfl) (qR 2 rfl (iS (qQ (jA 1 rfl (jL L fun b4=>jA 1 rfl (xF (dL K ?_)))))));refine zX (fun s7=>.v fun a3=>.st [(3,xU d),(4,xU e),(7,a3),(8,i),(64,i),(65,xI (y.length:Int)),(66,xI (Y:Int))] [rl 1 xG 2 a3 s7,bx e [xI 0,cL] 43,bx d [xI j.vars,t] 43]) ?_ (fun s7 a3=>?_)
  ·
   refine eD (js [0,2,3] rfl ?_);refine jl (fun k3 s8=>.v fun M=>.st [(105,xI (k3:Int)),(3,xU d),(4,xU e),(7,M),(8,i),(15,xI (if V<U then V else U)),(16,xI (if U<V then V else U)),(64,i),(65,xI (y.length:Int)),(66,xI (Y:Int)),(103,M),(104,xI (Z.length:Int))] [rl 1 xG 2 M s8,bx e [xI 0,cL] 43,bx d [xI j.vars,t] 43]) ⟨_,ls⟩ (fun _ s8 _ q3 M=>?_) (fun k3 _ s8 a4 _ M=>?_)
   ·
    have l4:=qC q3;refine xL (jA 1 rfl (xV (gR l4 (xS ?_))));exact jf ⟨_,ls⟩
   have l4:=xW a4;refine xL (jA 1 rfl (xV (gN l4 (qD ?_))));have j3:=jZ (Nat.le_of_lt a4) b4;have m3:=vK a4 b4;refine kE (jA 1 rfl (jB fun er a5=>(lA fun _ _ _ _ g3 _ b5 _=>?_)));have cf:=g3.ld;refine jI cf a5 fun _ cg=>iG cg fun _=>jA 2 rfl (xN (jA 3 rfl (xF (zC (fun _=>?_) (fun _=>?_)))))
   ·
    refine a_g (jA 3 rfl (dL b5 (jRl 0 a5 fun _ ch=>jh (fun H=>H.lw) (jS ch (xAr a5) (fun H=>Eo.int (oBx i9 ca)) rfl (jh (fun H=>H.tl) (zQ (oQ m3 (jA 1 rfl (xF ?_)))))))));exact jg ⟨_,ls⟩
   refine vY (oQ m3 (jA 1 rfl (xF (dL b5 ?_))));exact jg ⟨_,ls⟩
  refine mU (oQ m2 (jA 1 rfl (xF (dL b0 ?_))));exact jg ⟨_,ls⟩
 refine qQ (jA 1 rfl (jB fun C ci=>(jk (fun H=>xHe C ci _ aA (H.l 1 rfl)) fun X=>jA 1 rfl (xO (jA 1 rfl (jLc (fun H=>H.l 2 rfl) fun b6=>jA 1 rfl (xF ?_)))))));refine zX (fun E=>.v fun p=>.st [(3,xU d),(4,xU e),(7,p),(8,i),(19,X)] [rl 1 xG 2 X C,rl 2 xM 120 i y,rl 1 xG 2 p E,bx e [xI 0,cL] 43,bx d [xI j.vars,t] 43]) ?_ (fun E p=>?_)
 ·
  refine eD ?_;refine jl (fun k4 a6=>.v fun N=>.st [(123,xI (k4:Int)),(3,xU d),(4,xU e),(7,N),(8,i),(19,X),(121,N),(122,xI (s5.length:Int))] [rl 1 xG 2 X C,rl 2 xM 120 i y,rl 1 xG 2 N a6,bx e [xI 0,cL] 43,bx d [xI j.vars,t] 43]) ⟨_,ls⟩ (fun _ a6 _ q4 N=>?_) (fun k4 _ a6 a7 _ N=>?_)
  ·
   have l5:=qC q4;refine xL (jA 1 rfl (xV (gR l5 (xS ?_))));exact jf ⟨_,ls⟩
  have l5:=xW a7;refine xL (jA 1 rfl (xV (gN l5 (qD ?_))));have j4:=jZ (Nat.le_of_lt a7) b6;have m4:=vK a7 b6;refine kE (jA 1 rfl (jB fun es a8=>(js [2,0,1,3,4] rfl (lA fun _ _ _ _ g4 _ cj _=>?_))));have cl:=g4.ld;refine jI cl a8 fun _ cm=>iG cm fun cn=>jA 2 rfl (tH (jA 4 rfl (jB fun co cp=>(jk (fun H=>nE co cp _ aA (H.l 0 rfl) cn) fun cq=>dL cj (jRl 0 a8 fun _ cr=>jh (fun H=>H.lw) (jS cr (xAr a8) (fun H=>Eo.int cq) rfl ?_))))));refine jh (fun H=>H.tl) (zQ (oQ m4 (jA 1 rfl (xF (js [1,2,0,3,4] rfl ?_)))));exact jg ⟨_,ls⟩
 refine qQ (jA 1 rfl (jLc (fun H=>H.l 0 rfl) fun cs=>qT e5 (dG rfl fun A=>bC e3 (xO (jA 1 rfl (jLc (fun H=>H.l 2 rfl) fun b7=>jA 1 rfl (xF ?_)))))));refine zX (fun a9=>.v fun O=>.st [(3,xU d),(4,xU e),(7,p),(22,xU A)] [rl 2 oU 134 O a9,bx A [xI (C.length:Int),O] 43,rl 1 xG 2 p E,bx e [xI 0,cL] 43,bx d [xI j.vars,t] 43]) ?_ (fun a9 O=>?_)
 ·
  refine eD (jh (fun H=>H.nl 2 oU 134) (js [0,1,3,4,5,6] rfl ?_));refine jl (fun R G=>.v fun z=>.st [(140,xI (R:Int)),(3,xU d),(4,xU e),(7,p),(22,xU A),(138,i),(139,xI (y.length:Int))] [rl 2 oU 134 z G,bx A [xI (C.length:Int),z] 43,rl 2 xM 120 i y,rl 1 xG 2 p E,bx e [xI 0,cL] 43,bx d [xI j.vars,t] 43]) ⟨_,ls⟩ (fun _ G _ q5 z=>?_) (fun R x4 G aa y3 z=>?_)
  ·
   have l6:=qC q5;refine xL (jA 1 rfl (xV (gR l6 (xS (js [0,1,3,4,5] rfl ?_)))));exact jf ⟨_,ls⟩
  have l6:=xW aa;refine xL (jA 1 rfl (xV (gN l6 (qD ?_))));have j5:=jZ (Nat.le_of_lt aa) b7;have m5:=vK aa b7;refine kE (js [2,0,1,3,4,5] rfl (lA fun _ _ _ _ g5 _ b8 _=>?_));have ct:=g5.ld;refine jI ct y3 fun _ cu=>jlA cu fun _ cv=>dG rfl (fun _=>?_);obtain⟨et,rfl,b9,ab⟩:=xM.o cv;refine bC (hv:=(fun H=>oc rfl (oc (H.a ab).one on))) e3 (xN (xY e2 (jb 0 e3 (jA 1 rfl (xF (zC (fun _=>?_) (fun _=>?_)))))))
  ·
   refine jB fun P ba=>(jB fun eu cw=>(lA fun w2 X2 N2 _ g6 e1 cx _=>?_));have K1:=g6.bk;refine jD ?_;refine jdp (f:=3) (ls:=#[true,true,true,true,true,true,true,true,true,true,false,false,false]) (.v fun bb=>.st [(3,xU d),(4,xU e),(7,p),(22,xU A),(138,i),(139,xI (y.length:Int)),(140,xI (R:Int)),(148,z),(156,bb)] [rl 2 oU 134 bb ([(Con.mk x4.rel P)]),rl 2 oU 134 z G,bx A [xI (C.length:Int),z] 43,rl 1 xG 2 p E,bx e [xI 0,cL] 43,bx d [xI j.vars,t] 43]) (fun _=>?_) (fun H1=>?_)
   ·
    refine jE 10 rfl (js [1,0,2,3,4,5] rfl (jPL cw fun ew=>kK (fZ 11 rfl e2 (jE 12 rfl (js [1,0,2,3,4] rfl (jW (hv:=(fun H=>(H.l 1 rfl).one)) e3 (kK (jbe (mU ?_)))))))));refine oQ m5 (jA 1 rfl (xF (dL cx (dL b8 (js [3,2,0,4,5,6] rfl ?_)))));exact jg ⟨_,ls⟩
   refine jdp (f:=4) (ls:=#[true,true,true,true,true,true,true,true,true,false,false,false,false]) (.v fun bc=>.st [(3,xU d),(4,xU e),(7,p),(22,xU A),(138,i),(139,xI (y.length:Int)),(140,xI (R:Int)),(148,z),(155,(.agg #[xI x4.rel,bc]))] [rl 1 xG 2 bc P,rl 2 oU 134 z G,bx A [xI (C.length:Int),z] 43,rl 1 xG 2 p E,bx e [xI 0,cL] 43,bx d [xI j.vars,t] 43]) (fun _=>?_) (fun H2=>?_)
   ·
    refine jE 9 rfl (jh (fun H=>oU.w b9 H) (lC (fun H=>El.agg) fun ex=>kK ?_));exact H1 ⟨_,ls⟩
   refine jdp (f:=5) (ls:=#[true,true,true,true,true,true,true,true,false,false,false,false,false]) (.v fun ac=>.st [(3,xU d),(4,xU e),(7,p),(22,xU A),(138,i),(139,xI (y.length:Int)),(140,xI (R:Int)),(148,z),(150,xI x4.rel),(154,ac)] [rl 1 xG 2 ac P,rl 2 oU 134 z G,bx A [xI (C.length:Int),z] 43,rl 1 xG 2 p E,bx e [xI 0,cL] 43,bx d [xI j.vars,t] 43]) (fun ac=>?_) (fun H3=>?_)
   ·
    refine jE 8 rfl ?_;refine qT (hone:=(fun H=>oc rfl (oc (H.l 0 rfl).one on))) e5 (kK ?_);exact H2 ⟨_,ls⟩
   refine fZ 0 rfl e2 (fZ 2 rfl e2 (jvb 3 rfl K1 e2 (jvA [4] rfl (fZ 5 rfl e2 (jvb 6 rfl K1 e2 (jV (fun H=>H) 1 7 rfl rfl ?_ ?_))))))
   ·
    refine jb 1 e3 (kK (jE 7 rfl (jk (fun H=>iQ P ba _ aA (H.l 2 rfl) (H.a (e1 ab))) fun ey=>kK ?_)));exact H3 ⟨_,ls⟩
   refine jk (fun H=>iQ P ba _ aA (H.l 2 rfl) (H.a (e1 ab))) fun ez=>kK (jV (fun H=>H) 1 8 rfl rfl ?_ ?_)
   ·
    refine jb 2 e3 (kK ?_);exact H3 ⟨_,ls⟩
   refine qT (hone:=(fun H=>oc rfl (oc (H.l 0 rfl).one on))) e5 (kK (jV (fun H=>H) 1 9 rfl rfl ?_ ?_))
   ·
    refine jb 2 e3 (kK ?_);exact H2 ⟨_,ls⟩
   refine jh (fun H=>oU.w b9 H) (lC (fun H=>El.agg) fun eA=>kK (jE 1 rfl (jb 2 e3 (kK ?_))));exact H1 ⟨_,ls⟩
  refine vY (oQ m5 (jA 1 rfl (xF (js [1,2,3,4,5] rfl (dL b8 (js [1,2,0,3,4,5] rfl ?_))))));exact jg ⟨_,ls⟩
 refine xPk ?_;refine zX (fun cy=>.st [(3,xU d),(4,xU e),(7,p),(22,xU A),(168,.bool cy)] [rl 2 oU 134 O a9,bx A [xI (C.length:Int),O] 43,rl 1 xG 2 p E,bx e [xI 0,cL] 43,bx d [xI j.vars,t] 43]) ?_ (fun _=>?_)
 ·
  refine a_g (xY e2 (jb 1 e3 (jA 2 rfl (dP 163 (fun _=>?_) (fun _=>?_)))))
  ·
   refine jA 5 rfl (xF ?_);exact jf ls
  refine xY e2 (jb 1 e3 (jLc (fun H=>H.l 0 rfl) fun _=>jA 2 rfl (xF ?_)));exact jf ls
 refine dI (zC (fun _=>?_) (fun _=>?_))
 ·
  refine xL (qT e5 (js [3,0,1,2,4] rfl (bC e3 (jA 2 rfl (xT ?_)))));exact j3m (fun H=>((H.nl 2 oU 134).nl 1 xG 2).s [1,0] rfl rfl) (rcA 0 e2) (rt rfl) (rt rfl) ⟨_,_,(show xH 0 by decide),(show xH (3) by decide),lv⟩
 refine qD (jB fun eR cz=>(jB fun d0 d1=>(js [1,4,0,2,3] rfl (jh (fun H=>H.mg) (lA fun _ _ _ _ g7 _ d2 _=>?_)))));have K2:=g7.l.bk;have K3:=g7.r.bk;refine jD (wD 0 rfl K2 e2 (jvA [1] rfl (fZ 2 rfl e2 (jvb 3 rfl K3 e2 (jE 4 rfl (js [1,0,2] rfl (jh (fun H=>H.lw) (jT cz fun _=>jh (fun H=>H.tl) (kK ?_)))))))));refine jE 5 rfl (jk (fun H=>kY d0 d1 _ aA (H.l 0 rfl)) fun eS=>kK (jE 6 rfl (js [3,0,1,2] rfl ?_)));refine bC (hv:=(fun H=>oc rfl (oc (H.l 3 rfl).one on))) e3 (kK (jvA [7,8] rfl (jbe (jY (dL d2 (jh (fun H=>H.um) ?_))))));exact j3m (fun H=>H.s [5,3] rfl rfl) (rcA 2 e2) (rt rfl) (rt rfl) ⟨_,_,cs,(show xH (0) by decide),lv⟩
def kR (N:Nat) (e f:Template) (h:Gadgets) (d:Instance):Option (Instance×(List Int)×Int):=
 xK (kJ N (Template.mk e.size e.rels) (Template.mk f.size f.rels) (Gadgets.mk h.formulas) (Instance.mk d.vars d.cons)) fun i=>
 if (i != 0) then
  some ((Instance.mk 0 ([])),[],i)
 else
  xK (bO (Gadgets.mk h.formulas) (Instance.mk d.vars d.cons)) fun c=>
  some ((Instance.mk c.1.vars c.1.cons),c.2.1,c.2.2)
theorem nJ {B:Nat→Prop} {N:Nat} {t y:Template} {z:Gadgets} {A:Instance} (r:Instance×(List Int)×Int) (K:kR N t y z A=some r) {e:Value} {f:Value} {h:Value} {i:Value} (d:World) (hN:∀ c,B c→c<d.heap.size) (L:Bo B d (qG 2 xA) e t) (M:Bo B d (qG 2 xA) f y) (O:Bo B d (qG 1 xJ) h z) (P:Bo B d (qG 2 xB) i A):Calls Tryz.prog 14 #[e,f,h,i] d (Gt B d [] (.v fun j=>.v fun p=>.fa (xH r.1.vars) <| .fa (xH r.2.2) <| .st (.tuple #[.agg #[xI r.1.vars,j],p,xI r.2.2]) fun D=>rl 2 oU 134 j r.1.cons::rl 1 xG 2 p r.2.1::D)):=by
 unfold kR at K
 revert r
 refine zI func14 [(0,e),(1,f),(2,h),(3,i)] (Sep.start hN) fun r=>?_;refine xL ?_;obtain⟨v4,rfl,Q,R⟩:=xA.o L;refine jX e2 (fun _=>?_);obtain⟨Z,rfl,S,T⟩:=xA.o M;refine jX e2 (fun _=>?_);obtain⟨v5,rfl,C⟩:=xJ.o O;refine jX e2 (fun _=>?_);obtain⟨v6,rfl,E,F⟩:=xB.o P;refine jX e2 fun _=>dG rfl fun _=>jA 2 rfl (xO (zY 4 e3 (zY 3 e3 (zY 2 e3 (zY 1 e3 (jB fun U V=>?_))))));refine jk (fun H=>lS U V _ aA (xA.m Q (H.a R)) (xA.m S (H.a T)) (xJ.m (H.a C)) (xB.m E (H.a F))) fun G=>jA 1 rfl (xN (jA 2 rfl (xF (zC (fun _=>?_) (fun _=>?_)))))
 ·
  refine xL (qT e5 (jA 1 rfl (bC e3 (jA 2 rfl (xT ?_)))));exact j3m (fun H=>((H.nl 2 oU 134).nl 1 xG 2).s [1,0] rfl rfl) (rcA 0 e2) (rt rfl) (rt rfl) ⟨_,_,(show xH 0 by decide),G,lv⟩
 refine oY (zY 2 e3 (zY 1 e3 (jB fun I W=>?_)));refine jk (fun H=>pW I W _ aA (xJ.m (H.a C)) (xB.m E (H.a F))) fun v7 v8 X Y=>jA 3 rfl (js [2,0,1,3,4,5,6] rfl ?_);refine bC (hv:=(fun H=>oc rfl (oc (H.l 1 rfl).one on))) e3 (jA 2 rfl (xP ?_));exact j3m (fun H=>H.s [1,2] rfl rfl) (rcA 0 e2) (rt rfl) (rt rfl) ⟨_,_,X,Y,lv⟩
end Go.Proofs.YtlommebgedmjdaaGreatDoor
namespace Go.Proofs.YtlommebgedmjdaaGreatDoor
open Go.Proofs.Tryz
set_option linter.unusedVariables false
set_option linter.unusedSimpArgs false
set_option maxRecDepth 100000
open Go.RowKit
def iK (c:Int):Option Bool:=
 xK (cH c 1 4) fun d=>
 some d
theorem uN {B:Nat→Prop} {d:Int} (r:Bool) (h:iK d=some r)  (e:World) (hN:∀ c,B c→c<e.heap.size) (f:xH d):Calls Tryz.prog 110 #[xI d] e (Gt B e [] (.st (.bool r) fun D=>D)):=by
 unfold iK at h
 revert r
 refine zI func110 [(0,xI d)] (Sep.start hN) fun r=>?_;refine xL (jA 1 rfl (xN (jA 1 rfl (jB fun i j=>(jk (fun H=>cT i j _ aA f (show xH (1) by decide) (show xH (4) by decide)) (jA 1 rfl (xP ?_)))))));exact zB (rt rfl) lv
def gM (c:Int):Option Bool:=
 xK (cH c 1 4) fun d=>
 some d
theorem tS {B:Nat→Prop} {d:Int} (r:Bool) (h:gM d=some r)  (e:World) (hN:∀ c,B c→c<e.heap.size) (f:xH d):Calls Tryz.prog 167 #[xI d] e (Gt B e [] (.st (.bool r) fun D=>D)):=by
 unfold gM at h
 revert r
 refine zI func167 [(0,xI d)] (Sep.start hN) fun r=>?_;refine xL (jA 1 rfl (xN (jA 1 rfl (jB fun i j=>(jk (fun H=>cT i j _ aA f (show xH (1) by decide) (show xH (4) by decide)) (jA 1 rfl (xP ?_)))))));exact zB (rt rfl) lv
def bM (d e:Int) (c:List Int):Option Bool:=
 vC (σ:=Unit) (
  oM (σ:=Unit) (ρ:=Bool) (fun (j:Nat) (f:Int) (s:Unit)=>
    match s with
    | _=>
    xK (ck (d - 1)) fun h=>
    xK (cH f 0 h) fun i=>
    if (!i) then
     some (.ret false)
    else
     some (.go ())) c 0 ()) fun _=>
 some (((c.length:Int)==e))
theorem nH {B:Nat→Prop} {e d:Int} {t:List Int} (r:Bool) (C:bM e d t=some r) {f:Value} (h:World) (hN:∀ c,B c→c<h.heap.size) (N:xH e) (O:xH d) (i:Bo B h (Sl 1 xG) f t):Calls Tryz.prog 66 #[xI e,xI d,f] h (Gt B h [] (.st (.bool r) fun D=>D)):=by
 unfold bM at C
 revert r
 refine zI func66 [(0,xI e),(1,xI d),(2,f)] (Sep.start hN) fun r=>?_;refine xL (jA 1 rfl (xO (jA 1 rfl (xF (zX (fun _=>.st [(1,xI d),(2,f)] []) ?_ (fun _=>?_))))))
 ·
  refine eD (jl (fun y _=>.st [(7,xI (y:Int)),(0,xI e),(1,xI d),(2,f)] []) ls (fun _ _ _ E=>?_) (fun y _ _ j F=>?_))
  ·
   have p:=qC E;refine oH (jA 2 rfl (jL i fun _=>jA 1 rfl (xF (gR p (xS ?_)))));exact jf ls
  have p:=xW j;refine oH (jA 2 rfl (jL i fun z=>jA 1 rfl (xF (gN p (qD ?_)))));have j1:=jZ (Nat.le_of_lt j) z;have G:=vK j z;refine kE (jA 2 rfl (jI i F fun _ I=>iG I fun K=>jA 1 rfl (jB fun P A=>(dA A (jB fun L M=>(jk (fun H=>cT L M _ aA K (show xH (0) by decide) (bD A)) (jA 1 rfl (xF ?_))))))));refine zC (fun _=>?_) (fun _=>?_)
  ·
   refine xL (jA 1 rfl (vE (jrt (eX (jrj (a_R ?_))))));exact zB (rt rfl) lv
  refine vY (jA 1 rfl (oQ G (jA 1 rfl (xF ?_))));exact jg ls
 refine qQ (jA 1 rfl (jL i fun _=>jA 3 rfl (xP ?_)));exact zB (rt rfl) lv
def eV (e f:List Int):Option Bool:=
 vC (σ:=Unit) (
  oM (σ:=Unit) (ρ:=Bool) (fun (h:Nat) (c:Int) (s:Unit)=>
    match s with
    | _=>
    xK (ix f (h:Int)) fun d=>
    if (c != d) then
     some (.ret ((decide (c<d))))
    else
     some (.go ())) e 0 ()) fun _=>
 some false
theorem xCe {B:Nat→Prop} {p t:List Int} (r:Bool) (F:eV p t=some r) {e:Value} {f:Value} (d:World) (hN:∀ c,B c→c<d.heap.size) (h:Bo B d (Sl 1 xG) e p) (y:Bo B d (Sl 1 xG) f t):Calls Tryz.prog 168 #[e,f] d (Gt B d [] (.st (.bool r) fun D=>D)):=by
 unfold eV at F
 revert r
 refine zI func168 [(0,e),(1,f)] (Sep.start hN) fun r=>?_;refine xL (jA 1 rfl (xO (jA 1 rfl (xF (zX (fun _=>.st [] []) ?_ (fun _=>?_))))))
 ·
  refine eD (jl (fun z _=>.st [(5,xI (z:Int)),(0,e),(1,f)] []) ls (fun _ _ _ G=>?_) (fun z _ _ i A=>?_))
  ·
   have j:=qC G;refine oH (jA 2 rfl (jL h fun _=>jA 1 rfl (xF (gR j (xS ?_)))));exact jf ls
  have j:=xW i;refine oH (jA 2 rfl (jL h fun C=>jA 1 rfl (xF (gN j (qD ?_)))));have j1:=jZ (Nat.le_of_lt i) C;have H:=vK i C;refine xDs (jQ (qR 2 rfl (jqI h A fun _ I=>aD I fun _=>qR 2 rfl (jB fun N E=>(jqI y E fun _ K=>aD K fun _=>qR 1 rfl (iS ?_))))));refine dI (zC (fun _=>?_) (fun _=>?_))
  ·
   refine a_s (jQ (qR 2 rfl (jqI h A fun _ L=>aD L fun _=>qR 2 rfl (jqI y E fun _ M=>aD M fun _=>qR 2 rfl (iS (xJv ?_))))));refine jrt (eX (jrj (a_R ?_)));exact zB (rt rfl) lv
  refine vY (jA 1 rfl (oQ H (jA 1 rfl (xF ?_))));exact jg ls
 refine qQ (jA 1 rfl (xP ?_));exact zB (rt rfl) lv
def iX (d:Int) (c:Rel):Option Bool:=
 vC (σ:=Bool) (
  xK (iK d) fun h=>
  if (!h) then  some (.nx true) else  xK (gM c.arity) fun i=>
   some (.nx (!i))) fun j=>
 if j then
  some false
 else
  vC (σ:=Unit) (
   oM (σ:=Unit) (ρ:=Bool) (fun (e:Nat) (f:(List Int)) (s:Unit)=>
     match s with
     | _=>
     vC (σ:=Bool) (
      xK (bM d c.arity f) fun p=>
      if (!p) then  some (.nx true) else  if (decide (0<(e:Int))) then  xK (ck ((e:Int) - 1)) fun t=>
        xK (ix c.tuples t) fun y=>
        xK (eV y f) fun z=>
        some (.nx (!z)) else  some (.nx false)) fun A=>
     if A then
      some (.ret false)
     else
      some (.go ())) c.tuples 0 ()) fun _=>
  some true
theorem xJl {B:Nat→Prop} {e:Int} {y:Rel} (r:Bool) (P:iX e y=some r) {f:Value} (h:World) (hN:∀ c,B c→c<h.heap.size) (t:xH e) (d:Bo B h (Pt 2 oV) f y):Calls Tryz.prog 109 #[xI e,f] h (Gt B h [] (.st (.bool r) fun D=>D)):=by
 unfold iX at P
 revert r
 refine zI func109 [(0,xI e),(1,f)] (Sep.start hN) fun r=>?_;refine xL (jA 1 rfl (bS (zX (fun Q=>.st [(0,xI e),(1,f),(16,.bool Q)] []) ?_ (fun _=>?_))))
 ·
  refine a_g (jA 1 rfl (jB fun R S=>(jk (fun H=>uN R S _ aA t) (jA 2 rfl (dP 9 (fun _=>?_) (fun _=>?_))))))
  ·
   refine jA 7 rfl (xF ?_);exact jf ls
  refine jA 1 rfl (jN d (dH d oV.f0 fun _ T=>iG T fun U=>jB fun V W=>(jk (fun H=>tS V W _ aA U) (jA 2 rfl (xF ?_)))));exact jf ls
 refine dI (zC (fun _=>?_) (fun _=>?_))
 ·
  refine xL (jA 1 rfl (xT ?_));exact zB (rt rfl) lv
 refine kZ (jA 1 rfl (xF (zX (fun _=>.st [] []) ?_ (fun _=>?_))))
 ·
  refine eD (jl (fun j _=>.st [(5,xI (j:Int)),(0,xI e),(1,f)] []) ls (fun _ _ _ X=>?_) (fun j _ _ i z=>?_))
  ·
   have p:=qC X;refine oH (jA 2 rfl (jN d (dH d oV.f1 fun _ Y=>iI Y fun _ Z=>jL Z fun _=>jA 1 rfl (xF (gR p (xS ?_))))));exact jf ls
  have p:=xW i;refine oH (jA 2 rfl (jN d (dH d oV.f1 fun _ h4=>iI h4 fun _ h5=>jL h5 fun A=>jA 1 rfl (xF (gN p (qD ?_))))));have j1:=jZ (Nat.le_of_lt i) A;have m1:=vK i A;refine xDs (zX (fun s2=>.st [(0,xI e),(1,f),(5,xI (j:Int)),(62,.bool s2)] []) ?_ (fun _=>?_))
  ·
   refine jQ (qR 2 rfl (iO d (zA d oV.f0 fun _ h6=>aD h6 fun i3=>qR 1 rfl (iO d (zA d oV.f1 fun _ h7=>aZ h7 fun _ h8=>qR 1 rfl (jqI h8 z (fun _ h9=>?_)))))));refine aZ h9 fun _ C=>jB fun z3 c3=>(jqk (fun H=>nH z3 c3 _ aA t i3 (H.a C)) (qR 2 rfl (dP 40 (fun _=>?_) (fun _=>?_))))
   ·
    refine qR 22 rfl (iS (dI ?_));exact jf ls
   refine qR 3 rfl (dP 43 (fun _=>?_) (fun _=>?_))
   ·
    refine qR 1 rfl (iO d (zA d oV.f1 fun _ E=>aZ E fun _ G=>qR 1 rfl (jB fun z4 c4=>(jqv (fun F H w l=>xKq F rfl rfl c4) (jB fun z5 c5=>(jqI G c5 fun _ I=>aZ I fun _ K=>qR 1 rfl ?_))))));refine iO d (zA d oV.f1 fun _ L=>aZ L fun _ M=>qR 1 rfl (jqI M z fun _ N=>aZ N fun _ O=>jB fun z6 c6=>(jqk (fun H=>xCe z6 c6 _ aA (H.a K) (H.a O)) (qR 3 rfl (iS (dI ?_))))));exact jf ls
   refine qR 19 rfl (iS (dI ?_));exact jf ls
  refine dI (zC (fun _=>?_) (fun _=>?_))
  ·
   refine xL (jA 1 rfl (vE (jrt (eX (jrj (a_R ?_))))));exact zB (rt rfl) lv
  refine vY (jA 1 rfl (oQ m1 (jA 1 rfl (xF ?_))));exact jg ls
 refine qQ (jA 1 rfl (xP ?_));exact zB (rt rfl) lv
def vR (c:Template):Option Bool:=
 vC (σ:=Unit) (
  oM (σ:=Unit) (ρ:=Bool) (fun (i:Nat) (d:Rel) (s:Unit)=>
    match s with
    | _=>
    xK (iX c.size d) fun e=>
    if (!e) then
     some (.ret false)
    else
     some (.go ())) c.rels 0 ()) fun _=>
 vC (σ:=Bool) (
  xK (iK c.size) fun f=>
  if f then  some (.nx (decide ((c.rels.length:Int)≤6))) else  some (.nx false)) fun h=>
 some h
theorem bF {B:Nat→Prop} {j:Template} (r:Bool) (A:vR j=some r) {e:Value} (f:World) (hN:∀ c,B c→c<f.heap.size) (d:Bo B f (Pt 2 xA) e j):Calls Tryz.prog 52 #[e] f (Gt B f [] (.st (.bool r) fun D=>D)):=by
 unfold vR at A
 revert r
 refine zI func52 [(0,e)] (Sep.start hN) fun r=>?_;refine xL (jA 1 rfl (xO (jA 1 rfl (xF (zX (fun _=>.st [(0,e)] []) ?_ (fun _=>?_))))))
 ·
  refine eD (jl (fun p _=>.st [(3,xI (p:Int)),(0,e)] []) ls (fun _ _ _ C=>?_) (fun p _ _ h E=>?_))
  ·
   have i:=qC C;refine oH (jA 2 rfl (jN d (dH d xA.f1 fun _ F=>iI F fun _ G=>jL G fun _=>jA 1 rfl (xF (gR i (xS ?_))))));exact jf ls
  have i:=xW h;refine oH (jA 2 rfl (jN d (dH d xA.f1 fun _ I=>iI I fun _ K=>jL K fun t=>jA 1 rfl (xF (gN i (qD ?_))))));have j1:=jZ (Nat.le_of_lt h) t;have L:=vK h t;refine xDs (jQ (qR 1 rfl (iO d (zA d xA.f0 fun _ M=>aD M fun N=>qR 1 rfl (iO d (zA d xA.f1 fun _ O=>aZ O fun _ P=>qR 1 rfl ?_))))));refine jqI P E fun _ Q=>jB fun R S=>(jqk (fun H=>xJl R S _ aA N (H.a Q)) (qR 1 rfl (iS (dI (zC (fun _=>?_) (fun _=>?_))))))
  ·
   refine xL (jA 1 rfl (vE (jrt (eX (jrj (a_R ?_))))));exact zB (rt rfl) lv
  refine vY (jA 1 rfl (oQ L (jA 1 rfl (xF ?_))));exact jg ls
 refine xQx (zX (fun T=>.st [(2,.bool T)] []) ?_ (fun _=>?_))
 ·
  refine a_g (jA 1 rfl (jN d (dH d xA.f0 fun _ U=>iG U fun V=>jB fun W X=>(jk (fun H=>uN W X _ aA V) (jA 1 rfl (dP 30 (fun _=>?_) (fun _=>?_)))))))
  ·
   refine jA 1 rfl (jN d (dH d xA.f1 fun _ y=>iI y fun _ z=>jL z fun _=>jA 3 rfl (xF ?_)));exact jf ls
  refine jA 8 rfl (xF ?_);exact jf ls
 refine jY ?_;exact zB (rt rfl) lv
def gZ (c:Formula):Option Bool:=
 vC (σ:=Bool) (
  xK (gM c.free) fun d=>
  if d then  xK (cH c.vars c.free 8) fun e=>
   if e then  some (.nx (decide ((c.atoms.length:Int)≤16))) else  some (.nx false) else  some (.nx false)) fun f=>
 some f
theorem xCn {B:Nat→Prop} {h:Formula} (r:Bool) (i:gZ h=some r) {f:Value} (e:World) (hN:∀ c,B c→c<e.heap.size) (d:Bo B e (Pt 3 xC) f h):Calls Tryz.prog 226 #[f] e (Gt B e [] (.st (.bool r) fun D=>D)):=by
 unfold gZ at i
 revert r
 refine zI func226 [(0,f)] (Sep.start hN) fun r=>?_;refine xL (jA 1 rfl (xV (zX (fun j=>.st [(2,.bool j)] []) ?_ (fun _=>?_))))
 ·
  refine jQ (qR 1 rfl (iO d (zA d xC.f0 fun _ p=>aD p fun t=>jB fun y z=>(jqk (fun H=>tS y z _ aA t) (qR 1 rfl (dP 8 (fun _=>?_) (fun _=>?_)))))))
  ·
   refine qR 1 rfl (iO d (zA d xC.f1 fun _ A=>aD A fun C=>qR 1 rfl (iO d (zA d xC.f0 fun _ E=>aD E fun F=>jB fun G I=>(jqk (fun H=>cT G I _ aA C F (show xH (8) by decide)) (qR 2 rfl ?_))))));refine dP 19 (fun _=>?_) (fun _=>?_)
   ·
    refine qR 1 rfl (iO d (zA d xC.f2 fun _ K=>aZ K fun _ L=>jqL L fun _=>qR 3 rfl (iS (dI ?_))));exact jf ls
   refine qR 8 rfl (iS (dI ?_));exact jf ls
  refine qR 19 rfl (iS (dI ?_));exact jf ls
 refine jY ?_;exact zB (rt rfl) lv
def eT (c:List Int) (d:Int):Option Bool:=
 vC (σ:=Unit) (
  oM (σ:=Unit) (ρ:=Bool) (fun (i:Nat) (e:Int) (s:Unit)=>
    match s with
    | _=>
    xK (ck (d - 1)) fun f=>
    xK (cH e 0 f) fun h=>
    if (!h) then
     some (.ret false)
    else
     some (.go ())) c 0 ()) fun _=>
 some true
theorem sD {B:Nat→Prop} {p:List Int} {d:Int} (r:Bool) (A:eT p d=some r) {e:Value} (f:World) (hN:∀ c,B c→c<f.heap.size) (i:Bo B f (Sl 1 xG) e p) (M:xH d):Calls Tryz.prog 112 #[e,xI d] f (Gt B f [] (.st (.bool r) fun D=>D)):=by
 unfold eT at A
 revert r
 refine zI func112 [(0,e),(1,xI d)] (Sep.start hN) fun r=>?_;refine xL (jA 1 rfl (xO (jA 1 rfl (xF (zX (fun _=>.st [] []) ?_ (fun _=>?_))))))
 ·
  refine eD (jl (fun t _=>.st [(5,xI (t:Int)),(0,e),(1,xI d)] []) ls (fun _ _ _ C=>?_) (fun t _ _ h E=>?_))
  ·
   have j:=qC C;refine oH (jA 2 rfl (jL i fun _=>jA 1 rfl (xF (gR j (xS ?_)))));exact jf ls
  have j:=xW h;refine oH (jA 2 rfl (jL i fun y=>jA 1 rfl (xF (gN j (qD ?_)))));have j1:=jZ (Nat.le_of_lt h) y;have F:=vK h y;refine kE (jA 2 rfl (jI i E fun _ G=>iG G fun I=>jA 1 rfl (jB fun N z=>(dA z (jB fun K L=>(jk (fun H=>cT K L _ aA I (show xH (0) by decide) (bD z)) (jA 1 rfl (xF ?_))))))));refine zC (fun _=>?_) (fun _=>?_)
  ·
   refine xL (jA 1 rfl (vE (jrt (eX (jrj (a_R ?_))))));exact zB (rt rfl) lv
  refine vY (jA 1 rfl (oQ F (jA 1 rfl (xF ?_))));exact jg ls
 refine qQ (jA 1 rfl (xP ?_));exact zB (rt rfl) lv
def rH (e:Template) (c:Formula):Option Bool:=
 vC (σ:=Bool) (
  xK (vR e) fun h=>
  if (!h) then  some (.nx true) else  xK (gZ c) fun i=>
   some (.nx (!i))) fun j=>
 if j then
  some false
 else
  vC (σ:=Unit) (
   oM (σ:=Unit) (ρ:=Bool) (fun (y:Nat) (d:Atom) (s:Unit)=>
     match s with
     | _=>
     xK (gF e d.rel) fun f=>
     vC (σ:=Bool) (
      if (f==0) then  some (.nx true) else  if ((d.args.length:Int) != f) then  some (.nx true) else  xK (eT d.args c.vars) fun p=>
        some (.nx (!p))) fun t=>
     if t then
      some (.ret false)
     else
      some (.go ())) c.atoms 0 ()) fun _=>
  some true
theorem xJm {B:Nat→Prop} {y:Template} {z:Formula} (r:Bool) (Q:rH y z=some r) {e:Value} {f:Value} (h:World) (hN:∀ c,B c→c<h.heap.size) (A:Bo B h (Pt 2 xA) e y) (d:Bo B h (Pt 3 xC) f z):Calls Tryz.prog 194 #[e,f] h (Gt B h [] (.st (.bool r) fun D=>D)):=by
 unfold rH at Q
 revert r
 refine zI func194 [(0,e),(1,f)] (Sep.start hN) fun r=>?_;refine xL (jA 1 rfl (bS (zX (fun R=>.st [(0,e),(1,f),(14,.bool R)] []) ?_ (fun _=>?_))))
 ·
  refine a_g (jA 1 rfl (jB fun S T=>(jk (fun H=>bF S T _ aA (H.a A)) (jA 2 rfl (dP 10 (fun _=>?_) (fun _=>?_))))))
  ·
   refine jA 4 rfl (xF ?_);exact jf ls
  refine jA 1 rfl (jB fun U V=>(jk (fun H=>xCn U V _ aA (H.a d)) (jA 2 rfl (xF ?_))));exact jf ls
 refine dI (zC (fun _=>?_) (fun _=>?_))
 ·
  refine xL (jA 1 rfl (xT ?_));exact zB (rt rfl) lv
 refine kZ (jA 1 rfl (xF (zX (fun _=>.st [] []) ?_ (fun _=>?_))))
 ·
  refine eD (jl (fun j _=>.st [(5,xI (j:Int)),(0,e),(1,f)] []) ls (fun _ _ _ W=>?_) (fun j x2 _ i p=>?_))
  ·
   have t:=qC W;refine oH (jA 2 rfl (jN d (dH d xC.f2 fun _ X=>iI X fun _ Y=>jL Y fun _=>jA 1 rfl (xF (gR t (xS ?_))))));exact jf ls
  have t:=xW i;refine oH (jA 2 rfl (jN d (dH d xC.f2 fun _ Z=>iI Z fun _ h4=>jL h4 fun C=>jA 1 rfl (xF (gN t (qD ?_))))));have j1:=jZ (Nat.le_of_lt i) C;have m1:=vK i C;refine kE (jA 2 rfl (jN d (dH d xC.f2 fun _ h5=>iI h5 fun _ h6=>jA 1 rfl (jI h6 p fun _ h7=>dH h7 xM.f0 fun _ h8=>iG h8 fun i2=>jB fun z3 c3=>(jk (fun H=>tQ z3 c3 _ aA (H.a A) i2) (fun ae=>?_))))));refine jA 1 rfl (xV (zX (fun s2=>.st [(0,e),(1,f),(5,xI (j:Int)),(64,.bool s2)] []) ?_ (fun _=>?_)))
  ·
   refine jQ (qR 3 rfl (dP 36 (fun _=>?_) (fun _=>?_)))
   ·
    refine qR 28 rfl (iS (dI ?_));exact jf ls
   refine qR 1 rfl (iO d (zA d xC.f2 fun _ h9=>aZ h9 fun _ E=>qR 1 rfl (jqI E p fun _ F=>zA F xM.f1 fun _ G=>aZ G fun _ I=>jqL I fun _=>qR 4 rfl (dP 49 (fun _=>?_) (fun _=>?_)))))
   ·
    refine qR 15 rfl (iS (dI ?_));exact jf ls
   refine qR 1 rfl (iO d (zA d xC.f2 fun _ K=>aZ K fun _ L=>qR 1 rfl (jqI L p fun _ M=>zA M xM.f1 fun _ N=>aZ N fun _ O=>qR 1 rfl (iO d (zA d xC.f1 (fun _ P=>?_))))));refine aD P fun i3=>jB fun z4 c4=>(jqk (fun H=>sD z4 c4 _ aA (H.a O) i3) (qR 2 rfl (iS (dI ?_))));exact jf ls
  refine dI (zC (fun _=>?_) (fun _=>?_))
  ·
   refine xL (jA 1 rfl (vE (jrt (eX (jrj (a_R ?_))))));exact zB (rt rfl) lv
  refine vY (jA 1 rfl (oQ m1 (jA 1 rfl (xF ?_))));exact jg ls
 refine qQ (jA 1 rfl (xP ?_));exact zB (rt rfl) lv
def fO (c d:Template) (e:Gadgets):Option Bool:=
 vC (σ:=Bool) (
  xK (vR c) fun h=>
  if (!h) then  some (.nx true) else  xK (vR d) fun i=>
   if (!i) then  some (.nx true) else  if (c.size != d.size) then  some (.nx true) else  some (.nx ((e.formulas.length:Int) != (c.rels.length:Int)))) fun j=>
 if j then
  some false
 else
  vC (σ:=Unit) (
   oM (σ:=Unit) (ρ:=Bool) (fun (p:Nat) (f:Formula) (s:Unit)=>
     match s with
     | _=>
     vC (σ:=Bool) (
      xK (rH d f) fun t=>
      if (!t) then  some (.nx true) else  xK (ix c.rels (p:Int)) fun y=>
       some (.nx (f.free != y.arity))) fun z=>
     if z then
      some (.ret false)
     else
      some (.go ())) e.formulas 0 ()) fun _=>
  some true
theorem xEj {B:Nat→Prop} {A C:Template} {E:Gadgets} (r:Bool) (V:fO A C E=some r) {f:Value} {h:Value} {i:Value} (j:World) (hN:∀ c,B c→c<j.heap.size) (e:Bo B j (Pt 2 xA) f A) (p:Bo B j (Pt 2 xA) h C) (d:Bo B j (Pt 1 xJ) i E):Calls Tryz.prog 164 #[f,h,i] j (Gt B j [] (.st (.bool r) fun D=>D)):=by
 unfold fO at V
 revert r
 refine zI func164 [(0,f),(1,h),(2,i)] (Sep.start hN) fun r=>?_;refine xL (jA 1 rfl (bS (zX (fun W=>.st [(0,f),(1,h),(2,i),(39,.bool W)] []) ?_ (fun _=>?_))))
 ·
  refine jQ (qR 1 rfl (jB fun X Y=>(jqk (fun H=>bF X Y _ aA (H.a e)) (qR 2 rfl (dP 11 (fun _=>?_) (fun _=>?_))))))
  ·
   refine qR 28 rfl (iS (dI ?_));exact jf ls
  refine qR 1 rfl (jB fun Z c2=>(jqk (fun H=>bF Z c2 _ aA (H.a p)) (qR 3 rfl (dP 16 (fun _=>?_) (fun _=>?_)))))
  ·
   refine qR 23 rfl (iS (dI ?_));exact jf ls
  refine qR 1 rfl (iO e (zA e xA.f0 fun _ h1=>aD h1 fun _=>qR 1 rfl (iO p (zA p xA.f0 fun _ h2=>aD h2 fun _=>qR 3 rfl (dP 27 (fun _=>?_) (fun _=>?_))))))
  ·
   refine qR 12 rfl (iS (dI ?_));exact jf ls
  refine qR 1 rfl (iO d (zA d xJ.f0 fun _ h3=>aZ h3 fun _ h4=>jqL h4 fun _=>qR 1 rfl (iO e (zA e xA.f1 fun _ h5=>aZ h5 fun _ h6=>jqL h6 fun _=>qR 2 rfl ?_))));refine iS (dI ?_);exact jf ls
 refine dI (zC (fun _=>?_) (fun _=>?_))
 ·
  refine xL (jA 1 rfl (xT ?_));exact zB (rt rfl) lv
 refine kZ (jA 1 rfl (xF (zX (fun _=>.st [] []) ?_ (fun _=>?_))))
 ·
  refine eD (jl (fun y _=>.st [(7,xI (y:Int)),(0,f),(1,h),(2,i)] []) ls (fun _ _ _ q1=>?_) (fun y x3 _ t F=>?_))
  ·
   have z:=qC q1;refine oH (jA 2 rfl (jN d (dH d xJ.f0 fun _ h7=>iI h7 fun _ h8=>jL h8 fun _=>jA 1 rfl (xF (gR z (xS ?_))))));exact jf ls
  have z:=xW t;refine oH (jA 2 rfl (jN d (dH d xJ.f0 fun _ h9=>iI h9 fun _ I=>jL I fun G=>jA 1 rfl (xF (gN z (qD ?_))))));have j1:=jZ (Nat.le_of_lt t) G;have m1:=vK t G;refine xDs (zX (fun s2=>.st [(0,f),(1,h),(2,i),(7,xI (y:Int)),(76,.bool s2)] []) ?_ (fun _=>?_))
  ·
   refine jQ (qR 2 rfl (iO d (zA d xJ.f0 fun _ K=>aZ K fun _ L=>qR 1 rfl (jqI L F fun _ M=>jB fun z3 c3=>(jqk (fun H=>xJm z3 c3 _ aA (H.a p) (H.a M)) (qR 2 rfl (dP 58 (fun _=>?_) (fun _=>?_))))))))
   ·
    refine qR 18 rfl (iS (dI ?_));exact jf ls
   refine qR 1 rfl (iO d (zA d xJ.f0 fun _ N=>aZ N fun _ O=>qR 1 rfl (jqI O F fun _ P=>zA P xC.f0 fun _ Q=>aD Q fun _=>qR 1 rfl (iO e (zA e xA.f1 (fun _ R=>?_))))));refine aZ R fun _ S=>qR 1 rfl (jB fun z4 c4=>(jqI S c4 fun _ T=>zA T oV.f0 fun _ U=>aD U fun _=>qR 2 rfl (iS (dI ?_))));exact jf ls
  refine dI (zC (fun _=>?_) (fun _=>?_))
  ·
   refine xL (jA 1 rfl (vE (jrt (eX (jrj (a_R ?_))))));exact zB (rt rfl) lv
  refine vY (jA 1 rfl (oQ m1 (jA 1 rfl (xF ?_))));exact jg ls
 refine qQ (jA 1 rfl (xP ?_));exact zB (rt rfl) lv
def iN (c d:Rel):Option Bool:=
 vC (σ:=Bool) (
  if (c.arity != d.arity) then  some (.nx true) else  some (.nx ((c.tuples.length:Int) != (d.tuples.length:Int)))) fun e=>
 if e then
  some false
 else
  vC (σ:=Unit) (
   oM (σ:=Unit) (ρ:=Bool) (fun (f:Nat) (h:(List Int)) (s:Unit)=>
     match s with
     | _=>
     xK (ix d.tuples (f:Int)) fun i=>
     xK (cU h i) fun j=>
     if (!j) then
      some (.ret false)
     else
      some (.go ())) c.tuples 0 ()) fun _=>
  some true
theorem xFb {B:Nat→Prop} {t y:Rel} (r:Bool) (O:iN t y=some r) {f:Value} {h:Value} (i:World) (hN:∀ c,B c→c<i.heap.size) (d:Bo B i (Pt 2 oV) f t) (e:Bo B i (Pt 2 oV) h y):Calls Tryz.prog 195 #[f,h] i (Gt B i [] (.st (.bool r) fun D=>D)):=by
 unfold iN at O
 revert r
 refine zI func195 [(0,f),(1,h)] (Sep.start hN) fun r=>?_;refine xL (jA 1 rfl (bS (zX (fun P=>.st [(0,f),(1,h),(27,.bool P)] []) ?_ (fun _=>?_))))
 ·
  refine jQ (qR 1 rfl (iO d (zA d oV.f0 fun _ Q=>aD Q fun _=>qR 1 rfl (iO e (zA e oV.f0 fun _ R=>aD R fun _=>qR 2 rfl (dP 15 (fun _=>?_) (fun _=>?_)))))))
  ·
   refine qR 12 rfl (iS (dI ?_));exact jf ls
  refine qR 1 rfl (iO d (zA d oV.f1 fun _ S=>aZ S fun _ T=>jqL T fun _=>qR 1 rfl (iO e (zA e oV.f1 fun _ U=>aZ U fun _ V=>jqL V fun _=>qR 2 rfl ?_))));refine iS (dI ?_);exact jf ls
 refine dI (zC (fun _=>?_) (fun _=>?_))
 ·
  refine xL (jA 1 rfl (xT ?_));exact zB (rt rfl) lv
 refine kZ (jA 1 rfl (xF (zX (fun _=>.st [] []) ?_ (fun _=>?_))))
 ·
  refine eD (jl (fun z _=>.st [(5,xI (z:Int)),(0,f),(1,h)] []) ls (fun _ _ _ W=>?_) (fun z _ _ j X=>?_))
  ·
   have p:=qC W;refine oH (jA 2 rfl (jN d (dH d oV.f1 fun _ Y=>iI Y fun _ Z=>jL Z fun _=>jA 1 rfl (xF (gR p (xS ?_))))));exact jf ls
  have p:=xW j;refine oH (jA 2 rfl (jN d (dH d oV.f1 fun _ h9=>iI h9 fun _ C=>jL C fun A=>jA 1 rfl (xF (gN p (qD ?_))))));have j1:=jZ (Nat.le_of_lt j) A;have m1:=vK j A;refine xDs (jQ (qR 1 rfl (iO d (zA d oV.f1 fun _ E=>aZ E fun _ F=>qR 1 rfl (jqI F X fun _ G=>aZ G fun _ I=>qR 1 rfl (iO e ?_))))));refine zA e oV.f1 fun _ K=>aZ K fun _ L=>qR 1 rfl (jB fun z1 c1=>(jqI L c1 fun _ M=>aZ M fun _ N=>jB fun z2 c2=>(jqk (fun H=>iA z2 c2 _ aA (H.a I) (H.a N)) (qR 1 rfl (iS (dI ?_))))));refine zC (fun _=>?_) (fun _=>?_)
  ·
   refine xL (jA 1 rfl (vE (jrt (eX (jrj (a_R ?_))))));exact zB (rt rfl) lv
  refine vY (jA 1 rfl (oQ m1 (jA 1 rfl (xF ?_))));exact jg ls
 refine qQ (jA 1 rfl (xP ?_));exact zB (rt rfl) lv
def eN (N:Nat) (e f:Template) (h:Gadgets):Option (Int×Rel):=
 vC (σ:=Unit) (
  oM (σ:=Unit) (ρ:=Int×Rel) (fun (d:Nat) (i:Formula) (s:Unit)=>
    match s with
    | _=>
    xK (cV N f i) fun c=>
    xK (ix e.rels (d:Int)) fun j=>
    xK (iN (Rel.mk c.arity c.tuples) j) fun p=>
    if (!p) then
     some (.ret ((d:Int),(Rel.mk c.arity c.tuples)))
    else
     some (.go ())) h.formulas 0 ()) fun _=>
 some ((-1),(Rel.mk 0 ([])))
theorem xDw {B:Nat→Prop} {N:Nat} {z A:Template} {C:Gadgets} (r:Int×Rel) (M:eN N z A C=some r) {f:Value} {h:Value} {i:Value} (d:World) (hN:∀ c,B c→c<d.heap.size) (E:Bo B d (Pt 2 xA) f z) (O:Bo B d (Pt 2 xA) h A) (e:Bo B d (Pt 1 xJ) i C):Calls Tryz.prog 165 #[f,h,i] d (Gt B d [] (.v fun y=>.fa (xH r.1) <| .fa (xH r.2.arity) <| .st (.tuple #[xI r.1,.agg #[xI r.2.arity,y]]) fun D=>rl 1 (fG 1 xG) 36 y r.2.tuples::D)):=by
 unfold eN at M
 revert r
 refine zI func165 [(0,f),(1,h),(2,i)] (Sep.start hN) fun r=>?_;refine xL (jA 1 rfl (dG rfl fun j=>xO (jA 1 rfl (xF ?_))));refine zX (fun _=>.st [(7,xU j)] [bx j [xI 0,cL] 108]) ?_ (fun _=>?_)
 ·
  refine eD ?_;refine jl (fun F _=>.st [(8,xI (F:Int)),(0,f),(1,h),(2,i),(7,xU j)] [bx j [xI 0,cL] 108]) ls (fun _ _ _ P=>?_) (fun F _ _ p Q=>?_)
  ·
   have t:=qC P;refine oH (jA 2 rfl (jN e (dH e xJ.f0 fun _ R=>iI R fun _ S=>jL S fun _=>jA 1 rfl (xF (gR t (xS ?_))))));exact jf ls
  have t:=xW p;refine oH (jA 2 rfl (jN e (dH e xJ.f0 fun _ T=>iI T fun _ U=>jL U fun G=>jA 1 rfl (xF (gN t (qD ?_))))));have j1:=jZ (Nat.le_of_lt p) G;have V:=vK p G;refine kE (jA 2 rfl (jN e (dH e xJ.f0 fun _ W=>iI W fun _ X=>jA 1 rfl (jI X Q fun _ Y=>jB fun Z c1=>(jk (fun H=>nF Z c1 _ aA (H.a O) (H.a Y)) fun v3 I=>dG rfl (fun _=>?_))))));refine bC (hv:=(fun H=>oc rfl (oc (H.l 1 rfl).one on))) e3 (xN (jA 1 rfl (jN E (dH E xA.f1 fun _ h8=>iI h8 fun _ h9=>jA 1 rfl (jB fun z2 c2=>(jI h9 c2 fun _ K=>jB fun z3 c3=>(jk (fun H=>xFb z3 c3 _ aA (oV.b (H.g 0 rfl).bk I (H.l 1 rfl)) (H.a K)) ?_)))))));refine jA 1 rfl (xF (zC (fun _=>?_) (fun _=>?_)))
  ·
   refine a_s (lA fun _ _ _ _ g1 _ L _=>?_);have K1:=g1.bk;refine jD (jvA [0] rfl (wD 1 rfl K1 e2 (jvA [2] rfl (jE 3 rfl (js [1,0] rfl ?_)))));refine bC (hv:=(fun H=>oc rfl (oc (H.l 1 rfl).one on))) e3 (kK (jbe (xJv (jrt (eX (jrj (a_R (dL L ?_))))))));exact j2m (fun H=>H.s [2] rfl rfl) (rt rfl) (rcA 1 e2) ⟨_,j1,I,lv⟩
  refine vY (jA 1 rfl (oQ V (jA 1 rfl (xF (js [2] rfl ?_)))));exact jg ls
 refine qQ (qT e5 (jA 1 rfl (bC e3 (xP ?_))));exact j2m (fun H=>(H.nl 1 (fG 1 xG) 36).s [0] rfl rfl) (rt rfl) (rcA 0 e2) ⟨_,(show xH (-1) by decide),(show xH 0 by decide),lv⟩
def dJ (N:Nat) (c d:Template) (e:Gadgets):Option Bool:=
 xK (fO c d e) fun f=>
 if (!f) then
  some false
 else
  xK (eN N c d e) fun h=>
  some ((decide (h.1<0)))
theorem xJu {B:Nat→Prop} {N:Nat} {i j:Template} {p:Gadgets} (r:Bool) (A:dJ N i j p=some r) {e:Value} {f:Value} {h:Value} (d:World) (hN:∀ c,B c→c<d.heap.size) (t:Bo B d (Pt 2 xA) e i) (y:Bo B d (Pt 2 xA) f j) (z:Bo B d (Pt 1 xJ) h p):Calls Tryz.prog 94 #[e,f,h] d (Gt B d [] (.st (.bool r) fun D=>D)):=by
 unfold dJ at A
 revert r
 refine zI func94 [(0,e),(1,f),(2,h)] (Sep.start hN) fun r=>?_;refine xL (jA 1 rfl (xO (jA 3 rfl (jB fun C E=>(jk (fun H=>xEj C E _ aA (H.a t) (H.a y) (H.a z)) (jA 1 rfl (xF (zC (fun _=>?_) (fun _=>?_)))))))))
 ·
  refine xL (jA 1 rfl (xT ?_));exact zB (rt rfl) lv
 refine oY (jA 3 rfl (jB fun F G=>(jk (fun H=>xDw F G _ aA (H.a t) (H.a y) (H.a z)) fun I _ _=>jA 3 rfl (dG rfl fun _=>jA 1 rfl ?_))));refine bC (hv:=(fun H=>oc rfl (oc (H.l 1 rfl).one on))) e3 (xN (jA 3 rfl (xP ?_)));exact zB (rt rfl) lv
def fP (e:Template) (c:Instance):Option Bool:=
 vC (σ:=Bool) (
  xK (vR e) fun f=>
  if (!f) then  some (.nx true) else  xK (cH c.vars 1 10) fun h=>
   if (!h) then  some (.nx true) else  some (.nx (decide (24<(c.cons.length:Int))))) fun i=>
 if i then
  some false
 else
  vC (σ:=Unit) (
   oM (σ:=Unit) (ρ:=Bool) (fun (A:Nat) (d:Con) (s:Unit)=>
     match s with
     | _=>
     vC (σ:=Bool) (
      xK (ck ((e.rels.length:Int) - 1)) fun j=>
      xK (cH d.rel 0 j) fun p=>
      if (!p) then  some (.nx true) else  xK (ix e.rels d.rel) fun t=>
       if ((d.scope.length:Int) != t.arity) then  some (.nx true) else  xK (eT d.scope c.vars) fun y=>
        some (.nx (!y))) fun z=>
     if z then
      some (.ret false)
     else
      some (.go ())) c.cons 0 ()) fun _=>
  some true
theorem nU {B:Nat→Prop} {z:Template} {A:Instance} (r:Bool) (V:fP z A=some r) {f:Value} {h:Value} (i:World) (hN:∀ c,B c→c<i.heap.size) (j:Bo B i (Pt 2 xA) f z) (d:Bo B i (Pt 2 xB) h A):Calls Tryz.prog 54 #[f,h] i (Gt B i [] (.st (.bool r) fun D=>D)):=by
 unfold fP at V
 revert r
 refine zI func54 [(0,f),(1,h)] (Sep.start hN) fun r=>?_;refine xL (jA 1 rfl (bS (zX (fun W=>.st [(0,f),(1,h),(25,.bool W)] []) ?_ (fun _=>?_))))
 ·
  refine a_g (jA 1 rfl (jB fun X Y=>(jk (fun H=>bF X Y _ aA (H.a j)) (jA 2 rfl (dP 10 (fun _=>?_) (fun _=>?_))))))
  ·
   refine jA 15 rfl (xF ?_);exact jf ls
  refine jA 1 rfl (jN d (dH d xB.f0 fun _ Z=>iG Z fun i1=>jB fun z2 c2=>(jk (fun H=>cT z2 c2 _ aA i1 (show xH (1) by decide) (show xH (10) by decide)) (jA 3 rfl (dP 18 (fun _=>?_) (fun _=>?_))))))
  ·
   refine jA 7 rfl (xF ?_);exact jf ls
  refine jA 1 rfl (jN d (dH d xB.f1 fun _ h2=>iI h2 fun _ h3=>jL h3 fun _=>jA 2 rfl (xF ?_)));exact jf ls
 refine dI (zC (fun _=>?_) (fun _=>?_))
 ·
  refine xL (jA 1 rfl (xT ?_));exact zB (rt rfl) lv
 refine kZ (jA 1 rfl (xF (zX (fun _=>.st [] []) ?_ (fun _=>?_))))
 ·
  refine eD (jl (fun t _=>.st [(5,xI (t:Int)),(0,f),(1,h)] []) ls (fun _ _ _ q1=>?_) (fun t x2 _ p y1=>?_))
  ·
   have y:=qC q1;refine oH (jA 2 rfl (jN d (dH d xB.f1 fun _ h4=>iI h4 fun _ h5=>jL h5 fun _=>jA 1 rfl (xF (gR y (xS ?_))))));exact jf ls
  have y:=xW p;refine oH (jA 2 rfl (jN d (dH d xB.f1 fun _ h6=>iI h6 fun _ h7=>jL h7 fun C=>jA 1 rfl (xF (gN y (qD ?_))))));have j1:=jZ (Nat.le_of_lt p) C;have m1:=vK p C;refine kE (jA 1 rfl (jN d (dH d xB.f1 fun _ h8=>iI h8 fun _ h9=>jA 1 rfl (jI h9 y1 fun _ e=>jA 1 rfl (xV (zX (fun s2=>.st [(0,f),(1,h),(5,xI (t:Int)),(83,.bool s2)] []) ?_ (fun _=>?_)))))))
  ·
   refine jQ (qR 1 rfl (iO e (zA e oU.f0 fun _ G=>aD G fun i3=>qR 1 rfl (iO j (zA j xA.f1 fun _ I=>aZ I fun _ K=>jqL K fun _=>jB fun z3 E=>?_)))));refine jqv (fun F H w l=>xKq F rfl rfl E) (jB fun z4 c4=>(jqk (fun H=>cT z4 c4 _ aA i3 (show xH (0) by decide) (bD E)) (qR 2 rfl (dP 53 (fun _=>?_) (fun _=>?_)))))
   ·
    refine qR 30 rfl (iS (dI ?_));exact jf ls
   refine qR 1 rfl (iO e (zA e oU.f1 fun _ L=>aZ L fun _ M=>jqL M fun _=>qR 1 rfl (iO j (zA j xA.f1 fun _ N=>aZ N fun _ O=>qR 1 rfl (iO e ?_)))));refine zA e oU.f0 fun _ P=>aD P fun _=>jB fun z5 c5=>(jqI O c5 fun _ Q=>zA Q oV.f0 fun _ R=>aD R fun _=>qR 3 rfl (dP 72 (fun _=>?_) (fun _=>?_)))
   ·
    refine qR 11 rfl (iS (dI ?_));exact jf ls
   refine qR 1 rfl (iO e (zA e oU.f1 fun _ S=>aZ S fun _ T=>qR 1 rfl (iO d (zA d xB.f0 fun _ U=>aD U fun i4=>jB fun z6 c6=>(jqk (fun H=>sD z6 c6 _ aA (H.a T) i4) (qR 2 rfl ?_))))));refine iS (dI ?_);exact jf ls
  refine dI (zC (fun _=>?_) (fun _=>?_))
  ·
   refine xL (jA 1 rfl (vE (jrt (eX (jrj (a_R ?_))))));exact zB (rt rfl) lv
  refine vY (jA 1 rfl (oQ m1 (jA 1 rfl (xF ?_))));exact jg ls
 refine qQ (jA 1 rfl (xP ?_));exact zB (rt rfl) lv
def aP (N:Nat) (c d:Template) (e:Gadgets) (f:Instance):Option Bool:=
 vC (σ:=Bool) (
  xK (dJ N c d e) fun h=>
  if h then  xK (fP c f) fun i=>
   some (.nx i) else  some (.nx false)) fun j=>
 some j
theorem tK {B:Nat→Prop} {N:Nat} {j p:Template} {t:Gadgets} {y:Instance} (r:Bool) (A:aP N j p t y=some r) {e:Value} {f:Value} {h:Value} {i:Value} (d:World) (hN:∀ c,B c→c<d.heap.size) (z:Bo B d (Pt 2 xA) e j) (C:Bo B d (Pt 2 xA) f p) (E:Bo B d (Pt 1 xJ) h t) (F:Bo B d (Pt 2 xB) i y):Calls Tryz.prog 45 #[e,f,h,i] d (Gt B d [] (.st (.bool r) fun D=>D)):=by
 unfold aP at A
 revert r
 refine zI func45 [(0,e),(1,f),(2,h),(3,i)] (Sep.start hN) fun r=>?_;refine xL (jA 1 rfl (xV (zX (fun G=>.st [(8,.bool G)] []) ?_ (fun _=>?_))))
 ·
  refine a_g (jA 3 rfl (jB fun I K=>(jk (fun H=>xJu I K _ aA (H.a z) (H.a C) (H.a E)) (jA 1 rfl (dP 13 (fun _=>?_) (fun _=>?_))))))
  ·
   refine jA 2 rfl (jB fun L M=>(jk (fun H=>nU L M _ aA (H.a z) (H.a F)) (jA 2 rfl (xF ?_))));exact jf ls
  refine jA 5 rfl (xF ?_);exact jf ls
 refine jY ?_;exact zB (rt rfl) lv
def bV (c d:List Int):Option (List Int):=
 vC (σ:=(List Int)) (
  oM (σ:=(List Int)) (ρ:=(List Int)) (fun (p:Nat) (e:Int) (f:(List Int))=>
   xK (ix d e) fun h=>
   xK (ap f ([h])) fun i=>
   some (.go i)) c 0 []) fun j=>
 some j
theorem mC {B:Nat→Prop} {z A:List Int} (r:(List Int)) (G:bV z A=some r) {e:Value} {f:Value} (d:World) (hN:∀ c,B c→c<d.heap.size) (i:Bo B d (Sl 1 xG) e z) (I:Bo B d (Sl 1 xG) f A):Calls Tryz.prog 100 #[e,f] d (Gt B d [] (.v fun y=>.st (y) fun D=>rl 1 xG 2 y r::D)):=by
 unfold bV at G
 revert r
 refine zI func100 [(0,e),(1,f)] (Sep.start hN) fun r=>?_;refine xL (jA 1 rfl (xN (jR0 xG fun T=>jA 1 rfl (xO (jA 1 rfl (xF (zX (fun K=>.v fun j=>.st [(5,j)] [rl 1 xG 2 j K]) ?_ (fun _ j=>?_))))))))
 ·
  refine eD ?_;refine jl (fun C E=>.v fun p=>.st [(6,xI (C:Int)),(0,e),(1,f),(5,p)] [rl 1 xG 2 p E]) ⟨_,ls⟩ (fun _ E _ L p=>?_) (fun C _ _ h M _=>?_)
  ·
   have t:=qC L;refine oH (jA 2 rfl (jL i fun _=>jA 1 rfl (xF (gR t (xS ?_)))));exact jf ⟨_,ls⟩
  have t:=xW h;refine oH (jA 2 rfl (jL i fun F=>jA 1 rfl (xF (gN t (qD ?_)))));have j2:=jZ (Nat.le_of_lt h) F;have N:=vK h F;refine xJr (jA 4 rfl (jI i M fun _ O=>iG O fun _=>jB fun U P=>(jI I P fun _ Q=>iG Q fun R=>sL (fun H=>Eo.int R) fun _=>jB fun V S=>(js [1,0] rfl (jPL S (fun W=>?_))))));refine jA 1 rfl (zQ (jA 1 rfl (oQ N (jA 1 rfl (xF ?_)))));exact jg ⟨_,ls⟩
 refine qQ (jA 2 rfl (xP ?_));exact j1 (rt rfl) ⟨_,lv⟩
def aM (d:List Atom) (e:List Int):Option (List Atom):=
 vC (σ:=(List Atom)) (
  oM (σ:=(List Atom)) (ρ:=(List Atom)) (fun (p:Nat) (c:Atom) (f:(List Atom))=>
   xK (bV c.args e) fun h=>
   xK (ap f ([(Atom.mk c.rel h)])) fun i=>
   some (.go i)) d 0 []) fun j=>
 some j
theorem xDn {B:Nat→Prop} {z:List Atom} {A:List Int} (r:(List Atom)) (I:aM z A=some r) {e:Value} {f:Value} (d:World) (hN:∀ c,B c→c<d.heap.size) (h:Bo B d (Sl 2 xM) e z) (K:Bo B d (Sl 1 xG) f A):Calls Tryz.prog 96 #[e,f] d (Gt B d [] (.v fun y=>.st (y) fun D=>rl 2 xM 120 y r::D)):=by
 unfold aM at I
 revert r
 refine zI func96 [(0,e),(1,f)] (Sep.start hN) fun r=>?_;refine xL (jA 1 rfl (xN (jR0 xM fun X=>jA 1 rfl (xO (jA 1 rfl (xF (zX (fun L=>.v fun j=>.st [(5,j)] [rl 2 xM 120 j L]) ?_ (fun _ j=>?_))))))))
 ·
  refine eD ?_;refine jl (fun C E=>.v fun p=>.st [(6,xI (C:Int)),(0,e),(1,f),(5,p)] [rl 2 xM 120 p E]) ⟨_,ls⟩ (fun _ E _ M p=>?_) (fun C Y _ i F _=>?_)
  ·
   have t:=qC M;refine oH (jA 2 rfl (jL h fun _=>jA 1 rfl (xF (gR t (xS ?_)))));exact jf ⟨_,ls⟩
  have t:=xW i;refine oH (jA 2 rfl (jL h fun G=>jA 1 rfl (xF (gN t (qD ?_)))));have j2:=jZ (Nat.le_of_lt i) G;have N:=vK i G;refine eD (jB fun O P=>(jB fun Z Q=>(jD (jvA [0,1,2] rfl (jvI 3 rfl h F fun _ R=>xEp 4 rfl R xM.f0 fun _ S=>xMg 5 rfl S fun T=>jvA [6,7] rfl (jvI 8 rfl h F fun _ U=>xEp 9 rfl U xM.f1 (fun _ V=>?_)))))));refine xLl 10 rfl V fun _ W=>jvA [11] rfl (jE 12 rfl (jk (fun H=>mC O P _ aA (H.a W) (H.a K)) fun _=>kK (jE 13 rfl ?_)));refine qT (hone:=(fun H=>oc rfl (oc (H.l 0 rfl).one on))) e5 (kK (jE 14 rfl (jh (fun H=>xM.w T H) (lC (fun H=>El.agg) fun _=>kK (jE 15 rfl (js [1,0] rfl (jPL Q fun v5=>kK (jvA [16] rfl ?_))))))));refine jbe (mU (jA 1 rfl (oQ N (jA 1 rfl (xF ?_)))));exact jg ⟨_,ls⟩
 refine qQ (jA 2 rfl (xP ?_));exact j1 (rt rfl) ⟨_,lv⟩
def eL (c:Int):Option (List Int):=
 vC (σ:=(List Int)) (
  aY (σ:=(List Int)) (ρ:=(List Int)) (fun (d:Nat) (e:(List Int))=>
   xK (ap e ([(d:Int)])) fun f=>
   some (.go f)) c.toNat 0 []) fun h=>
 some h
theorem tG {B:Nat→Prop} {e:Int} (r:(List Int)) (A:eL e=some r)  (f:World) (hN:∀ c,B c→c<f.heap.size) (p:xH e):Calls Tryz.prog 97 #[xI e] f (Gt B f [] (.v fun t=>.st (t) fun D=>rl 1 xG 2 t r::D)):=by
 unfold eL at A
 revert r
 refine zI func97 [(0,xI e)] (Sep.start hN) fun r=>?_;refine xL (jA 1 rfl (xN (jR0 xG fun G=>jA 1 rfl (xO (jA 1 rfl (xF (zX (fun C=>.v fun h=>.st [(3,h)] [rl 1 xG 2 h C]) ?_ (fun _ h=>?_))))))))
 ·
  refine eD ?_;refine jc (fun y z=>.v fun i=>.st [(4,xI (y:Int)),(0,xI e),(3,i)] [rl 1 xG 2 i z]) ⟨_,ls⟩ (fun _ z _ d i=>?_) (fun _ y _ d _=>?_)
  ·
   have j:=iL d;refine oH (jA 3 rfl (xF (gR j (xS ?_))));exact jf ⟨_,ls⟩
  have j:=eW d;refine oH (jA 3 rfl (xF (gN j (qD ?_))));have j2:=xBl d p;have E:=mB d p;refine xJr (jA 2 rfl (sL (fun H=>Eo.int j2) fun _=>jB fun I F=>(js [1,0] rfl (jPL F fun K=>jA 1 rfl (zQ (jA 1 rfl (oQ E (jA 1 rfl ?_))))))));refine xF ?_;exact jg ⟨_,ls⟩
 refine qQ (jA 2 rfl (xP ?_));exact j1 (rt rfl) ⟨_,lv⟩
def gX (c d:Int):Option Int:=
 if (decide (c<d)) then
  some c
 else
  some d
theorem xGw {B:Nat→Prop} {d e:Int} (r:Int) (j:gX d e=some r)  (f:World) (hN:∀ c,B c→c<f.heap.size) (h:xH d) (i:xH e):Calls Tryz.prog 99 #[xI d,xI e] f (Gt B f [] (.fa (xH r) <| .st (xI r) fun D=>D)):=by
 unfold gX at j
 revert r
 refine zI func99 [(0,xI d),(1,xI e)] (Sep.start hN) fun r=>?_;refine xL (jA 1 rfl (xO (jA 3 rfl (xF (zC (fun _=>?_) (fun _=>?_))))))
 ·
  refine xL (jA 2 rfl (xT ?_));exact zB (rt rfl) ⟨h,lv⟩
 refine oY (jA 2 rfl (xP ?_));exact zB (rt rfl) ⟨i,lv⟩
def aN (x0:Gadgets) (p:Instance):Option (Instance×(List Int)×Int):=
 vC (σ:=Int×(List Atom)) (
  oM (σ:=Int×(List Atom)) (ρ:=Instance×(List Int)×Int) (fun (k1:Nat) (H:Con) (s:Int×(List Atom))=>
    match s with
    | (s1,s2)=>
    xK (ix x0.formulas H.rel) fun t=>
    xK (qE H.scope) fun z2=>
    vC (σ:=Int×(List Int)) (
     aY (σ:=Int×(List Int)) (ρ:=(Ctl (Int×(List Atom)) (Instance×(List Int)×Int))) (fun (k2:Nat) (s:Int×(List Int))=>
       match s with
       | (I,s4)=>
       xK (ap s4 ([I])) fun z3=>
       xK (ck (I+1)) fun z4=>
       some (.go (z4,z3))) (t.vars - t.free).toNat 0 (s1,z2)) fun(s5,s6)=>
    xK (aM t.atoms s6) fun z5=>
    xK (ap s2 z5) fun z6=>
    some (.go (s5,z6))) p.cons 0 (p.vars,[])) fun(c,K)=>
 xK (eL c) fun z7=>
 vC (σ:=(List Int)) (
  oM (σ:=(List Int)) (ρ:=Instance×(List Int)×Int) (fun (k3:Nat) (y:Atom) (d:(List Int))=>
   if (y.rel != (-1)) then
    some (.go d)
   else
    xK (ix y.args 0) fun z8=>
    xK (ix d z8) fun L=>
    xK (ix y.args 1) fun N=>
    xK (ix d N) fun B=>
    vC (σ:=(List Int)) (
     aY (σ:=(List Int)) (ρ:=(Ctl ((List Int)) (Instance×(List Int)×Int))) (fun (M:Nat) (f:(List Int))=>
      xK (ix f (M:Int)) fun O=>
      xK (bT L B) fun P=>
      if (O==P) then
       xK (gX L B) fun Q=>
       some (.go (f.set ((M:Int)).toNat Q))
      else
       some (.go f)) c.toNat 0 d) fun R=>
    some (.go R)) K 0 z7) fun C=>
 xK (mkz (0:Int) c) fun S=>
 vC (σ:=(List Int)×Int) (
  aY (σ:=(List Int)×Int) (ρ:=Instance×(List Int)×Int) (fun (e:Nat) (s:(List Int)×Int)=>
    match s with
    | (h,i)=>
    xK (ix C (e:Int)) fun T=>
    if (T==(e:Int)) then
     xK (ix h (e:Int)) fun af=>
     xK (ck (i+1)) fun U=>
     some (.go ((h.set ((e:Int)).toNat i),U))
    else
     some (.go (h,i))) c.toNat 0 (S,0)) fun(V,D)=>
 vC (σ:=(List Int)) (
  aY (σ:=(List Int)) (ρ:=Instance×(List Int)×Int) (fun (z:Nat) (j:(List Int))=>
   xK (ix C (z:Int)) fun W=>
   xK (ix j W) fun X=>
   xK (ix j (z:Int)) fun ag=>
   some (.go (j.set ((z:Int)).toNat X))) c.toNat 0 V) fun E=>
 vC (σ:=(List Con)) (
  oM (σ:=(List Con)) (ρ:=Instance×(List Int)×Int) (fun (k7:Nat) (A:Atom) (F:(List Con))=>
   if (A.rel != (-1)) then
    xK (bV A.args E) fun Y=>
    xK (ap F ([(Con.mk A.rel Y)])) fun Z=>
    some (.go Z)
   else
    some (.go F)) K 0 []) fun G=>
 vC (σ:=Bool) (
  if (decide (10<D)) then  some (.nx true) else  some (.nx (decide (24<(G.length:Int))))) fun a0=>
 if a0 then
  some ((Instance.mk 0 ([])),[],3)
 else
  xK (sl E 0 p.vars) fun a1=>
  some ((Instance.mk D G),a1,0)
theorem tE {B:Nat→Prop} {x0:Gadgets} {x1:Instance} (r:Instance×(List Int)×Int) (hR:aN x0 x1=some r) {M:Value} {h:Value} (T:World) (hN:∀ c,B c→c<T.heap.size) (A0:Bo B T (Pt 1 xJ) M x0) (y:Bo B T (Pt 2 xB) h x1):Calls Tryz.prog 46 #[M,h] T (Gt B T [] (.v fun b7=>.v fun b8=>.fa (xH r.1.vars) <| .fa (xH r.2.2) <| .st (.tuple #[.agg #[xI r.1.vars,b7],b8,xI r.2.2]) fun D=>rl 2 oU 134 b7 r.1.cons::rl 1 xG 2 b8 r.2.1::D)):=by
 unfold aN at hR
 revert r
 refine zI func46 [(0,M),(1,h)] (Sep.start hN) fun r=>?_;refine xL (dG rfl fun d=>jA 2 rfl (xN (jA 1 rfl (jN y (dH y xB.f0 fun _ h1=>iG h1 fun i1=>jA 1 rfl (xN (jR0 xM (fun v2=>?_))))))));refine jA 1 rfl (xO (jA 1 rfl (xF ?_)));refine zX (fun(z,C)=>.v fun e=>.fa (xH z) <| .st [(1,h),(4,xU d),(7,xI z),(8,e)] [rl 2 xM 120 e C,bx d [xI 0,cL] 43]) ?_ (fun(z,C) e K=>?_)
 ·
  refine eD ?_;refine jl (fun k1 (s3,U)=>.v fun G=>.fa (xH s3) <| .st [(9,xI (k1:Int)),(0,M),(1,h),(4,xU d),(7,xI s3),(8,G)] [rl 2 xM 120 G U,bx d [xI 0,cL] 43]) ⟨_,i1,ls⟩ (fun _ (s3,U) _ q1 G i3=>?_) (fun k1 _ (s3,U) aa y1 G i3=>?_)
  ·
   have l1:=qC q1;refine oH (jA 2 rfl (jN y (dH y xB.f1 fun _ h2=>iI h2 fun _ h3=>jL h3 fun _=>jA 1 rfl (xF (gR l1 (xS ?_))))));exact jf ⟨_,i3,ls⟩
  have l1:=xW aa;refine oH (jA 2 rfl (jN y (dH y xB.f1 fun _ h4=>iI h4 fun _ h5=>jL h5 fun i4=>jA 1 rfl (xF (gN l1 (qD ?_))))));have j1:=jZ (Nat.le_of_lt aa) i4;have m1:=vK aa i4;refine xDs (jQ (qR 1 rfl (iO A0 (zA A0 xJ.f0 fun _ h6=>aZ h6 fun _ h7=>qR 1 rfl (iO y (zA y xB.f1 fun _ h8=>aZ h8 fun _ h9=>qR 1 rfl ?_))))));refine jqI h9 y1 fun _ cp=>zA cp oU.f0 fun _ cq=>aD cq fun _=>jB fun z1 c1=>(jqI h7 c1 fun p1 E=>qR 1 rfl (iS (qQ (jA 1 rfl (jN y (dH y xB.f1 (fun _ cr=>?_)))))));refine iI cr fun _ cs=>jA 1 rfl (jI cs y1 fun _ ct=>dH ct oU.f1 fun _ cu=>iI cu fun _ cv=>jB fun z2 c2=>(jk (fun H=>eI z2 c2 _ aA (H.a cv)) fun v5=>jA 1 rfl (xO (jA 1 rfl (jN E ?_)))));refine dH E xC.f0 fun _ cw=>iG cw fun i5=>jA 1 rfl (xF ?_);refine zX (fun(s5,s6)=>.v fun v6=>.fa (xH s5) <| .st [(0,M),(1,h),(4,xU d),(7,xI s5),(8,G),(9,xI (k1:Int)),(10,p1),(11,v6)] [rl 1 xG 2 v6 s6,rl 2 xM 120 G U,bx d [xI 0,cL] 43]) ?_ (fun(s5,s6) _ i6=>?_)
  ·
   refine eD (jev 12 (show Value.int .i64 z1.free=Value.int .i64 (z1.free+((0:Nat):Int)) by rw[Int.ofNat_zero,Int.add_zero]) ?_);refine jc (fun k2 (s7,s8)=>.v fun v7=>.fa (xH s7) <| .st [(12,xI (z1.free+(k2:Int))),(0,M),(1,h),(4,xU d),(7,xI s7),(8,G),(9,xI (k1:Int)),(10,p1),(11,v7)] [rl 1 xG 2 v7 s8,rl 2 xM 120 G U,bx d [xI 0,cL] 43]) ⟨_,i3,ls⟩ (fun _ (s7,s8) _ N v7 i7=>?_) (fun _ k2 (s7,s8) N _ i7=>?_)
   ·
    have l2:=xLf N;refine oH (jA 2 rfl (jN E (dH E xC.f1 fun _ cx=>iG cx fun _=>jA 1 rfl (xF (gR l2 (xS ?_))))));exact jf ⟨_,i7,ls⟩
   have l2:=xIb N;refine oH (jA 2 rfl (jN E (dH E xC.f1 fun _ cy=>iG cy fun i8=>jA 1 rfl (xF (gN l2 (qD ?_))))));have j2:=oBk N i5 i8;have m2:=xRm N i5 i8;refine kE (jA 2 rfl (sL (fun H=>Eo.int i7) fun _=>jB fun z3 c3=>(js [1,0,2,3] rfl (jPL c3 fun v8=>jA 1 rfl (tH (jA 1 rfl (jB fun z4 c4=>(lY c4 ?_))))))));refine jA 1 rfl (zQ (jA 1 rfl (xTr m2 (jA 1 rfl (xF ?_)))));exact jg ⟨_,(bD c4),ls⟩
  refine xQp (jA 2 rfl (jN E (dH E xC.f2 fun _ cz=>iI cz fun _ d0=>jA 1 rfl (jB fun z5 c5=>(jk (fun H=>xDn z5 c5 _ aA (H.a d0) (H.l 0 rfl)) fun _=>jB fun z6 c6=>(js [2,0,1,3] rfl (jPL c6 (fun v9=>?_))))))));refine jA 1 rfl (zQ (jA 1 rfl (oQ m1 (jA 1 rfl (xF (js [0,2] rfl ?_))))));exact jg ⟨_,i6,ls⟩
 refine qQ (jA 1 rfl (jB fun z7 c7=>(jk (fun H=>tG z7 c7 _ aA K) fun fw=>jA 1 rfl (xO (jA 1 rfl (xF ?_))))));refine zX (fun V=>.v fun A=>.st [(1,h),(4,xU d),(7,xI z),(8,e),(13,A)] [rl 1 xG 2 A V,rl 2 xM 120 e C,bx d [xI 0,cL] 43]) ?_ (fun V A=>?_)
 ·
  refine eD ?_;refine jl (fun k3 ab=>.v fun Y=>.st [(14,xI (k3:Int)),(1,h),(4,xU d),(7,xI z),(8,e),(13,Y)] [rl 1 xG 2 Y ab,rl 2 xM 120 e C,bx d [xI 0,cL] 43]) ⟨_,ls⟩ (fun _ ab _ q2 Y=>?_) (fun k3 _ ab ac y2 Y=>?_)
  ·
   have l3:=qC q2;refine oH (jA 2 rfl (jLc (fun H=>H.l 1 rfl) fun _=>jA 1 rfl (xF (gR l3 (xS ?_)))));exact jf ⟨_,ls⟩
  have l3:=xW ac;refine oH (jA 2 rfl (jLc (fun H=>H.l 1 rfl) fun i9=>jA 1 rfl (xF (gN l3 (qD ?_)))));have j3:=jZ (Nat.le_of_lt ac) i9;have m3:=vK ac i9;refine xYp (jA 2 rfl (js [1,0,2] rfl (lA fun w1 X1 N1 _ g1 _ b9 _=>?_)));have ad:=g1.ld;refine jI ad y2 fun _ d1=>dH d1 xM.f0 fun _ d2=>iG d2 fun _=>jA 1 rfl (xF (zC (fun _=>?_) (fun _=>?_)))
  ·
   refine xAg (jA 1 rfl (oQ m3 (jA 1 rfl (xF (dL b9 (js [1,0,2] rfl ?_))))));exact jg ⟨_,ls⟩
  refine oY (jA 3 rfl (jI ad y2 fun _ d3=>dH d3 xM.f1 fun _ d4=>iI d4 fun _ d5=>jB fun z8 c8=>(jI d5 c8 fun _ d6=>iG d6 fun _=>jB fun z9 c9=>(lA fun _ _ _ ba g2 _ ae _=>?_))));have bb:=g2.ld;refine jI bb c9 fun _ d7=>iG d7 fun bc=>jA 1 rfl (xN (jA 3 rfl (jI ad y2 fun _ d8=>dH d8 xM.f1 fun _ d9=>iI (s:=fun H=>(ba.trans (Sm.mono H.sm ae.2.2))) d9 fun _ da=>jB fun fx db=>(jI da db fun _ dc=>iG (s:=fun H=>(ba.trans (Sm.mono H.sm ae.2.2))) dc (fun _=>?_)))));refine jB fun dd de=>(jI bb de fun _ df=>iG df fun bd=>jA 1 rfl (xN (jA 1 rfl (xF (dL ae ?_)))));refine zX (fun be=>.v fun af=>.st [(1,h),(4,xU d),(7,xI z),(8,e),(13,af),(14,xI (k3:Int))] [rl 1 xG 2 af be,bx d [xI 0,cL] 43]) ?_ (fun be af=>?_)
  ·
   refine eD ?_;refine jc (fun k4 ag=>.v fun Z=>.st [(17,xI (k4:Int)),(1,h),(4,xU d),(7,xI z),(8,e),(13,Z),(14,xI (k3:Int)),(15,xI z9),(16,xI dd)] [rl 1 xG 2 Z ag,bx d [xI 0,cL] 43]) ⟨_,ls⟩ (fun _ ag _ O Z=>?_) (fun _ k4 ag O Z=>?_)
   ·
    have l4:=iL O;refine oH (jA 3 rfl (xF (gR l4 (xS ?_))));exact jf ⟨_,ls⟩
   have l4:=eW O;refine oH (jA 3 rfl (xF (gN l4 (qD ?_))));have j4:=xBl O K;have m4:=mB O K;refine xDs (lA fun _ _ _ _ g3 _ bf _=>?_);have dg:=g3.ld;refine jQ (qR 2 rfl (jB fun fy ah=>(jqI dg ah fun _ dh=>aD dh fun _=>qR 2 rfl (jB fun di dj=>(xWw (fun H=>rY di dj _ aA bc bd) fun _=>qR 1 rfl (iS (dI ?_)))))));refine zC (fun _=>?_) (fun _=>?_)
   ·
    refine a_g (jA 4 rfl (jB fun dk dl=>(jk (fun H=>xGw dk dl _ aA bc bd) fun dm=>dL bf (jRl 0 ah fun _ dq=>jh (fun H=>H.lw) (jS dq (xAr ah) (fun H=>Eo.int dm) rfl (jh (fun H=>H.tl) (zQ (jA 1 rfl ?_))))))));refine oQ m4 (jA 1 rfl (xF ?_));exact jg ⟨_,ls⟩
   refine vY (jA 1 rfl (oQ m4 (jA 1 rfl (xF (dL bf ?_)))));exact jg ⟨_,ls⟩
  refine mU (jA 1 rfl (oQ m3 (jA 1 rfl (xF (dL b9 (js [1,0,2] rfl ?_))))));exact jg ⟨_,ls⟩
 refine qQ (jA 1 rfl (jB fun g0 dr=>?_));refine jRM (R:=xG) (fun w=>⟨rfl,by decide,rfl⟩) dr fun v16=>jA 1 rfl (xN (qT e5 (dG rfl fun i=>bC e3 (xO (jA 1 rfl (xF ?_))))));refine zX (fun(bg,t)=>.v fun ai=>.fa (xH t) <| .st [(1,h),(4,xU d),(7,xI z),(8,e),(13,A),(18,ai),(19,xU i)] [bx i [xI t,cL] 43,rl 1 xG 2 ai bg,rl 1 xG 2 A V,rl 2 xM 120 e C,bx d [xI 0,cL] 43]) ?_ (fun(bg,t) ai ds=>?_)
 ·
  refine eD ?_;refine jc (fun k5 (aj,a0)=>.v fun a1=>.fa (xH a0) <| .st [(20,xI (k5:Int)),(1,h),(4,xU d),(7,xI z),(8,e),(13,A),(18,a1),(19,xU i)] [bx i [xI a0,cL] 43,rl 1 xG 2 a1 aj,rl 1 xG 2 A V,rl 2 xM 120 e C,bx d [xI 0,cL] 43]) ⟨_,(show xH 0 by decide),ls⟩ (fun _ (aj,a0) _ P a1 a2=>?_) (fun _ k5 (aj,a0) P a1 a2=>?_)
  ·
   have l5:=iL P;refine oH (jA 3 rfl (xF (gR l5 (xS ?_))));exact jf ⟨_,a2,ls⟩
  have l5:=eW P;refine oH (jA 3 rfl (xF (gN l5 (qD ?_))));have j5:=xBl P K;have m5:=mB P K;refine kE (jA 2 rfl (jB fun z16 du=>(js [2,0,1,3,4] rfl (lA fun _ _ _ _ g4 _ bh _=>?_))));have dw:=g4.ld;refine jI dw du fun _ dx=>iG dx fun _=>jA 2 rfl (xF (zC (fun _=>?_) (fun _=>?_)))
  ·
   refine xL (jA 2 rfl (xY e2 (jb 0 e3 (jB fun z17 bi=>(jRl 1 bi fun _ dy=>js [1,0,2,3] rfl (jh (fun H=>H.lw) (jS dy (xAr bi) (fun H=>Eo.int a2) rfl (jh (fun H=>H.tl) (tH ?_)))))))));refine xY e2 (jb 1 e3 (jB fun z18 bj=>(lY bj (xY e2 (js [1,0,2,3] rfl (jW e3 (zQ (jA 1 rfl (oQ m5 (jA 1 rfl ?_))))))))));refine xF (dL bh (js [1,2,0,3,4] rfl ?_));exact jg ⟨_,(bD bj),ls⟩
  refine vY (jA 1 rfl (oQ m5 (jA 1 rfl (xF (dL bh (js [1,2,0,3,4] rfl ?_))))));exact jg ⟨_,a2,ls⟩
 refine sQ (jA 1 rfl (xF ?_));refine zX (fun F=>.v fun j=>.st [(1,h),(4,xU d),(8,e),(18,j),(19,xU i)] [bx i [xI t,cL] 43,rl 1 xG 2 j F,rl 2 xM 120 e C,bx d [xI 0,cL] 43]) ?_ (fun F j=>?_)
 ·
  refine eD ?_;refine jc (fun k6 ak=>.v fun a3=>.st [(21,xI (k6:Int)),(1,h),(4,xU d),(7,xI z),(8,e),(13,A),(18,a3),(19,xU i)] [bx i [xI t,cL] 43,rl 1 xG 2 a3 ak,rl 1 xG 2 A V,rl 2 xM 120 e C,bx d [xI 0,cL] 43]) ⟨_,ls⟩ (fun _ ak _ Q a3=>?_) (fun _ k6 ak Q a3=>?_)
  ·
   have l6:=iL Q;refine oH (jA 3 rfl (xF (gR l6 (xS (js [0,1,3,4] rfl ?_)))));exact jf ⟨_,ls⟩
  have l6:=eW Q;refine oH (jA 3 rfl (xF (gN l6 (qD ?_))));have j6:=xBl Q K;have m6:=mB Q K;refine xJr (jA 5 rfl (jB fun z19 dz=>(js [2,0,1,3,4] rfl (lA fun _ _ _ _ g5 _ e0 _=>?_))));have e1:=g5.ld;refine jI e1 dz fun _ e4=>iG e4 fun _=>jB fun z20 e6=>(js [1,0,2,3] rfl (lA fun _ _ _ _ g6 _ e7 _=>?_));have e8:=g6.ld;refine jI e8 e6 fun _ e9=>iG e9 fun ea=>jB fun z21 bm=>(dL e7 (jRl 0 bm fun _ ec=>jh (fun H=>H.lw) (jS ec (xAr bm) (fun H=>Eo.int ea) rfl (jh (fun H=>H.tl) (zQ (jA 1 rfl (oQ m6 ?_)))))));refine jA 1 rfl (xF (dL e0 (js [2,1,0,3,4] rfl ?_)));exact jg ⟨_,ls⟩
 refine sQ (jA 1 rfl (xF ?_));refine zX (fun a4=>.v fun I=>.st [(1,h),(4,xU d),(18,j),(19,xU i)] [rl 2 oU 134 I a4,bx i [xI t,I] 43,rl 1 xG 2 j F,bx d [xI 0,cL] 43]) ?_ (fun a4 I=>?_)
 ·
  refine eD (jh (fun H=>H.nl 2 oU 134) ?_);refine jl (fun W L=>.v fun p=>.st [(22,xI (W:Int)),(1,h),(4,xU d),(8,e),(18,j),(19,xU i)] [rl 2 oU 134 p L,bx i [xI t,p] 43,rl 1 xG 2 j F,rl 2 xM 120 e C,bx d [xI 0,cL] 43]) ⟨_,ls⟩ (fun _ L _ q3 p=>?_) (fun W X L al y3 p=>?_)
  ·
   have l7:=qC q3;refine oH (jA 2 rfl (jLc (fun H=>H.l 3 rfl) fun _=>jA 1 rfl (xF (gR l7 (xS (js [0,1,2,4] rfl ?_))))));exact jf ⟨_,ls⟩
  have l7:=xW al;refine oH (jA 2 rfl (jLc (fun H=>H.l 3 rfl) fun bn=>jA 1 rfl (xF (gN l7 (qD ?_)))));have j7:=jZ (Nat.le_of_lt al) bn;have m7:=vK al bn;refine kE (jA 2 rfl (js [3,0,1,2,4] rfl (lA fun w2 X2 N2 _ g7 _ bo _=>?_)));have am:=g7.ld;refine jI am y3 fun _ ed=>dH ed xM.f0 fun _ ee=>iG ee fun _=>jA 1 rfl (xF (zC (fun _=>?_) (fun _=>?_)))
  ·
   refine jB fun S bp=>(jB fun z23 ef=>(jD ?_));refine jdp (f:=3) (ls:=#[true,true,true,true,true,true,true,true,true,true,true,true,true,true,true,true,false,false,false]) (.v fun br=>.st [(1,h),(4,xU d),(8,e),(18,j),(19,xU i),(22,xI (W:Int)),(189,p),(203,br)] [rl 2 oU 134 br ([(Con.mk X.rel S)]),rl 2 oU 134 p L,bx i [xI t,p] 43,rl 1 xG 2 j F,bx d [xI 0,cL] 43]) (fun _=>?_) (fun H1=>?_)
   ·
    refine jE 16 rfl (js [1,0,2,3,4] rfl (jPL ef fun g9=>kK (fZ 17 rfl e2 (jE 18 rfl (js [1,0,2,3] rfl (jW (hv:=(fun H=>(H.l 1 rfl).one)) e3 (kK (jbe (mU ?_)))))))));refine jA 1 rfl (oQ m7 (jA 1 rfl (xF (dL bo (js [2,1,3,0,4] rfl ?_)))));exact jg ⟨_,ls⟩
   refine jdp (f:=4) (ls:=#[true,true,true,true,true,true,true,true,true,true,true,true,true,true,true,false,false,false,false]) (.v fun bt=>.fa (xH X.rel) <| .st [(1,h),(4,xU d),(8,e),(18,j),(19,xU i),(22,xI (W:Int)),(189,p),(202,(.agg #[xI X.rel,bt]))] [rl 1 xG 2 bt S,rl 2 oU 134 p L,bx i [xI t,p] 43,rl 1 xG 2 j F,bx d [xI 0,cL] 43]) (fun _ eg=>?_) (fun H2=>?_)
   ·
    refine jE 15 rfl (jh (fun H=>oU.w eg H) (lC (fun H=>El.agg) fun ga=>kK ?_));exact H1 ⟨_,ls⟩
   refine jdp (f:=5) (ls:=#[true,true,true,true,true,true,true,true,true,true,true,true,true,true,false,false,false,false,false]) (.v fun an=>.fa (xH X.rel) <| .st [(1,h),(4,xU d),(8,e),(18,j),(19,xU i),(22,xI (W:Int)),(189,p),(194,xI X.rel),(201,an)] [rl 1 xG 2 an S,rl 2 oU 134 p L,bx i [xI t,p] 43,rl 1 xG 2 j F,bx d [xI 0,cL] 43]) (fun an eh=>?_) (fun H3=>?_)
   ·
    refine jE 14 rfl ?_;refine qT (hone:=(fun H=>oc rfl (oc (H.l 0 rfl).one on))) e5 (kK ?_);exact H2 ⟨_,eh,ls⟩
   refine fZ 0 rfl e2 (jvA [2,3] rfl (jvI 4 rfl am y3 fun _ ei=>xEp 5 rfl ei xM.f0 fun _ ej=>xMg 6 rfl ej fun a5=>jvA [7,8] rfl (jvI 9 rfl am y3 fun _ ek=>xEp 10 rfl ek xM.f1 fun _ el=>xLl 11 rfl el fun _ bu=>jvA [12] rfl (jV (fun H=>H) 1 13 rfl rfl ?_ ?_))))
   ·
    refine jb 1 e3 (kK (jE 13 rfl (jk (fun H=>mC S bp _ aA (H.a bu) (H.l 2 rfl)) fun gb=>kK ?_)));exact H3 ⟨_,a5,ls⟩
   refine jk (fun H=>mC S bp _ aA (H.a bu) (H.l 2 rfl)) fun gc=>kK (jV (fun H=>H) 1 14 rfl rfl ?_ ?_)
   ·
    refine jb 2 e3 (kK ?_);exact H3 ⟨_,a5,ls⟩
   refine qT (hone:=(fun H=>oc rfl (oc (H.l 0 rfl).one on))) e5 (kK (jV (fun H=>H) 1 15 rfl rfl ?_ ?_))
   ·
    refine jb 2 e3 (kK ?_);exact H2 ⟨_,a5,ls⟩
   refine jh (fun H=>oU.w a5 H) (lC (fun H=>El.agg) fun gd=>kK (jE 1 rfl (jb 2 e3 (kK ?_))));exact H1 ⟨_,ls⟩
  refine vY (jA 1 rfl (oQ m7 (jA 1 rfl (xF (dL bo (js [1,2,3,0,4] rfl ?_))))));exact jg ⟨_,ls⟩
 refine xPk ?_;refine zX (fun em=>.st [(1,h),(4,xU d),(18,j),(19,xU i),(214,.bool em)] [rl 2 oU 134 I a4,bx i [xI t,I] 43,rl 1 xG 2 j F,bx d [xI 0,cL] 43]) ?_ (fun _=>?_)
 ·
  refine a_g (xY e2 (jb 1 e3 (jA 2 rfl (dP 209 (fun _=>?_) (fun _=>?_)))))
  ·
   refine jA 5 rfl (xF ?_);exact jf ls
  refine xY e2 (jb 1 e3 (jLc (fun H=>H.l 0 rfl) fun _=>jA 2 rfl (xF ?_)));exact jf ls
 refine dI (zC (fun _=>?_) (fun _=>?_))
 ·
  refine xL (qT e5 (jR0 xG fun ge=>js [4,0,1,2,3] rfl (bC e3 (jA 2 rfl (xT ?_)))));exact j3m (fun H=>(H.nl 2 oU 134).s [0,2] rfl rfl) (rcA 0 e2) (rt rfl) (rt rfl) ⟨_,_,(show xH 0 by decide),(show xH (3) by decide),lv⟩
 refine qD (jB fun en bv=>(js [1,0,2,3] rfl (lA fun w3 X3 N3 eo g8 _ bw _=>?_)));have K1:=g8.bk;refine jD ?_;refine jdp (f:=2) (ls:=#[true,true,true,true,true,true,true,true,false,false]) (.v fun ao=>.st [(4,xU d),(223,ao)] [rl 1 xG 2 ao en,bx d [xI t,I] 43,rl 2 oU 134 I a4]) (fun ao=>?_) (fun H4=>?_)
 ·
  refine jvA [8,9] rfl (jbe (jY (dL bw ?_)));exact j3m (fun H=>H.s [3,1] rfl rfl) (rcA 2 e2) (rt rfl) (rt rfl) ⟨_,_,ds,(show xH (0) by decide),lv⟩
 refine wD 0 rfl K1 e2 (jvA [1,2] rfl (jvN 3 rfl y (xEp 4 rfl y xB.f0 fun _ ep=>xMg (s:=fun H w l=>(eo.trans (Sm.mono (H.v w l) bw.2.2))) 5 rfl ep fun _=>jV (fun H=>H) 6 7 rfl rfl ?_ ?_)))
 ·
  refine js [1,0,2] rfl (jh (fun H=>H.lw) (jT bv fun gf=>jh (fun H=>H.tl) (kK (jE 7 rfl (js [2,0,1] rfl ?_)))));refine bC (hv:=(fun H=>oc rfl (oc (H.l 2 rfl).one on))) e3 (kK (js [1,0,2] rfl ?_));exact H4 ⟨_,ls⟩
 refine js [2,0,1] rfl ?_;refine bC (hv:=(fun H=>oc rfl (oc (H.l 1 rfl).one on))) e3 (kK (jE 6 rfl (js [2,0,1] rfl (jh (fun H=>H.lw) (jT bv fun gg=>jh (fun H=>H.tl) (kK ?_))))));exact H4 ⟨_,ls⟩
def cA (N:Nat) (e f:Template) (h:Gadgets) (c:Instance):Option (Instance×(List Int)×Int):=
 xK (aP N (Template.mk e.size e.rels) (Template.mk f.size f.rels) (Gadgets.mk h.formulas) (Instance.mk c.vars c.cons)) fun i=>
 if (!i) then
  some ((Instance.mk 0 ([])),[],1)
 else
  xK (aN (Gadgets.mk h.formulas) (Instance.mk c.vars c.cons)) fun d=>
  some ((Instance.mk d.1.vars d.1.cons),d.2.1,d.2.2)
theorem wM {B:Nat→Prop} {N:Nat} {t y:Template} {z:Gadgets} {A:Instance} (r:Instance×(List Int)×Int) (G:cA N t y z A=some r) {e:Value} {f:Value} {h:Value} {i:Value} (d:World) (hN:∀ c,B c→c<d.heap.size) (I:Bo B d (qG 2 xA) e t) (K:Bo B d (qG 2 xA) f y) (L:Bo B d (qG 1 xJ) h z) (M:Bo B d (qG 2 xB) i A):Calls Tryz.prog 15 #[e,f,h,i] d (Gt B d [] (.v fun j=>.v fun p=>.fa (xH r.1.vars) <| .fa (xH r.2.2) <| .st (.tuple #[.agg #[xI r.1.vars,j],p,xI r.2.2]) fun D=>rl 2 oU 134 j r.1.cons::rl 1 xG 2 p r.2.1::D)):=by
 unfold cA at G
 revert r
 refine zI func15 [(0,e),(1,f),(2,h),(3,i)] (Sep.start hN) fun r=>?_;refine xL ?_;obtain⟨Z,rfl,O,P⟩:=xA.o I;refine jX e2 (fun _=>?_);obtain⟨Y,rfl,Q,R⟩:=xA.o K;refine jX e2 (fun _=>?_);obtain⟨v5,rfl,C⟩:=xJ.o L;refine jX e2 (fun _=>?_);obtain⟨v6,rfl,E,F⟩:=xB.o M;refine jX e2 fun _=>dG rfl fun _=>jA 2 rfl (xO (jB fun S T=>(jk (fun H=>tK S T _ aA (xA.b (H.g 4 rfl).bk O (H.a P)) (xA.b (H.g 3 rfl).bk Q (H.a R)) (xJ.b (H.g 2 rfl).bk (H.a C)) (xB.b (H.g 1 rfl).bk E (H.a F))) (jA 1 rfl (xF (zC (fun _=>?_) (fun _=>?_)))))))
 ·
  refine xL (qT e5 (jR0 xG fun v7=>js [1,0,2,3,4,5] rfl (bC e3 (jA 2 rfl (xT ?_)))));exact j3m (fun H=>(H.nl 2 oU 134).s [0,2] rfl rfl) (rcA 0 e2) (rt rfl) (rt rfl) ⟨_,_,(show xH 0 by decide),(show xH (1) by decide),lv⟩
 refine oY (jB fun U V=>(jk (fun H=>tE U V _ aA (xJ.b (H.g 2 rfl).bk (H.a C)) (xB.b (H.g 1 rfl).bk E (H.a F))) fun v8 v9 W X=>jA 3 rfl (js [2,0,1,3,4,5,6] rfl ?_)));refine bC (hv:=(fun H=>oc rfl (oc (H.l 1 rfl).one on))) e3 (jA 2 rfl (xP ?_));exact j3m (fun H=>H.s [1,2] rfl rfl) (rcA 0 e2) (rt rfl) (rt rfl) ⟨_,_,W,X,lv⟩
end Go.Proofs.YtlommebgedmjdaaGreatDoor
namespace Go.Proofs.YtlommebgedmjdaaGreatDoor
open Go.Proofs.Tryz
set_option linter.unusedVariables false
set_option linter.unusedSimpArgs false
set_option maxRecDepth 100000
open Go.RowKit
def nW (c d:Instance):Option Bool:=
 vC (σ:=Bool) (
  if (c.vars != d.vars) then  some (.nx true) else  some (.nx ((c.cons.length:Int) != (d.cons.length:Int)))) fun h=>
 if h then
  some false
 else
  vC (σ:=Unit) (
   oM (σ:=Unit) (ρ:=Bool) (fun (i:Nat) (e:Con) (s:Unit)=>
     match s with
     | _=>
     vC (σ:=Bool) (
      xK (ix d.cons (i:Int)) fun f=>
      if (e.rel != f.rel) then  some (.nx true) else  xK (cU e.scope f.scope) fun j=>
       some (.nx (!j))) fun p=>
     if p then
      some (.ret false)
     else
      some (.go ())) c.cons 0 ()) fun _=>
  some true
theorem xGe {B:Nat→Prop} {y z:Instance} (r:Bool) (hR:nW y z=some r) {f:Value} {h:Value} (i:World) (hN:∀ c,B c→c<i.heap.size) (d:Bo B i (Pt 2 xB) f y) (e:Bo B i (Pt 2 xB) h z):Calls Tryz.prog 47 #[f,h] i (Gt B i [] (.st (.bool r) fun D=>D)):=by
 unfold nW at hR
 revert r
 refine zI func47 [(0,f),(1,h)] (Sep.start hN) fun r=>?_;refine xL (jA 1 rfl (bS (zX (fun s1=>.st [(0,f),(1,h),(27,.bool s1)] []) ?_ (fun _=>?_))))
 ·
  refine jQ (qR 1 rfl (iO d (zA d xB.f0 fun _ h1=>aD h1 fun _=>qR 1 rfl (iO e (zA e xB.f0 fun _ h2=>aD h2 fun _=>qR 2 rfl (dP 15 (fun _=>?_) (fun _=>?_)))))))
  ·
   refine qR 12 rfl (iS (dI ?_));exact jf ls
  refine qR 1 rfl (iO d (zA d xB.f1 fun _ h3=>aZ h3 fun _ h4=>jqL h4 fun _=>qR 1 rfl (iO e (zA e xB.f1 fun _ h5=>aZ h5 fun _ h6=>jqL h6 fun _=>qR 2 rfl ?_))));refine iS (dI ?_);exact jf ls
 refine dI (zC (fun _=>?_) (fun _=>?_))
 ·
  refine xL (jA 1 rfl (xT ?_));exact zB (rt rfl) lv
 refine kZ (jA 1 rfl (xF (zX (fun _=>.st [] []) ?_ (fun _=>?_))))
 ·
  refine eD (jl (fun p _=>.st [(5,xI (p:Int)),(0,f),(1,h)] []) ls (fun _ _ _ q1=>?_) (fun p x2 _ j A=>?_))
  ·
   have t:=qC q1;refine oH (jA 2 rfl (jN d (dH d xB.f1 fun _ h7=>iI h7 fun _ h8=>jL h8 fun _=>jA 1 rfl (xF (gR t (xS ?_))))));exact jf ls
  have t:=xW j;refine oH (jA 2 rfl (jN d (dH d xB.f1 fun _ h9=>iI h9 fun _ F=>jL F fun C=>jA 1 rfl (xF (gN t (qD ?_))))));have j1:=jZ (Nat.le_of_lt j) C;have m1:=vK j C;refine xDs (zX (fun s2=>.st [(0,f),(1,h),(5,xI (p:Int)),(73,.bool s2)] []) ?_ (fun _=>?_))
  ·
   refine jQ (qR 1 rfl (iO d (zA d xB.f1 fun _ G=>aZ G fun _ I=>qR 1 rfl (jqI I A fun _ K=>zA K oU.f0 fun _ L=>aD L fun _=>qR 1 rfl (iO e ?_)))));refine zA e xB.f1 fun _ M=>aZ M fun _ N=>qR 1 rfl (jB fun z1 E=>(jqI N E fun _ O=>zA O oU.f0 fun _ P=>aD P fun _=>qR 2 rfl (dP 54 (fun _=>?_) (fun _=>?_))))
   ·
    refine qR 19 rfl (iS (dI ?_));exact jf ls
   refine qR 1 rfl (iO d (zA d xB.f1 fun _ Q=>aZ Q fun _ R=>qR 1 rfl (jqI R A fun _ S=>zA S oU.f1 fun _ T=>aZ T fun _ U=>qR 1 rfl (iO e (zA e xB.f1 (fun _ V=>?_))))));refine aZ V fun _ W=>qR 1 rfl (jqI W E fun _ X=>zA X oU.f1 fun _ Y=>aZ Y fun _ Z=>jB fun z2 c2=>(jqk (fun H=>iA z2 c2 _ aA (H.a U) (H.a Z)) (qR 2 rfl (iS (dI ?_)))));exact jf ls
  refine dI (zC (fun _=>?_) (fun _=>?_))
  ·
   refine xL (jA 1 rfl (vE (jrt (eX (jrj (a_R ?_))))));exact zB (rt rfl) lv
  refine vY (jA 1 rfl (oQ m1 (jA 1 rfl (xF ?_))));exact jg ls
 refine qQ (jA 1 rfl (xP ?_));exact zB (rt rfl) lv
def kS (c d:Instance):Option Bool:=
 xK (nW (Instance.mk c.vars c.cons) (Instance.mk d.vars d.cons)) fun e=>
 some e
theorem nL {B:Nat→Prop} {h i:Instance} (r:Bool) (j:kS h i=some r) {e:Value} {f:Value} (d:World) (hN:∀ c,B c→c<d.heap.size) (p:Bo B d (qG 2 xB) e h) (t:Bo B d (qG 2 xB) f i):Calls Tryz.prog 16 #[e,f] d (Gt B d [] (.st (.bool r) fun D=>D)):=by
 unfold kS at j
 revert r
 refine zI func16 [(0,e),(1,f)] (Sep.start hN) fun r=>?_;refine xL ?_;obtain⟨I,rfl,y,z⟩:=xB.o p;refine jX e2 (fun _=>?_);obtain⟨G,rfl,A,C⟩:=xB.o t;refine jX e2 fun _=>jA 1 rfl (xN (jB fun E F=>(jk (fun H=>xGe E F _ aA (xB.b (H.g 1 rfl).bk y (H.a z)) (xB.b (H.g 0 rfl).bk A (H.a C))) (jA 1 rfl (xP ?_)))));exact zB (rt rfl) lv
def aE (c d:List Int):Option Bool:=
 xK (cU c d) fun e=>
 some e
theorem fM {B:Nat→Prop} {h i:List Int} (r:Bool) (j:aE h i=some r) {e:Value} {f:Value} (d:World) (hN:∀ c,B c→c<d.heap.size) (p:Bo B d (Sl 1 xG) e h) (t:Bo B d (Sl 1 xG) f i):Calls Tryz.prog 17 #[e,f] d (Gt B d [] (.st (.bool r) fun D=>D)):=by
 unfold aE at j
 revert r
 refine zI func17 [(0,e),(1,f)] (Sep.start hN) fun r=>?_;refine xL (jA 1 rfl (xN (jA 2 rfl (jB fun y z=>(jk (fun H=>iA y z _ aA (H.a p) (H.a t)) (jA 1 rfl (xP ?_)))))));exact zB (rt rfl) lv
def eY (c:Template) (d:Int):Option (Formula×Int):=
 xK (oJ (Template.mk c.size c.rels)) fun f=>
 if (!f) then
  some ((Formula.mk 0 0 ([])),1)
 else
  xK (ck ((c.rels.length:Int) - 1)) fun h=>
  xK (kI d 0 h) fun i=>
  if (!i) then
   some ((Formula.mk 0 0 ([])),2)
  else
   xK (ix c.rels d) fun e=>
   xK (gI 0 e.arity) fun j=>
   some ((Formula.mk e.arity e.arity ([(Atom.mk d j)])),0)
theorem yF {B:Nat→Prop} {t:Template} {d:Int} (r:Formula×Int) (C:eY t d=some r) {f:Value} (e:World) (hN:∀ c,B c→c<e.heap.size) (E:Bo B e (qG 2 xA) f t) (j:xH d):Calls Tryz.prog 50 #[f,xI d] e (Gt B e [] (.v fun p=>.fa (xH r.1.free) <| .fa (xH r.1.vars) <| .fa (xH r.2) <| .st (.tuple #[.agg #[xI r.1.free,xI r.1.vars,p],xI r.2]) fun D=>rl 2 xM 120 p r.1.atoms::D)):=by
 unfold eY at C
 revert r
 refine zI func50 [(0,f),(1,xI d)] (Sep.start hN) fun r=>?_;refine xL ?_;obtain⟨P,rfl,F,h⟩:=xA.o E;refine jX e2 fun _=>dG rfl fun _=>jA 1 rfl (xFa (zY 1 e3 (jB fun z G=>?_)));refine jk (fun H=>aH z G _ aA (xA.m F (H.a h))) (jA 2 rfl (xF (zC (fun _=>?_) (fun _=>?_))))
 ·
  refine xL (qT e5 (bC e3 (jA 1 rfl (nR ?_))));exact j2m (fun H=>(H.nl 2 xM 120).s [0] rfl rfl) (rcA 0 e2) (rt rfl) ⟨_,(show xH 0 by decide),(show xH 0 by decide),(show xH (1) by decide),lv⟩
 refine xL (jA 1 rfl (xY e2 (jb 1 e3 (jL h fun _=>jB fun Q y=>(dA y (jB fun I K=>(jk (fun H=>bN I K _ aA j (show xH (0) by decide) (bD y)) (jA 2 rfl (xF ?_)))))))));refine zC (fun _=>?_) (fun _=>?_)
 ·
  refine xL (qT e5 (bC e3 (jA 1 rfl (nR ?_))));exact j2m (fun H=>(H.nl 2 xM 120).s [0] rfl rfl) (rcA 0 e2) (rt rfl) ⟨_,(show xH 0 by decide),(show xH 0 by decide),(show xH (2) by decide),lv⟩
 refine xEh (xY e2 (jb 1 e3 (jA 1 rfl (jB fun R L=>(jI h L fun _ M=>dH M oV.f0 fun _ A=>iG A fun i=>jA 1 rfl (xN (jA 4 rfl ?_)))))));refine jB fun N O=>(jk (fun H=>uD N O _ aA (show xH (0) by decide) i) (fun _=>?_));refine qT (hone:=(fun H=>oc rfl (oc (H.l 0 rfl).one on))) e5 (jh (fun H=>xM.w j H) (lC (fun H=>El.agg) (fun S=>?_)));refine qT (hone:=(fun H=>oc rfl (oc rfl (oc (H.l 0 rfl).one on)))) e5 (js [1,0,2] rfl ?_);refine bC (hv:=(fun H=>oc rfl (oc rfl (oc (H.l 1 rfl).one on)))) e3 (jA 1 rfl (xP ?_));exact j2m (fun H=>H.s [1] rfl rfl) (rcA 0 e2) (rt rfl) ⟨_,i,i,(show xH (0) by decide),lv⟩
def dO (c:Template):Option (Gadgets×Int):=
 xK (oJ (Template.mk c.size c.rels)) fun e=>
 if (!e) then
  some ((Gadgets.mk ([])),1)
 else
  vC (σ:=(List Formula)) (
   oM (σ:=(List Formula)) (ρ:=Gadgets×Int) (fun (h:Nat) (p:Rel) (f:(List Formula))=>
    xK (eY (Template.mk c.size c.rels) (h:Int)) fun d=>
    xK (ap f ([(Formula.mk d.1.free d.1.vars d.1.atoms)])) fun i=>
    some (.go i)) c.rels 0 []) fun j=>
  some ((Gadgets.mk j),0)
theorem xAd {B:Nat→Prop} {d:Template} (r:Gadgets×Int) (L:dO d=some r) {j:Value} (e:World) (hN:∀ c,B c→c<e.heap.size) (M:Bo B e (qG 2 xA) j d):Calls Tryz.prog 18 #[j] e (Gt B e [] (.v fun A=>.fa (xH r.2) <| .st (.tuple #[.agg #[A],xI r.2]) fun D=>rl 3 xC 72 A r.1.formulas::D)):=by
 unfold dO at L
 revert r
 refine zI func18 [(0,j)] (Sep.start hN) fun r=>?_;refine xL ?_;obtain⟨N,rfl,E,p⟩:=xA.o M;refine jX e2 fun F=>dG rfl fun f=>jA 1 rfl (xO (zY 1 e3 (jB fun K O=>?_)));refine jk (fun H=>aH K O _ aA (xA.m E (H.a p))) (jA 1 rfl (xF (zC (fun _=>?_) (fun _=>?_))))
 ·
  refine xL (qT e5 (bC e3 (jA 1 rfl (xT ?_))));exact j2m (fun H=>(H.nl 3 xC 72).s [0] rfl rfl) (rcA 0 e2) (rt rfl) ⟨_,(show xH (1) by decide),lv⟩
 refine oY (qT e5 (dG rfl fun h=>bC e3 (xO (xY e2 (jb 2 e3 (jL p fun G=>jA 1 rfl (xF ?_)))))));refine zX (fun P=>.v fun t=>.st [(2,xU f),(4,xU h)] [rl 3 xC 72 t P,bx h [t] 30,bx f [cL] 30]) ?_ (fun _ t=>?_)
 ·
  refine eD (jh (fun H=>H.nl 3 xC 72) ?_);refine jl (fun I C=>.v fun y=>.st [(16,xI (I:Int)),(1,xU F),(2,xU f),(4,xU h),(15,xI (d.rels.length:Int))] [rl 3 xC 72 y C,bx h [y] 30,bx f [cL] 30,bx F [xI d.size,N] 26]) ⟨_,ls⟩ (fun _ C _ Q y=>?_) (fun I _ _ i _ _=>?_)
  ·
   have z:=qC Q;refine xL (jA 1 rfl (xV (gR z (xS (js [0,1,2] rfl ?_)))));exact jf ⟨_,ls⟩
  have z:=xW i;refine xL (jA 1 rfl (xV (gN z (qD ?_))));have j1:=jZ (Nat.le_of_lt i) G;have R:=vK i G;refine kE (jA 2 rfl (xN (zY 3 e3 (jA 1 rfl (jB fun S T=>?_)))));refine jk (fun H=>yF S T _ aA (xA.m E (H.a p)) j1) fun X U V _=>jA 3 rfl (dG rfl (fun _=>?_));refine bC (hv:=(fun H=>oc rfl (oc rfl (oc (H.l 1 rfl).one on)))) e3 (jA 1 rfl (tH (xY e2 (jb 3 e3 (zY 0 e3 (js [1,0,2,3,4,5] rfl (jh (fun H=>xC.w U V H) (lC (fun H=>El.agg) fun _=>jB fun Y W=>(js [2,0,1,3,4,5] rfl ?_)))))))));refine jPL W fun Z=>xY e2 (js [2,0,1,3,4] rfl (jW (hv:=(fun H=>(H.l 1 rfl).one)) e3 (zQ (oQ R (jA 1 rfl (xF (js [1,0,3,4] rfl ?_)))))));exact jg ⟨_,ls⟩
 refine qQ (zY 1 e3 (js [2,0,1] rfl ?_));refine bC (hv:=(fun H=>oc (H.l 1 rfl).one on)) e3 (jA 1 rfl (xP ?_));exact j2m (fun H=>H.s [1] rfl rfl) (rcA 0 e2) (rt rfl) ⟨_,(show xH (0) by decide),lv⟩
def sC (c:Int):Option Int:=
 some c
theorem xDc {B:Nat→Prop} {d:Int} (r:Int) (h:sC d=some r)  (e:World) (hN:∀ c,B c→c<e.heap.size) (f:xH d):Calls Tryz.prog 106 #[xI d] e (Gt B e [] (.fa (xH r) <| .st (xI r) fun D=>D)):=by
 unfold sC at h
 revert r
 refine zI func106 [(0,xI d)] (Sep.start hN) fun r=>?_;refine xL (jA 1 rfl (xN (jA 2 rfl (xP ?_))));exact zB (rt rfl) ⟨f,lv⟩
def dT (c:Int) (d:Formula) (e:Atom) (f:Int):Option Int:=
 if (decide (c<d.free)) then
  xK (ix e.args c) fun h=>
  some h
 else
  xK (ck (c+f)) fun i=>
  some i
theorem rM {B:Nat→Prop} {e:Int} {j:Formula} {p:Atom} {t:Int} (r:Int) (A:dT e j p t=some r) {f:Value} {h:Value} {i:Value} (d:World) (hN:∀ c,B c→c<d.heap.size) (M:xH e) (C:Bo B d (Pt 3 xC) f j) (E:Bo B d (Pt 2 xM) h p) (F:Bo B d (Pt 1 xG) i t):Calls Tryz.prog 107 #[xI e,f,h,i] d (Gt B d [] (.fa (xH r) <| .st (xI r) fun D=>D)):=by
 unfold dT at A
 revert r
 refine zI func107 [(0,xI e),(1,f),(2,h),(3,i)] (Sep.start hN) fun r=>?_;refine xL (jA 1 rfl (xO (jA 1 rfl (dH C xC.f0 fun _ G=>iG G fun _=>jA 1 rfl (xF (zC (fun _=>?_) (fun _=>?_)))))))
 ·
  refine xL (dH E xM.f1 fun _ z=>iI z fun _ H=>jA 1 rfl (jB fun N I=>(jI H I fun _ K=>iG K fun L=>jA 1 rfl (xT ?_))));exact zB (rt rfl) ⟨L,lv⟩
 refine oY (jA 1 rfl (iG F fun _=>jB fun O y=>(lY y (jA 1 rfl (xP ?_)))));exact zB (rt rfl) ⟨(bD y),lv⟩
def iJ (c:Formula):Option (Formula×Int):=
 vC (σ:=Bool) (
  if (decide (8<c.vars)) then  some (.nx true) else  some (.nx (decide (16<(c.atoms.length:Int))))) fun d=>
 if d then
  some ((Formula.mk 0 0 ([])),3)
 else
  some ((Formula.mk c.free c.vars c.atoms),0)
theorem xFf {B:Nat→Prop} {d:Formula} (r:Formula×Int) (z:iJ d=some r) {e:Value} {i:List Nat} (f:World) (hN:∀ c,B c→c<f.heap.size) (A:Sep i B f f [rl 2 xM 120 e d.atoms]) (t:xH d.free) (y:xH d.vars):Calls Tryz.prog 108 #[(.agg #[xI d.free,xI d.vars,e])] f (Gt B f i (.v fun h=>.fa (xH r.1.free) <| .fa (xH r.1.vars) <| .fa (xH r.2) <| .st (.tuple #[.agg #[xI r.1.free,xI r.1.vars,h],xI r.2]) fun D=>rl 2 xM 120 h r.1.atoms::D)):=by
 unfold iJ at z
 revert r
 refine zI func108 [(0,(.agg #[xI d.free,xI d.vars,e]))] A fun r=>?_;refine xL (jX e2 fun j=>dG rfl fun p=>jA 1 rfl (bS ?_));refine zX (fun C=>.st [(1,xU j),(2,xU p),(12,.bool C)] [bx p [xI 0,xI 0,cL] 72,bx j [xI d.free,xI d.vars,e] 72,rl 2 xM 120 e d.atoms]) ?_ (fun _=>?_)
 ·
  refine a_g (xY e2 (jb 1 e3 (jA 2 rfl (dP 7 (fun _=>?_) (fun _=>?_)))))
  ·
   refine jA 5 rfl (xF ?_);exact jf ls
  refine xY e2 (jb 1 e3 (jLc (fun H=>H.l 2 rfl) fun _=>jA 2 rfl (xF ?_)));exact jf ls
 refine dI (zC (fun _=>?_) (fun _=>?_))
 ·
  refine xL (qT e5 (bC e3 (jA 1 rfl (xT ?_))));exact j2m (fun H=>(H.nl 2 xM 120).s [0] rfl rfl) (rcA 0 e2) (rt rfl) ⟨_,(show xH 0 by decide),(show xH 0 by decide),(show xH (3) by decide),lv⟩
 refine oY (zY 1 e3 ?_);refine bC (hv:=(fun H=>oc rfl (oc rfl (oc (H.l 2 rfl).one on)))) e3 (jA 1 rfl (xP ?_));exact j2m (fun H=>H.s [2] rfl rfl) (rcA 0 e2) (rt rfl) ⟨_,t,y,(show xH (0) by decide),lv⟩
def eM (f:Formula) (p:Gadgets):Option (Formula×Int):=
 vC (σ:=Int×(List Atom)) (
  oM (σ:=Int×(List Atom)) (ρ:=Formula×Int) (fun (G:Nat) (d:Atom) (s:Int×(List Atom))=>
    match s with
    | (h,j)=>
    if (d.rel==(-1)) then
     xK (zP ([(Atom.mk d.rel d.args)]) (fun i=>sC i)) fun t=>
     xK (ap j t) fun y=>
     some (.go (h,y))
    else
     xK (ix p.formulas d.rel) fun c=>
     xK (ck (h - c.free)) fun z=>
     xK (zP c.atoms (fun i=>dT i (Formula.mk c.free c.vars c.atoms) (Atom.mk d.rel d.args) z)) fun A=>
     xK (ap j A) fun B=>
     xK (ck (c.vars - c.free)) fun C=>
     xK (ck (h+C)) fun D=>
     some (.go (D,B))) f.atoms 0 (f.vars,[])) fun(E,F)=>
 xK (iJ (Formula.mk f.free E F)) fun e=>
 some ((Formula.mk e.1.free e.1.vars e.1.atoms),e.2)
theorem xDv {B:Nat→Prop} {e:Formula} {x1:Gadgets} (r:Formula×Int) (hR:eM e x1=some r) {Q:Value} {R:Value} (E:World) (hN:∀ c,B c→c<E.heap.size) (A0:Bo B E (qG 3 xC) Q e) (A1:Bo B E (qG 1 xJ) R x1):Calls Tryz.prog 51 #[Q,R] E (Gt B E [] (.v fun a1=>.fa (xH r.1.free) <| .fa (xH r.1.vars) <| .fa (xH r.2) <| .st (.tuple #[.agg #[xI r.1.free,xI r.1.vars,a1],xI r.2]) fun D=>rl 2 xM 120 a1 r.1.atoms::D)):=by
 unfold eM at hR
 revert r
 refine zI func51 [(0,Q),(1,R)] (Sep.start hN) fun r=>?_;refine xL ?_;obtain⟨N,rfl,i1,i2,h1⟩:=xC.o A0;refine jX e2 (fun _=>?_);obtain⟨M,rfl,h2⟩:=xJ.o A1;refine jX e2 fun t=>dG rfl fun i=>jA 1 rfl (xN (xY e2 (jb 2 e3 (xY e2 (jb 2 e3 (qT e5 (dG rfl fun j=>bC e3 ?_)))))));refine xO (xY e2 (jb 3 e3 (jL h1 fun i3=>jA 1 rfl (xF ?_))));refine zX (fun(S,s2)=>.v fun T=>.fa (xH S) <| .st [(4,xU i),(6,xU j)] [rl 2 xM 120 T s2,bx j [xI e.free,xI S,T] 72,bx i [xI 0,xI 0,cL] 72]) ?_ (fun(S,s2) T i4=>?_)
 ·
  refine eD (jh (fun H=>H.nl 2 xM 120) (js [0,1,2,3] rfl ?_));refine jl (fun G (y,z)=>.v fun d=>.fa (xH y) <| .st [(19,xI (G:Int)),(3,xU t),(4,xU i),(6,xU j),(17,N),(18,xI (e.atoms.length:Int))] [rl 2 xM 120 d z,bx j [xI e.free,xI y,d] 72,bx i [xI 0,xI 0,cL] 72,bx t [M] 30]) ⟨_,i2,ls⟩ (fun _ (y,z) _ q1 d U=>?_) (fun G x2 (y,z) P y1 d U=>?_)
  ·
   have V:=qC q1;refine xL (jA 1 rfl (xV (gR V (xS (js [0,1,2] rfl ?_)))));exact jf ⟨_,U,ls⟩
  have V:=xW P;refine xL (jA 1 rfl (xV (gN V (qD ?_))));have j1:=jZ (Nat.le_of_lt P) i3;have m1:=vK P i3;refine kE (jI h1 y1 fun _ h3=>jlA h3 fun _ h4=>dG rfl (fun _=>?_));obtain⟨v5,rfl,O,I⟩:=xM.o h4;refine bC (hv:=(fun H=>oc rfl (oc (H.a I).one on))) e3 (xO (xY e2 (jb 0 e3 (jA 1 rfl (xF (zC (fun _=>?_) (fun _=>?_)))))))
  ·
   refine a_s (jB fun X c1=>(jB fun z2 c2=>(lA fun w1 X1 N2 a2 g1 _ C _=>?_)));have K1:=g1.bk;refine jD ?_;refine jdp (f:=3) (ls:=#[true,true,true,true,true,false,false,false]) (.v fun v6=>.st [(3,xU t),(4,xU i),(6,xU j),(17,N),(18,xI (e.atoms.length:Int)),(19,xI (G:Int)),(27,d),(30,v6)] [rl 2 xM 120 v6 X,rl 2 xM 120 d z,bx j [xI e.free,xI y,d] 72,bx i [xI 0,xI 0,cL] 72,bx t [M] 30]) (fun _=>?_) (fun H1=>?_)
   ·
    refine jE 5 rfl (js [1,0,2,3,4] rfl (jPL c2 fun v7=>kK (fZ 6 rfl e2 (jE 7 rfl (js [1,0,2,3] rfl (jW (hv:=(fun H=>(H.l 1 rfl).one)) e3 (kK (jbe (xUs ?_)))))))));refine oQ m1 (jA 1 rfl (xF (dL C (js [2,1,3,4] rfl ?_))));exact jg ⟨_,U,ls⟩
   refine jdp (f:=4) (ls:=#[true,true,true,true,false,false,false,false]) (.v fun v8=>.st [(3,xU t),(4,xU i),(6,xU j),(17,N),(18,xI (e.atoms.length:Int)),(19,xI (G:Int)),(27,d),(29,v8)] [rw B 2 xM 120 v8 ([(Atom.mk x2.rel x2.args)]),rl 2 xM 120 d z,bx j [xI e.free,xI y,d] 72,bx i [xI 0,xI 0,cL] 72,bx t [M] 30]) (fun _=>?_) (fun H2=>?_)
   ·
    refine jE 4 rfl (jk (fun H=>gY X c1 _ aA (H.r 0 rfl) call106 (fun Y r h W p f0=>xDc r h W aA f0)) fun v9=>kK (js [0,2,3,4,5] rfl ?_));exact H1 ⟨_,ls⟩
   refine fZ 0 rfl e2 (wD 2 rfl K1 e2 (jV (fun H=>H) 1 3 rfl rfl ?_ ?_))
   ·
    refine jb 1 e3 (kK (jE 3 rfl ?_));refine jR1 (N1:=B) (fun c h=>(C.2.2 c h)) (fun H=>Eo.agg (xM.m O (Bo.to I (a2.trans (Sm.mono H.sm C.2.2))))) fun be=>kK ?_;exact H2 ⟨_,ls⟩
   refine jR1 (N1:=B) (fun c h=>(C.2.2 c h)) (fun H=>Eo.agg (xM.m O (Bo.to I (a2.trans (Sm.mono H.sm C.2.2))))) fun bf=>kK (jV (fun H=>H) 1 4 rfl rfl ?_ ?_)
   ·
    refine jb 2 e3 (kK ?_);exact H2 ⟨_,ls⟩
   refine jk (fun H=>gY X c1 _ aA (H.r 0 rfl) call106 (fun Y r h W p f0=>xDc r h W aA f0)) fun bg=>kK (jE 1 rfl (jb 3 e3 (kK (js [0,2,3,4,5] rfl ?_))));exact H1 ⟨_,ls⟩
  refine oY (xY e2 (jb 4 e3 (xY e2 (jb 0 e3 (jB fun z3 c3=>(jI h2 c3 fun _ h6=>jlA h6 fun _ h7=>dG rfl (fun b4=>?_)))))));obtain⟨bh,rfl,i7,i8,K⟩:=xC.o h7;refine bC (hv:=(fun H=>oc rfl (oc rfl (oc (H.a K).one on)))) e3 (xN (xY e2 (jb 3 e3 (xY e2 (jb 0 e3 (jB fun z4 Z=>(dA Z (dG rfl fun _=>jW e3 (xV ?_)))))))));refine jB fun z5 c5=>(jB fun z6 c6=>(js [1,0,2,3,4,5,6] rfl (lA fun w2 X2 N3 _ g2 A ak _=>?_)));have L:=g2.bk;refine jD ?_;refine jdp (f:=3) (ls:=#[true,true,true,true,true,true,false,false,false]) (.v fun a3=>.st [(3,xU t),(4,xU i),(6,xU j),(9,xU b4),(17,N),(18,xI (e.atoms.length:Int)),(19,xI (G:Int)),(45,d),(49,a3)] [rl 2 xM 120 a3 z5,rl 2 xM 120 d z,bx j [xI e.free,xI y,d] 72,bx i [xI 0,xI 0,cL] 72,bx t [M] 30]) (fun _=>?_) (fun H3=>?_)
  ·
   refine jE 6 rfl (js [1,0,2,3,4] rfl (jPL c6 fun bi=>kK (fZ 7 rfl e2 (jE 8 rfl (js [1,0,2,3] rfl (jW (hv:=(fun H=>(H.l 1 rfl).one)) e3 (kK (jbe (xQp ?_)))))))));refine xY e2 (jb 0 e3 (xY e2 (jbK L e2 (xY e2 (jbK L e2 (jB fun z7 c7=>(dA c7 (jB fun z8 c8=>(lY c8 (xY e2 ?_))))))))));refine jW e3 (zQ (oQ m1 (jA 1 rfl (xF (dL ak (js [2,1,3,4] rfl ?_))))));exact jg ⟨_,(bD c8),ls⟩
  refine fZ 0 rfl e2 (fZ 2 rfl e2 (jvb 3 rfl L e2 (jvv 4 rfl (fun F H w l=>xNu F rfl rfl) (jV (fun H=>H) 1 5 rfl rfl ?_ ?_))))
  ·
   refine jb 3 e3 (kK (jE 5 rfl (jk (fun H=>gY z5 c5 _ aA (H.a (A K)) call107 (fun Y r h W p f0=>rM r h W aA f0 ((xC.b (Bk.of (L.o H.sm)) i7 i8 (H.a (A K))).w p) ((xM.b (H.g 1 rfl).bk O (H.a (A I))).w p) ((c1I (H.g 0 rfl).bk (bD Z)).w p))) fun bj=>kK (js [0,3,4,5,6] rfl ?_))));exact H3 ⟨_,ls⟩
  refine jk (fun H=>gY z5 c5 _ aA (H.a (A K)) call107 (fun Y r h W p f0=>rM r h W aA f0 ((xC.b (Bk.of (L.o H.sm)) i7 i8 (H.a (A K))).w p) ((xM.b (H.g 1 rfl).bk O (H.a (A I))).w p) ((c1I (H.g 0 rfl).bk (bD Z)).w p))) fun bm=>kK (jE 1 rfl (jb 4 e3 (kK (js [0,3,4,5,6] rfl ?_))));exact H3 ⟨_,ls⟩
 refine qQ (zY 1 e3 (jB fun z9 c9=>(jko 1 (fun K3 H=>xFf z9 c9 _ H.hN K3 i1 i4) fun bn i9 al am=>jA 2 rfl (js [2,0,1] rfl ?_))));refine bC (hv:=(fun H=>oc rfl (oc rfl (oc (H.l 1 rfl).one on)))) e3 (jA 1 rfl (xP ?_));exact j2m (fun H=>H.s [1] rfl rfl) (rcA 0 e2) (rt rfl) ⟨_,i9,al,am,lv⟩
def zW (N:Nat) (f d h:Template) (i j:Gadgets):Option (Gadgets×Int):=
 vC (σ:=Bool) (
  xK (qU N (Template.mk f.size f.rels) (Template.mk d.size d.rels) (Gadgets.mk i.formulas)) fun p=>
  if (!p) then  some (.nx true) else  xK (qU N (Template.mk d.size d.rels) (Template.mk h.size h.rels) (Gadgets.mk j.formulas)) fun t=>
   some (.nx (!t))) fun y=>
 if y then
  some ((Gadgets.mk ([])),1)
 else
  vC (σ:=(List Formula)) (
   oM (σ:=(List Formula)) (ρ:=Gadgets×Int) (fun (C:Nat) (e:Formula) (z:(List Formula))=>
    xK (eM (Formula.mk e.free e.vars e.atoms) (Gadgets.mk j.formulas)) fun c=>
    if (c.2 != 0) then
     some (.ret ((Gadgets.mk ([])),c.2))
    else
     xK (ap z ([(Formula.mk c.1.free c.1.vars c.1.atoms)])) fun A=>
     some (.go A)) i.formulas 0 []) fun B=>
  some ((Gadgets.mk B),0)
theorem lX {B:Nat→Prop} {N:Nat} {K L M:Template} {p O:Gadgets} (r:Gadgets×Int) (Z:zW N K L M p O=some r) {t:Value} {y:Value} {z:Value} {A:Value} {C:Value} (d:World) (hN:∀ c,B c→c<d.heap.size) (A0:Bo B d (qG 2 xA) t K) (A1:Bo B d (qG 2 xA) y L) (A2:Bo B d (qG 2 xA) z M) (A3:Bo B d (qG 1 xJ) A p) (A4:Bo B d (qG 1 xJ) C O):Calls Tryz.prog 19 #[t,y,z,A,C] d (Gt B d [] (.v fun I=>.fa (xH r.2) <| .st (.tuple #[.agg #[I],xI r.2]) fun D=>rl 3 xC 72 I r.1.formulas::D)):=by
 unfold zW at Z
 revert r
 refine zI func19 [(0,t),(1,y),(2,z),(3,A),(4,C)] (Sep.start hN) fun r=>?_;refine xL ?_;obtain⟨v5,rfl,i1,h1⟩:=xA.o A0;refine jX e2 (fun _=>?_);obtain⟨av,rfl,P,Q⟩:=xA.o A1;refine jX e2 (fun _=>?_);obtain⟨v6,rfl,i3,h3⟩:=xA.o A2;refine jX e2 (fun _=>?_);obtain⟨R,rfl,E⟩:=xJ.o A3;refine jX e2 (fun S=>?_);obtain⟨T,rfl,U⟩:=xJ.o A4;refine jX e2 fun f=>dG rfl fun e=>jA 1 rfl (bS ?_);refine zX (fun s1=>.st [(8,xU S),(9,xU f),(10,xU e),(28,.bool s1)] [bx e [cL] 30,bx f [T] 30,bx S [R] 30]) ?_ (fun _=>?_)
 ·
  refine a_g (zY 5 e3 (zY 4 e3 (zY 2 e3 (jB fun z1 c1=>?_))));refine jk (fun H=>cN z1 c1 _ aA (xA.m i1 (H.a h1)) (xA.m P (H.a Q)) (xJ.m (H.a E))) (jA 2 rfl (dP 22 (fun _=>?_) (fun _=>?_)))
  ·
   refine jA 6 rfl (xF (js [0,1,2] rfl ?_));exact jf ls
  refine zY 4 e3 (zY 3 e3 (zY 1 e3 (jB fun z2 c2=>?_)));refine jk (fun H=>cN z2 c2 _ aA (xA.m P (H.a Q)) (xA.m i3 (H.a h3)) (xJ.m (H.a U))) (jA 2 rfl (xF (js [0,1,2] rfl ?_)));exact jf ls
 refine dI (zC (fun _=>?_) (fun _=>?_))
 ·
  refine xL (qT e5 (bC e3 (jA 1 rfl (xT ?_))));exact j2m (fun H=>(H.nl 3 xC 72).s [0] rfl rfl) (rcA 0 e2) (rt rfl) ⟨_,(show xH (1) by decide),lv⟩
 refine oY (qT e5 (dG rfl fun h=>bC e3 (xO (xY e2 (jb 3 e3 (jL E fun V=>jA 1 rfl (xF ?_)))))));refine zX (fun s2=>.v fun F=>.st [(10,xU e),(12,xU h)] [rl 3 xC 72 F s2,bx h [F] 30,bx e [cL] 30]) ?_ (fun _ F=>?_)
 ·
  refine eD (jh (fun H=>H.nl 3 xC 72) (js [0,1,2,3] rfl ?_));refine jl (fun W X=>.v fun i=>.st [(34,xI (W:Int)),(9,xU f),(10,xU e),(12,xU h),(32,R),(33,xI (p.formulas.length:Int))] [rl 3 xC 72 i X,bx h [i] 30,bx e [cL] 30,bx f [T] 30]) ⟨_,ls⟩ (fun _ X _ q1 i=>?_) (fun W x5 _ j y1 _=>?_)
  ·
   have G:=qC q1;refine xL (jA 1 rfl (xV (gR G (xS (js [0,1,2] rfl ?_)))));exact jf ⟨_,ls⟩
  have G:=xW j;refine xL (jA 1 rfl (xV (gN G (qD ?_))));have j1:=jZ (Nat.le_of_lt j) V;have m1:=vK j V;refine kE (jI E y1 fun _ h6=>jlA h6 fun _ h7=>dG rfl (fun _=>?_));obtain⟨aw,rfl,i5,i6,Y⟩:=xC.o h7;refine bC (hv:=(fun H=>oc rfl (oc rfl (oc (H.a Y).one on)))) e3 (xN (zY 0 e3 (zY 4 e3 (jB fun z3 c3=>?_))));refine jk (fun H=>xDv z3 c3 _ aA (xC.m i5 i6 (H.a Y)) (xJ.m (H.a U))) fun ax i7 i8 i9=>jA 3 rfl (dG rfl (fun _=>?_));refine bC (hv:=(fun H=>oc rfl (oc rfl (oc (H.l 1 rfl).one on)))) e3 (jA 1 rfl (xO (jA 2 rfl (xF (zC (fun _=>?_) (fun _=>?_))))))
  ·
   refine xL (qT e5 (jA 1 rfl (js [5,0,1,2,3,4,6] rfl (bC e3 (jA 1 rfl (pF (jrt (eX (jrj (a_R ?_))))))))));exact j2m (fun H=>(H.nl 3 xC 72).s [0] rfl rfl) (rcA 0 e2) (rt rfl) ⟨_,i9,lv⟩
  refine xLu (xY e2 (jb 4 e3 (zY 0 e3 (js [1,0,2,3,4,5,6] rfl (jh (fun H=>xC.w i7 i8 H) (lC (fun H=>El.agg) fun _=>jB fun z4 c4=>(js [3,0,1,2,4,5,6] rfl (jPL c4 fun ay=>xY e2 ?_))))))));refine js [3,0,1,2,4,5] rfl (jW (hv:=(fun H=>(H.l 1 rfl).one)) e3 (zQ (oQ m1 (jA 1 rfl (xF (js [1,0,4,5] rfl ?_))))));exact jg ⟨_,ls⟩
 refine qQ (zY 1 e3 (js [2,0,1] rfl ?_));refine bC (hv:=(fun H=>oc (H.l 1 rfl).one on)) e3 (jA 1 rfl (xP ?_));exact j2m (fun H=>H.s [1] rfl rfl) (rcA 0 e2) (rt rfl) ⟨_,(show xH (0) by decide),lv⟩
def fC (c:Template) (d:Int):Option (Formula×Int):=
 xK (vR (Template.mk c.size c.rels)) fun f=>
 if (!f) then
  some ((Formula.mk 0 0 ([])),1)
 else
  xK (ck ((c.rels.length:Int) - 1)) fun h=>
  xK (cH d 0 h) fun i=>
  if (!i) then
   some ((Formula.mk 0 0 ([])),2)
  else
   xK (ix c.rels d) fun e=>
   xK (eL e.arity) fun j=>
   some ((Formula.mk e.arity e.arity ([(Atom.mk d j)])),0)
theorem yX {B:Nat→Prop} {t:Template} {d:Int} (r:Formula×Int) (C:fC t d=some r) {f:Value} (e:World) (hN:∀ c,B c→c<e.heap.size) (E:Bo B e (qG 2 xA) f t) (j:xH d):Calls Tryz.prog 53 #[f,xI d] e (Gt B e [] (.v fun p=>.fa (xH r.1.free) <| .fa (xH r.1.vars) <| .fa (xH r.2) <| .st (.tuple #[.agg #[xI r.1.free,xI r.1.vars,p],xI r.2]) fun D=>rl 2 xM 120 p r.1.atoms::D)):=by
 unfold fC at C
 revert r
 refine zI func53 [(0,f),(1,xI d)] (Sep.start hN) fun r=>?_;refine xL ?_;obtain⟨P,rfl,F,h⟩:=xA.o E;refine jX e2 fun _=>dG rfl fun _=>jA 1 rfl (xO (jB fun z G=>(jk (fun H=>bF z G _ aA (xA.b (H.g 1 rfl).bk F (H.a h))) (jA 1 rfl (xF (zC (fun _=>?_) (fun _=>?_)))))))
 ·
  refine xL (qT e5 (bC e3 (jA 1 rfl (xT ?_))));exact j2m (fun H=>(H.nl 2 xM 120).s [0] rfl rfl) (rcA 0 e2) (rt rfl) ⟨_,(show xH 0 by decide),(show xH 0 by decide),(show xH (1) by decide),lv⟩
 refine kZ (jA 1 rfl (xY e2 (jb 1 e3 (jL h fun _=>jB fun Q y=>(dA y (jB fun I K=>(jk (fun H=>cT I K _ aA j (show xH (0) by decide) (bD y)) (jA 1 rfl (xF ?_)))))))));refine zC (fun _=>?_) (fun _=>?_)
 ·
  refine xL (qT e5 (bC e3 (jA 1 rfl (xT ?_))));exact j2m (fun H=>(H.nl 2 xM 120).s [0] rfl rfl) (rcA 0 e2) (rt rfl) ⟨_,(show xH 0 by decide),(show xH 0 by decide),(show xH (2) by decide),lv⟩
 refine oY (xY e2 (jb 1 e3 (jA 1 rfl (jB fun R L=>(jI h L fun _ M=>dH M oV.f0 fun _ A=>iG A fun i=>jA 1 rfl (xN (jA 4 rfl ?_)))))));refine jB fun N O=>(jk (fun H=>tG N O _ aA i) (fun _=>?_));refine qT (hone:=(fun H=>oc rfl (oc (H.l 0 rfl).one on))) e5 (jh (fun H=>xM.w j H) (lC (fun H=>El.agg) (fun S=>?_)));refine qT (hone:=(fun H=>oc rfl (oc rfl (oc (H.l 0 rfl).one on)))) e5 (js [1,0,2] rfl ?_);refine bC (hv:=(fun H=>oc rfl (oc rfl (oc (H.l 1 rfl).one on)))) e3 (jA 1 rfl (xP ?_));exact j2m (fun H=>H.s [1] rfl rfl) (rcA 0 e2) (rt rfl) ⟨_,i,i,(show xH (0) by decide),lv⟩
def dV (c:Template):Option (Gadgets×Int):=
 xK (vR (Template.mk c.size c.rels)) fun e=>
 if (!e) then
  some ((Gadgets.mk ([])),1)
 else
  vC (σ:=(List Formula)) (
   oM (σ:=(List Formula)) (ρ:=Gadgets×Int) (fun (f:Nat) (p:Rel) (h:(List Formula))=>
    xK (fC (Template.mk c.size c.rels) (f:Int)) fun d=>
    xK (ap h ([(Formula.mk d.1.free d.1.vars d.1.atoms)])) fun i=>
    some (.go i)) c.rels 0 []) fun j=>
  some ((Gadgets.mk j),0)
theorem xAs {B:Nat→Prop} {j:Template} (r:Gadgets×Int) (L:dV j=some r) {p:Value} (d:World) (hN:∀ c,B c→c<d.heap.size) (M:Bo B d (qG 2 xA) p j):Calls Tryz.prog 20 #[p] d (Gt B d [] (.v fun A=>.fa (xH r.2) <| .st (.tuple #[.agg #[A],xI r.2]) fun D=>rl 3 xC 72 A r.1.formulas::D)):=by
 unfold dV at L
 revert r
 refine zI func20 [(0,p)] (Sep.start hN) fun r=>?_;refine xL ?_;obtain⟨N,rfl,C,e⟩:=xA.o M;refine jX e2 fun E=>dG rfl fun f=>jA 1 rfl (xO (jB fun K O=>(jk (fun H=>bF K O _ aA (xA.b (H.g 1 rfl).bk C (H.a e))) (jA 1 rfl (xF (zC (fun _=>?_) (fun _=>?_)))))))
 ·
  refine xL (qT e5 (bC e3 (jA 1 rfl (xT ?_))));exact j2m (fun H=>(H.nl 3 xC 72).s [0] rfl rfl) (rcA 0 e2) (rt rfl) ⟨_,(show xH (1) by decide),lv⟩
 refine oY (qT e5 (dG rfl fun h=>bC e3 (xO (jA 1 rfl (xF ?_)))));refine zX (fun P=>.v fun t=>.st [(2,xU f),(4,xU h)] [rl 3 xC 72 t P,bx h [t] 30,bx f [cL] 30]) ?_ (fun _ t=>?_)
 ·
  refine eD (jh (fun H=>H.nl 3 xC 72) ?_);refine jl (fun F G=>.v fun y=>.st [(5,xI (F:Int)),(1,xU E),(2,xU f),(4,xU h)] [rl 3 xC 72 y G,bx h [y] 30,bx f [cL] 30,bx E [xI j.size,N] 26]) ⟨_,ls⟩ (fun _ G _ Q y=>?_) (fun F _ _ i _ _=>?_)
  ·
   have z:=qC Q;refine oH (jA 1 rfl (xY e2 (jb 3 e3 (jL e fun _=>jA 1 rfl (xF (gR z (xS (js [0,1,2] rfl ?_))))))));exact jf ⟨_,ls⟩
  have z:=xW i;refine oH (jA 1 rfl (xY e2 (jb 3 e3 (jL e fun I=>jA 1 rfl (xF (gN z (qD ?_)))))));have j1:=jZ (Nat.le_of_lt i) I;have R:=vK i I;refine kE (zY 3 e3 (jA 1 rfl (jB fun S T=>?_)));refine jk (fun H=>yX S T _ aA (xA.m C (H.a e)) j1) fun X U V _=>jA 3 rfl (dG rfl (fun _=>?_));refine bC (hv:=(fun H=>oc rfl (oc rfl (oc (H.l 1 rfl).one on)))) e3 (jA 1 rfl (tH (xY e2 (jb 3 e3 (zY 0 e3 (js [1,0,2,3,4,5] rfl (jh (fun H=>xC.w U V H) (lC (fun H=>El.agg) fun _=>jB fun Y W=>(js [2,0,1,3,4,5] rfl ?_)))))))));refine jPL W fun Z=>xY e2 (js [2,0,1,3,4] rfl (jW (hv:=(fun H=>(H.l 1 rfl).one)) e3 (zQ (jA 1 rfl (oQ R (jA 1 rfl (xF (js [1,0,3,4] rfl ?_))))))));exact jg ⟨_,ls⟩
 refine qQ (zY 1 e3 (js [2,0,1] rfl ?_));refine bC (hv:=(fun H=>oc (H.l 1 rfl).one on)) e3 (jA 1 rfl (xP ?_));exact j2m (fun H=>H.s [1] rfl rfl) (rcA 0 e2) (rt rfl) ⟨_,(show xH (0) by decide),lv⟩
def eJ (d:Template) (c:Con) (e:List Int):Option Bool:=
 xK (ix d.rels c.rel) fun f=>
 xK (gT e c.scope) fun h=>
 xK (cW f h) fun i=>
 some i
theorem tU {B:Nat→Prop} {j:Template} {p:Con} {t:List Int} (r:Bool) (A:eJ j p t=some r) {f:Value} {h:Value} {i:Value} (d:World) (hN:∀ c,B c→c<d.heap.size) (y:Bo B d (Pt 2 xA) f j) (e:Bo B d (Pt 2 oU) h p) (C:Bo B d (Sl 1 xG) i t):Calls Tryz.prog 119 #[f,h,i] d (Gt B d [] (.st (.bool r) fun D=>D)):=by
 unfold eJ at A
 revert r
 refine zI func119 [(0,f),(1,h),(2,i)] (Sep.start hN) fun r=>?_;refine xL (jA 1 rfl (xV (jB fun Q E=>(jB fun F G=>(jB fun I z=>(jD (jvA [0] rfl (jvN 1 rfl y (xEp 2 rfl y xA.f1 fun _ K=>xLl 3 rfl K (fun _ L=>?_))))))))));refine jvA [4] rfl (jvN 5 rfl e (xEp 6 rfl e oU.f0 fun _ M=>xMg 7 rfl M fun _=>jvI 8 rfl L E fun _ N=>jvA [9,10] rfl (jvN 11 rfl e (xEp 12 rfl e oU.f1 fun _ O=>xLl 13 rfl O fun _ P=>jE 14 rfl (jk (fun H=>sS F G _ aA (H.a C) (H.a P)) (fun _=>?_))))));refine kK (jE 15 rfl (jk (fun H=>wT I z _ aA (H.a N) (H.l 0 rfl)) (kK (jvA [16] rfl (jbe (jY ?_))))));exact zB (rt rfl) lv
def vU (c:l05Find) (d:List Int):Option Bool:=
 xK (ck ((d.length:Int) - 1)) fun f=>
 vC (σ:=Unit) (
  oM (σ:=Unit) (ρ:=Bool) (fun (A:Nat) (e:Con) (s:Unit)=>
    match s with
    | _=>
    vC (σ:=Int) (
     oM (σ:=Int) (ρ:=(Ctl (Unit) Bool)) (fun (B:Nat) (h i:Int)=>
      xK (bT i h) fun j=>
      some (.go j)) e.scope 0 0) fun p=>
    vC (σ:=Bool) (
     if (p==f) then  xK (eJ c.t e d) fun y=>
      some (.nx (!y)) else  some (.nx false)) fun z=>
    if z then
     some (.ret false)
    else
     some (.go ())) c.x.cons 0 ()) fun _=>
 some true
theorem nK {B:Nat→Prop} {I:l05Find} {K:List Int} (r:Bool) (hR:vU I K=some r) {f:Value} {h:Value} (i:World) (hN:∀ c,B c→c<i.heap.size) (d:Bo B i (Pt 5 vO) f I) (L:Bo B i (Sl 1 xG) h K):Calls Tryz.prog 126 #[f,h] i (Gt B i [] (.st (.bool r) fun D=>D)):=by
 unfold vU at hR
 revert r
 refine zI func126 [(0,f),(1,h)] (Sep.start hN) fun r=>?_;refine xL (jA 1 rfl (xN (jA 1 rfl (jL L fun _=>jB fun p c1=>(dA c1 (jA 1 rfl (xO (jA 1 rfl (xF ?_)))))))));refine zX (fun _=>.st [] []) ?_ (fun _=>?_)
 ·
  refine eD (jl (fun j _=>.st [(6,xI (j:Int)),(0,f),(1,h),(5,xI p)] []) ls (fun _ _ _ q1=>?_) (fun j x2 _ t y1=>?_))
  ·
   have z:=qC q1;refine oH (jA 2 rfl (jN d (dH d vO.f1 fun _ h1=>jlP h1 fun _ M=>jN M (dH M xB.f1 fun _ h3=>iI h3 fun _ h4=>jL h4 fun _=>jA 1 rfl (xF ?_)))));refine gR z (xS ?_);exact jf ls
  have z:=xW t;refine oH (jA 2 rfl (jN d (dH d vO.f1 fun _ h5=>jlP h5 fun _ N=>jN N (dH N xB.f1 fun _ h7=>iI h7 fun _ h8=>jL h8 fun O=>jA 1 rfl (xF ?_)))));refine gN z (qD ?_);have j1:=jZ (Nat.le_of_lt t) O;have m1:=vK t O;refine kE (jA 1 rfl (jN d (dH d vO.f1 fun _ h9=>jlP h9 fun _ G=>jN G (dH G xB.f1 fun _ S=>iI S fun _ T=>jA 1 rfl (jI T y1 fun P e=>jA 1 rfl ?_)))));refine xN (jA 1 rfl (xO (jA 1 rfl (xF (zX (fun A=>.fa (xH A) <| .st [(0,f),(1,h),(5,xI p),(6,xI (j:Int)),(7,P),(8,xI A)] []) ?_ (fun A _=>?_))))))
  ·
   refine eD ?_;refine jl (fun Q C=>.fa (xH C) <| .st [(9,xI (Q:Int)),(0,f),(1,h),(5,xI p),(6,xI (j:Int)),(7,P),(8,xI C)] []) ⟨(show xH (0) by decide),ls⟩ (fun _ C _ q2 E=>?_) (fun Q _ _ y y2 E=>?_)
   ·
    have F:=qC q2;refine oH (jA 2 rfl (jN e (dH e oU.f1 fun _ U=>iI U fun _ V=>jL V fun _=>jA 1 rfl (xF (gR F (xS ?_))))));exact jf ⟨E,ls⟩
   have F:=xW y;refine oH (jA 2 rfl (jN e (dH e oU.f1 fun _ W=>iI W fun _ X=>jL X fun R=>jA 1 rfl (xF (gN F (qD ?_))))));have j2:=jZ (Nat.le_of_lt y) R;have m2:=vK y R;refine xJr (jA 2 rfl (jN e (dH e oU.f1 fun _ Y=>iI Y fun _ Z=>jA 1 rfl (jI Z y2 fun _ a0=>iG a0 fun i4=>jB fun z2 c2=>(jk (fun H=>rY z2 c2 _ aA E i4) fun a1=>jA 1 rfl ?_)))));refine zQ (jA 1 rfl (oQ m2 (jA 1 rfl (xF ?_))));exact jg ⟨a1,ls⟩
  refine xQx (zX (fun s3=>.st [(0,f),(1,h),(5,xI p),(6,xI (j:Int)),(64,.bool s3)] []) ?_ (fun _=>?_))
  ·
   refine a_g (jA 4 rfl (dP 55 (fun _=>?_) (fun _=>?_)))
   ·
    refine jA 1 rfl (jN d (dH d vO.f0 fun _ a2=>jlP a2 fun _ a3=>jA 2 rfl (jB fun z3 c3=>(jk (fun H=>tU z3 c3 _ aA (H.a a3) (H.a e) (H.a L)) (jA 2 rfl (xF ?_))))));exact jf ls
   refine jA 9 rfl (xF ?_);exact jf ls
  refine dI (zC (fun _=>?_) (fun _=>?_))
  ·
   refine xL (jA 1 rfl (vE (jrt (eX (jrj (a_R ?_))))));exact zB (rt rfl) lv
  refine vY (jA 1 rfl (oQ m1 (jA 1 rfl (xF ?_))));exact jg ls
 refine qQ (jA 1 rfl (xP ?_));exact zB (rt rfl) lv
def vT:Nat→Template→Instance→Int→(List (List Int))→Int→(List Int)→Option ((List (List Int))×Int)
  | 0,_,_,_,_,_,_=>none
  | N+1,h,i,c,e,p,j=>
  if ((j.length:Int)==i.vars) then
   xK (ck (p+1)) fun z=>
   vC (σ:=(List (List Int))) (
    if (decide ((e.length:Int)<c)) then
     xK (qE j) fun A=>
     xK (ap e ([A])) fun B=>
     some (.nx B)
    else
     some (.nx e)) fun C=>
   some (C,z)
  else
   vC (σ:=(List (List Int))×Int) (
    aY (σ:=(List (List Int))×Int) (ρ:=(List (List Int))×Int) (fun(D:Nat) (s:(List (List Int))×Int)=>
      match s with
      | (d,f)=>
      vC (σ:=Bool) (
       if (decide (0<c)) then  some (.nx ((d.length:Int)==c)) else  some (.nx false)) fun E=>
      if E then
       some (.ret (d,f))
      else
       xK (qE j) fun F=>
       xK (ap F ([(D:Int)])) fun t=>
       xK (vU (l05Find.mk h i c d f) t) fun G=>
       if G then
        xK (vT N h i c d f t) fun y=>
        some (.go (y.1,y.2))
       else
        some (.go (d,f))) h.size.toNat 0 (e,p)) fun(H,I)=>
   some (H,I)
theorem uK:∀ (N:Nat) {B:Nat→Prop} {M:Template} {O:Instance} {e:Int} {y:List (List Int)} {F:Int} {P:List Int} (r:(List (List Int))×Int) (I:vT N M O e y F P=some r) {d:Nat} {h:Value} {i:Value} {j:Value} {A:Value} {V:List Nat} (p:World) (hN:∀ c,B c→c<p.heap.size) (S0:Sep V B p p [bx d [h,i,xI e,j,xI F] 155,rl 1 (fG 1 xG) 36 j y]) (t:Bo B p (Pt 2 xA) h M) (E:Bo B p (Pt 2 xB) i O) (S:xH e) (a0:xH F) (K:Bo B p (Sl 1 xG) A P),Calls Tryz.prog 113 #[xU d,A] p (Gt B p V (.v fun a1=>.fa (xH r.2) <| .st (.tuple #[]) fun D=>bx d [h,i,xI e,a1,xI r.2] 155::rl 1 (fG 1 xG) 36 a1 r.1::D)):=by
  intro N
  induction N with
  | zero=>intro B M O e y F P r I;unfold vT at I;cases I
  | succ N ih=>
  intro B M O e y F P r I d h i j A V p hN S0 t E S a0 K;rw[vT] at I
  revert r
  refine zI func113 [(0,xU d),(1,A)] S0 fun r=>?_;refine oH (jA 1 rfl (jL K fun _=>jA 2 rfl (xY e2 (jb 0 e3 (jN E (dH E xB.f0 fun _ h1=>iG h1 fun _=>jA 1 rfl (xF ?_)))))));refine zC (fun _=>?_) (fun _=>?_)
  ·
   refine xL (jA 2 rfl (xY e2 (jb 0 e3 (jB fun T c1=>(lY c1 (jA 1 rfl (xY e2 (jW e3 (bS (jQ ?_))))))))));refine qR 2 rfl (nV e2 (jqb 0 e3 (oCm (fun H=>H.l 1 rfl) fun _=>qR 2 rfl (nV e2 (jqb 0 e3 (qR 1 rfl (iS (dI ?_))))))));refine zX (fun s1=>.v fun W=>.st [(0,xU d)] [bx d [h,i,xI e,W,xI T] 155,rl 1 (fG 1 xG) 36 W s1]) ?_ (fun _ W=>?_)
   ·
    refine zC (fun _=>?_) (fun _=>?_)
    ·
     refine jB fun Q c2=>(jB fun z2 c3=>(jD ?_));refine jdp (f:=4) (ls:=#[true,true,true,true,true,true,true,true,false,false,false,false]) (.v fun v3=>.st [(0,xU d),(33,xU d),(37,j),(40,v3)] [rl 1 (fG 1 xG) 36 v3 ([Q]),bx d [h,i,xI e,j,xI T] 155,rl 1 (fG 1 xG) 36 j y]) (fun _=>?_) (fun H1=>?_)
     ·
      refine jE 8 rfl (js [2,0,1] rfl (jPL c3 fun v4=>kK (jvA [9] rfl (fZ 10 rfl e2 (jE 11 rfl (js [1,0] rfl (jW (hv:=(fun H=>(H.l 1 rfl).one)) e3 (kK (jbe ?_)))))))));refine dI ?_;exact jf ⟨_,ls⟩
     refine jdp (f:=5) (ls:=#[true,true,true,true,true,true,true,false,false,false,false,false]) (.v fun v5=>.st [(0,xU d),(33,xU d),(37,j),(39,v5)] [rl 1 xG 2 v5 Q,bx d [h,i,xI e,j,xI T] 155,rl 1 (fG 1 xG) 36 j y]) (fun _=>?_) (fun H2=>?_)
     ·
      refine jE 7 rfl (jh (fun H=>H.os) (lC (fun H=>El.sl) fun v6=>kK ?_));exact H1 ⟨_,ls⟩
     refine jvA [0,1,2] rfl (fZ 3 rfl e2 (jvA [5] rfl (jV (fun H=>H) 4 6 rfl rfl ?_ ?_)))
     ·
      refine jb 0 e3 (kK (jE 6 rfl (jk (fun H=>eI Q c2 _ aA (H.a K)) fun v7=>kK ?_)));exact H2 ⟨_,ls⟩
     refine jk (fun H=>eI Q c2 _ aA (H.a K)) fun v8=>kK (jV (fun H=>H) 4 7 rfl rfl ?_ ?_)
     ·
      refine jb 1 e3 (kK ?_);exact H2 ⟨_,ls⟩
     refine jh (fun H=>H.os) (lC (fun H=>El.sl) fun v9=>kK (jE 4 rfl (jb 1 e3 (kK ?_))));exact H1 ⟨_,ls⟩
    refine xXd ?_;exact jf ⟨_,ls⟩
   refine xRw ?_;exact j0 ⟨_,(bD c1),lv⟩
  refine oY (jA 1 rfl (xF ?_));refine zX (fun(s2,X)=>.v fun U=>.fa (xH X) <| .st [(0,xU d)] [bx d [h,i,xI e,U,xI X] 155,rl 1 (fG 1 xG) 36 U s2]) ?_ (fun(s2,X) U i1=>?_)
  ·
   refine eD ?_;refine jc (fun Y (R,L)=>.v fun z=>.fa (xH L) <| .st [(4,xI (Y:Int)),(0,xU d),(1,A)] [bx d [h,i,xI e,z,xI L] 155,rl 1 (fG 1 xG) 36 z R]) ⟨_,a0,ls⟩ (fun _ (R,L) _ G z C=>?_) (fun _ Y (R,L) G z C=>?_)
   ·
    have Z:=iL G;refine oH (jA 3 rfl (xY e2 (jb 0 e3 (jN t (dH t xA.f0 fun _ h2=>iG h2 fun _=>jA 1 rfl (xF (gR Z (xS ?_))))))));exact jf ⟨_,C,ls⟩
   have Z:=eW G;refine oH (jA 3 rfl (xY e2 (jb 0 e3 (jN t (dH t xA.f0 fun _ h3=>iG h3 fun i3=>jA 1 rfl (xF (gN Z (qD ?_))))))));have j1:=xBl G i3;have m1:=mB G i3;refine xXt ?_;refine zX (fun s6=>.st [(0,xU d),(1,A),(4,xI (Y:Int)),(71,.bool s6)] [bx d [h,i,xI e,z,xI L] 155,rl 1 (fG 1 xG) 36 z R]) ?_ (fun _=>?_)
   ·
    refine jQ (qR 2 rfl (nV e2 (jqb 0 e3 (qR 2 rfl (dP 60 (fun _=>?_) (fun _=>?_))))))
    ·
     refine qR 2 rfl (nV e2 (jqb 0 e3 (oCm (fun H=>H.l 1 rfl) fun _=>qR 2 rfl (nV e2 (jqb 0 e3 (qR 2 rfl (iS (dI ?_))))))));exact jf ls
    refine qR 11 rfl (iS (dI ?_));exact jf ls
   refine dI (zC (fun _=>?_) (fun _=>?_))
   ·
    refine xWx (jrt (eX (jrj ?_)));exact j0 ⟨_,C,lv⟩
   refine oY (jA 1 rfl (jB fun z3 c4=>(jk (fun H=>eI z3 c4 _ aA (H.a K)) fun _=>jA 1 rfl (sL (fun H=>Eo.int j1) fun _=>jB fun z4 c5=>(js [1,0,2,3] rfl (jPL c5 fun _=>jA 1 rfl (xN ?_)))))));refine jA 2 rfl (jB fun z5 c6=>(jk (fun H=>nK z5 c6 _ aA (vO.b (H.g 1 rfl).bk (H.a t) (H.a E) S (H.l 2 rfl) C) (H.l 0 rfl)) (xF (zC (fun _=>?_) (fun _=>?_)))))
   ·
    refine a_g (jA 2 rfl (lA fun w1 X1 N1 _ g1 e1 ad _=>?_));have h4:=g1.ld;refine jB fun z6 c7=>(jko 2 (fun K1 H=>ih z6 c7 _ H.hN K1 (H.u (e1 t)) (H.u (e1 E)) S C (H.u h4)) fun ay i4=>zQ (jA 1 rfl (oQ m1 (jA 1 rfl (xF (dL ad (js [1,2] rfl ?_)))))));exact jg ⟨_,i4,ls⟩
   refine vY (jA 1 rfl (oQ m1 (jA 1 rfl (xF (js [1,2] rfl ?_)))));exact jg ⟨_,C,ls⟩
  refine a_z ?_;exact j0 ⟨_,i1,lv⟩
theorem wE {B:Nat→Prop} {N:Nat} {p:Template} {t:Instance} {e:Int} {y:List (List Int)} {f:Int} {C:List Int} (r:(List (List Int))×Int) (L:vT N p t e y f C=some r) {j:Nat} {h:Value} {i:Value} {z:Value} {E:Value} {F:List Nat} (d:World) (hN:∀ c,B c→c<d.heap.size) (M:Sep F B d d [bx j [h,i,xI e,z,xI f] 155,rl 1 (fG 1 xG) 36 z y]) (G:Bo B d (Pt 2 xA) h p) (H:Bo B d (Pt 2 xB) i t) (I:xH e) (K:xH f) (O:Bo B d (Sl 1 xG) E C):Calls Tryz.prog 113 #[xU j,E] d (Gt B d F (.v fun A=>.fa (xH r.2) <| .st (.tuple #[]) fun D=>bx j [h,i,xI e,A,xI r.2] 155::rl 1 (fG 1 xG) 36 A r.1::D)):=
  uK N r L d hN M G H I K O
def bY (N:Nat) (c:Template) (d:Instance) (e:Int):Option (List (List Int)):=
 xK (vT N c d e ([]) 0 ([])) fun f=>
 some f.1
theorem nM {B:Nat→Prop} {N:Nat} {j:Template} {p:Instance} {e:Int} (r:(List (List Int))) (E:bY N j p e=some r) {f:Value} {h:Value} (d:World) (hN:∀ c,B c→c<d.heap.size) (t:Bo B d (Pt 2 xA) f j) (y:Bo B d (Pt 2 xB) h p) (A:xH e):Calls Tryz.prog 55 #[f,h,xI e] d (Gt B d [] (.v fun i=>.st (i) fun D=>rl 1 (fG 1 xG) 36 i r::D)):=by
 unfold bY at E
 revert r
 refine zI func55 [(0,f),(1,h),(2,xI e)] (Sep.start hN) fun r=>?_;refine xL (jA 1 rfl (xN (jA 3 rfl ?_)));refine qT (hone:=(fun H=>oc (H.a t).pone (oc (H.a y).pone (oc rfl on)))) e5 (jX e2 fun M=>jA 1 rfl (xN (jA 1 rfl (jR0 xG fun _=>jh (fun H=>H.nl 1 (fG 1 xG) 36) (js [1,0,2] rfl (lA fun O P L _ F z C _=>?_))))));have G:=F.ld;refine jB fun I K=>(js [1,0] rfl (jko 2 (fun K1 H=>wE I K _ H.hN K1 (H.u (z t)) (H.u (z y)) A (show xH 0 by decide) (H.u G)) fun Q _=>xN (jA 2 rfl (xY e2 (jb 0 e3 (jA 1 rfl (xP (dL C (js [2] rfl ?_)))))))));exact j1 (rt rfl) ⟨_,lv⟩
def vD (N:Nat) (c:Template) (d:Instance):Option ((List Int)×Int):=
 xK (fP (Template.mk c.size c.rels) (Instance.mk d.vars d.cons)) fun f=>
 if (!f) then
  some ([],1)
 else
  xK (bY N (Template.mk c.size c.rels) (Instance.mk d.vars d.cons) 1) fun e=>
  if ((e.length:Int)==0) then
   some ([],6)
  else
   xK (ix e 0) fun h=>
   some (h,0)
theorem mQ {B:Nat→Prop} {N:Nat} {i:Template} {j:Instance} (r:(List Int)×Int) (C:vD N i j=some r) {e:Value} {f:Value} (d:World) (hN:∀ c,B c→c<d.heap.size) (E:Bo B d (qG 2 xA) e i) (F:Bo B d (qG 2 xB) f j):Calls Tryz.prog 21 #[e,f] d (Gt B d [] (.v fun h=>.fa (xH r.2) <| .st (.tuple #[h,xI r.2]) fun D=>ro B (V:=(Sl 1 xG)) h r.1::D)):=by
 unfold vD at C
 revert r
 refine zI func21 [(0,e),(1,f)] (Sep.start hN) fun r=>?_;refine xL ?_;obtain⟨T,rfl,p,t⟩:=xA.o E;refine jX e2 (fun _=>?_);obtain⟨S,rfl,y,z⟩:=xB.o F;refine jX e2 fun _=>jA 2 rfl (xO (jB fun G I=>(jk (fun H=>nU G I _ aA (xA.b (H.g 1 rfl).bk p (H.a t)) (xB.b (H.g 0 rfl).bk y (H.a z))) (jA 1 rfl (xF (zC (fun _=>?_) (fun _=>?_)))))))
 ·
  refine xL (jR0 xG fun U=>jA 2 rfl (xT (js [0] rfl (jh (fun H=>H.lw) (jh (fun H=>H.rwo) (jh (fun H=>H.rok) ?_))))));exact j2 (rt rfl) (rt rfl) ⟨_,(show xH (1) by decide),lv⟩
 refine oY (jB fun K L=>(jk (fun H=>nM K L _ aA (xA.b (H.g 1 rfl).bk p (H.a t)) (xB.b (H.g 0 rfl).bk y (H.a z)) (show xH (1) by decide)) fun _=>jA 1 rfl (xO (jA 1 rfl (jLc (fun H=>H.l 0 rfl) fun _=>jA 1 rfl (xF (zC (fun _=>?_) (fun _=>?_))))))))
 ·
  refine xL (jR0 xG fun W=>jA 2 rfl (xT (js [0] rfl (jh (fun H=>H.lw) (jh (fun H=>H.rwo) (jh (fun H=>H.rok) ?_))))));exact j2 (rt rfl) (rt rfl) ⟨_,(show xH (6) by decide),lv⟩
 refine oY (jA 1 rfl (jB fun X M=>(lA fun _ _ _ _ O _ A _=>?_)));have P:=O.ld;refine jI P M fun _ Q=>iI Q fun Y R=>jA 2 rfl (xP (jh (fun H=>H.rob R) (js [0] rfl (jh (fun H=>A.2.1 H (Ns.all trivial)) ?_))));exact j2 (rt rfl) (rt rfl) ⟨_,(show xH (0) by decide),lv⟩
def bW (N:Nat) (c:Con) (e:Template) (f:(List Int)):Option Bool:=
 xK (ix e.rels c.rel) fun h=>
 xK (dY f c.scope) fun i=>
 xK (cP N h i) fun d=>
 some ((!d))
theorem xCl {B:Nat→Prop} {N:Nat} {t:Con} {y:Template} {z:(List Int)} (r:Bool) (C:bW N t y z=some r) {h:Value} {i:Value} {j:Value} (d:World) (hN:∀ c,B c→c<d.heap.size) (E:Bo B d (qG 2 oU) h t) (F:Bo B d (Pt 2 xA) i y) (G:Bo B d (Pt 1 (fG 1 xG)) j z):Calls Tryz.prog 118 #[h,i,j] d (Gt B d [] (.st (.bool r) fun D=>D)):=by
 unfold bW at C
 revert r
 refine zI func118 [(0,h),(1,i),(2,j)] (Sep.start hN) fun r=>?_;refine xL ?_;obtain⟨V,rfl,W,I⟩:=oU.o E;refine jX e2 fun _=>jA 1 rfl (xV (jB fun X K=>(jB fun L M=>(jB fun A O=>(lA fun _ _ _ f P p e _=>?_)))));have K1:=P.bk;refine jD (xEp 0 rfl F xA.f1 fun _ Q=>xLl (s:=fun H w l=>(f.trans (Sm.mono (H.v w l) e.2.2))) 1 rfl Q fun _ R=>fZ 2 rfl e2 (jvb 3 rfl K1 e2 (jvI 4 rfl R K fun _ S=>jvlA (s:=fun H w l=>(f.trans (Sm.mono (H.v w l) e.2.2))) 5 rfl S fun _ T=>xLl (s:=fun H w l=>(f.trans (Sm.mono (H.v w l) e.2.2))) 6 rfl G fun _ U=>fZ 7 rfl e2 (jvb 8 rfl K1 e2 (jE 9 rfl ?_)))));refine jk (fun H=>iQ L M _ aA (H.a (p U)) (H.a (p I))) fun _=>kK (jE 10 rfl (jk (fun H=>lF A O _ aA (H.a (p T)) (H.l 0 rfl)) (kK (jvA [11,12] rfl (jbe (jY (dL e ?_)))))));exact zB (rt rfl) lv
def dZ (N:Nat) (c:Template) (d:Instance) (e:List Int):Option Int:=
 xK (zF d.cons (fun f=>bW N f (Template.mk c.size c.rels) e)) fun h=>
 some h
theorem uQ {B:Nat→Prop} {N:Nat} {j:Template} {p:Instance} {t:List Int} (r:Int) (C:dZ N j p t=some r) {e:Value} {f:Value} {i:Value} (d:World) (hN:∀ c,B c→c<d.heap.size) (E:Bo B d (qG 2 xA) e j) (F:Bo B d (qG 2 xB) f p) (y:Bo B d (Sl 1 xG) i t):Calls Tryz.prog 57 #[e,f,i] d (Gt B d [] (.fa (xH r) <| .st (xI r) fun D=>D)):=by
 unfold dZ at C
 revert r
 refine zI func57 [(0,e),(1,f),(2,i)] (Sep.start hN) fun r=>?_;refine xL ?_;obtain⟨P,rfl,G,I⟩:=xA.o E;refine jX e2 (fun _=>?_);obtain⟨O,rfl,Q,K⟩:=xB.o F;refine jX e2 fun _=>jX1 rfl (fun H=>(H.a y).one) fun _=>jA 1 rfl (xN (xY e2 (jb 1 e3 (sA e2 (jB fun L M=>(jk (fun H=>fV L M _ aA (H.a K) call118 (fun R r h W z S f0=>xCl r h W aA f0 ((xA.b (H.g 2 rfl).bk G (H.a I)).w z) ((c1S (H.g 0 rfl).bk (H.a y)).w z))) fun A=>jA 1 rfl (xP ?_)))))));exact zB (rt rfl) ⟨A,lv⟩
def bU (N:Nat) (h d:Template) (i:Gadgets) (e:Instance) (f:List Int):Option ((List Int)×Int):=
 xK (kJ N (Template.mk h.size h.rels) (Template.mk d.size d.rels) (Gadgets.mk i.formulas) (Instance.mk e.vars e.cons)) fun j=>
 if (j != 0) then
  some ([],j)
 else
  xK (bO (Gadgets.mk i.formulas) (Instance.mk e.vars e.cons)) fun c=>
  if (c.2.2 != 0) then
   some ([],c.2.2)
  else
   xK (vS d.size f c.1.vars) fun p=>
   if (!p) then
    some ([],2)
   else
    xK (dZ N (Template.mk d.size d.rels) (Instance.mk c.1.vars c.1.cons) f) fun t=>
    if (decide (0≤t)) then
     some ([],4)
    else
     xK (dY f c.2.1) fun y=>
     some (y,0)
theorem sJ {B:Nat→Prop} {N:Nat} {A C:Template} {E:Gadgets} {F:Instance} {G:List Int} (r:(List Int)×Int) (P:bU N A C E F G=some r) {e:Value} {f:Value} {h:Value} {i:Value} {j:Value} (d:World) (hN:∀ c,B c→c<d.heap.size) (Q:Bo B d (qG 2 xA) e A) (R:Bo B d (qG 2 xA) f C) (S:Bo B d (qG 1 xJ) h E) (T:Bo B d (qG 2 xB) i F) (p:Bo B d (Sl 1 xG) j G):Calls Tryz.prog 22 #[e,f,h,i,j] d (Gt B d [] (.v fun y=>.fa (xH r.2) <| .st (.tuple #[y,xI r.2]) fun D=>rl 1 xG 2 y r.1::D)):=by
 unfold bU at P
 revert r
 refine zI func22 [(0,e),(1,f),(2,h),(3,i),(4,j)] (Sep.start hN) fun r=>?_;refine xL ?_;obtain⟨v5,rfl,U,V⟩:=xA.o Q;refine jX e2 (fun _=>?_);obtain⟨a7,rfl,t,I⟩:=xA.o R;refine jX e2 (fun _=>?_);obtain⟨v6,rfl,K⟩:=xJ.o S;refine jX e2 (fun _=>?_);obtain⟨v7,rfl,L,M⟩:=xB.o T;refine jX e2 fun _=>jA 2 rfl (xO (zY 3 e3 (zY 2 e3 (zY 1 e3 (zY 0 e3 (jB fun W X=>?_))))));refine jk (fun H=>lS W X _ aA (xA.m U (H.a V)) (xA.m t (H.a I)) (xJ.m (H.a K)) (xB.m L (H.a M))) fun O=>jA 1 rfl (xN (jA 2 rfl (xF (zC (fun _=>?_) (fun _=>?_)))))
 ·
  refine xL (jA 3 rfl (xT (jh (fun H=>H.nl 1 xG 2) (js [0] rfl ?_))));exact j2 (rt rfl) (rt rfl) ⟨_,O,lv⟩
 refine oY (zY 1 e3 (zY 0 e3 (jB fun Y Z=>?_)));refine jk (fun H=>pW Y Z _ aA (xJ.m (H.a K)) (xB.m L (H.a M))) fun v8 _ z i4=>jA 4 rfl (dG rfl (fun _=>?_));refine bC (hv:=(fun H=>oc rfl (oc (H.l 1 rfl).one on))) e3 (jA 2 rfl (xFa (jA 3 rfl (xF (zC (fun _=>?_) (fun _=>?_))))))
 ·
  refine xL (jA 3 rfl (nR (jh (fun H=>H.nl 1 xG 2) (js [0] rfl ?_))));exact j2 (rt rfl) (rt rfl) ⟨_,i4,lv⟩
 refine xL (xY e2 (jb 5 e3 (jA 1 rfl (xY e2 (jb 0 e3 (jB fun z3 c3=>(jk (fun H=>fD z3 c3 _ aA t (H.a p) z) (jA 2 rfl (xF (zC (fun _=>?_) (fun _=>?_)))))))))))
 ·
  refine xL (jA 2 rfl (nR (jh (fun H=>H.nl 1 xG 2) (js [0] rfl ?_))));exact j2 (rt rfl) (rt rfl) ⟨_,(show xH (2) by decide),lv⟩
 refine xL (zY 5 e3 (zY 0 e3 (jA 1 rfl (jB fun z4 c4=>?_))));refine jk (fun H=>uQ z4 c4 _ aA (xA.m t (H.a I)) (xB.m z (H.l 1 rfl)) (H.a p)) fun a8=>jA 2 rfl (xF (zC (fun _=>?_) (fun _=>?_)))
 ·
  refine xL (jA 2 rfl (nR (jh (fun H=>H.nl 1 xG 2) (js [0] rfl ?_))));exact j2 (rt rfl) (rt rfl) ⟨_,(show xH (4) by decide),lv⟩
 refine xEh (jA 2 rfl (jB fun z5 c5=>(jk (fun H=>iQ z5 c5 _ aA (H.a p) (H.l 2 rfl)) fun v9=>jA 2 rfl (xP (js [0] rfl ?_)))));exact j2 (rt rfl) (rt rfl) ⟨_,(show xH (0) by decide),lv⟩
def gD (c d:List Int):Option (List Int):=
 xK (gT c d) fun e=>
 some e
theorem tM {B:Nat→Prop} {i j:List Int} (r:(List Int)) (p:gD i j=some r) {e:Value} {f:Value} (d:World) (hN:∀ c,B c→c<d.heap.size) (t:Bo B d (Sl 1 xG) e i) (y:Bo B d (Sl 1 xG) f j):Calls Tryz.prog 24 #[e,f] d (Gt B d [] (.v fun h=>.st (h) fun D=>rl 1 xG 2 h r::D)):=by
 unfold gD at p
 revert r
 refine zI func24 [(0,e),(1,f)] (Sep.start hN) fun r=>?_;refine xL (jA 1 rfl (xN (jA 2 rfl (jB fun z A=>(jk (fun H=>sS z A _ aA (H.a t) (H.a y)) fun C=>jA 1 rfl (xP ?_))))));exact j1 (rt rfl) ⟨_,lv⟩
def mM (c:Template) (d:Instance) (e:List Int):Option Int:=
 xK (fP c d) fun f=>
 if (!f) then
  some 1
 else
  xK (bM c.size d.vars e) fun h=>
  if (!h) then
   some 2
  else
   some 0
theorem xDu {B:Nat→Prop} {p:Template} {t:Instance} {y:List Int} (r:Int) (A:mM p t y=some r) {e:Value} {f:Value} {h:Value} (d:World) (hN:∀ c,B c→c<d.heap.size) (i:Bo B d (Pt 2 xA) e p) (j:Bo B d (Pt 2 xB) f t) (C:Bo B d (Sl 1 xG) h y):Calls Tryz.prog 59 #[e,f,h] d (Gt B d [] (.fa (xH r) <| .st (xI r) fun D=>D)):=by
 unfold mM at A
 revert r
 refine zI func59 [(0,e),(1,f),(2,h)] (Sep.start hN) fun r=>?_;refine xL (jA 1 rfl (xO (jA 2 rfl (jB fun E F=>(jk (fun H=>nU E F _ aA (H.a i) (H.a j)) (jA 1 rfl (xF (zC (fun _=>?_) (fun _=>?_)))))))))
 ·
  refine xL (jA 1 rfl (xT ?_));exact zB (rt rfl) ⟨(show xH (1) by decide),lv⟩
 refine oAq (jQ (qR 1 rfl (iO i (zA i xA.f0 fun _ G=>aD G fun z=>qR 1 rfl (iO j (zA j xB.f0 fun _ I=>aD I fun K=>qR 1 rfl ?_))))));refine jB fun L M=>(jqk (fun H=>nH L M _ aA z K (H.a C)) (qR 1 rfl (iS (dI (zC (fun _=>?_) (fun _=>?_))))))
 ·
  refine xL (jA 1 rfl (xT ?_));exact zB (rt rfl) ⟨(show xH (2) by decide),lv⟩
 refine oY (jA 1 rfl (xP ?_));exact zB (rt rfl) ⟨(show xH (0) by decide),lv⟩
def aU (c:Template) (d:Instance) (e:List Int):Option Int:=
 vC (σ:=Unit) (
  oM (σ:=Unit) (ρ:=Int) (fun (f:Nat) (h:Con) (s:Unit)=>
    match s with
    | _=>
    xK (eJ c h e) fun i=>
    if (!i) then
     some (.ret ((f:Int)))
    else
     some (.go ())) d.cons 0 ()) fun _=>
 some ((-1))
theorem rS {B:Nat→Prop} {t:Template} {y:Instance} {z:List Int} (r:Int) (E:aU t y z=some r) {f:Value} {h:Value} {i:Value} (d:World) (hN:∀ c,B c→c<d.heap.size) (F:Bo B d (Pt 2 xA) f t) (e:Bo B d (Pt 2 xB) h y) (G:Bo B d (Sl 1 xG) i z):Calls Tryz.prog 60 #[f,h,i] d (Gt B d [] (.fa (xH r) <| .st (xI r) fun D=>D)):=by
 unfold aU at E
 revert r
 refine zI func60 [(0,f),(1,h),(2,i)] (Sep.start hN) fun r=>?_;refine xL (jA 1 rfl (xO (jA 1 rfl (xF (zX (fun _=>.st [] []) ?_ (fun _=>?_))))))
 ·
  refine eD (jl (fun A _=>.st [(7,xI (A:Int)),(0,f),(1,h),(2,i)] []) ls (fun _ _ _ I=>?_) (fun A _ _ j K=>?_))
  ·
   have p:=qC I;refine oH (jA 2 rfl (jN e (dH e xB.f1 fun _ L=>iI L fun _ M=>jL M fun _=>jA 1 rfl (xF (gR p (xS ?_))))));exact jf ls
  have p:=xW j;refine oH (jA 2 rfl (jN e (dH e xB.f1 fun _ N=>iI N fun _ O=>jL O fun C=>jA 1 rfl (xF (gN p (qD ?_))))));have j1:=jZ (Nat.le_of_lt j) C;have P:=vK j C;refine kE (jA 2 rfl (jN e (dH e xB.f1 fun _ Q=>iI Q fun _ R=>jA 1 rfl (jI R K fun _ S=>jA 1 rfl (jB fun T U=>(jk (fun H=>tU T U _ aA (H.a F) (H.a S) (H.a G)) (jA 1 rfl ?_)))))));refine xF (zC (fun _=>?_) (fun _=>?_))
  ·
   refine xL (jA 2 rfl (vE (jrt (eX (jrj (a_R ?_))))));exact zB (rt rfl) ⟨j1,lv⟩
  refine vY (jA 1 rfl (oQ P (jA 1 rfl (xF ?_))));exact jg ls
 refine qQ (jA 1 rfl (xP ?_));exact zB (rt rfl) ⟨(show xH (-1) by decide),lv⟩
def dQ (c:Template) (d:Instance) (e:List Int):Option (Bool×Int):=
 xK (mM (Template.mk c.size c.rels) (Instance.mk d.vars d.cons) e) fun f=>
 if (f != 0) then
  some (false,f)
 else
  xK (aU (Template.mk c.size c.rels) (Instance.mk d.vars d.cons) e) fun h=>
  some ((decide (h<0)),0)
theorem xAx {B:Nat→Prop} {i:Template} {j:Instance} {p:List Int} (r:Bool×Int) (F:dQ i j p=some r) {e:Value} {f:Value} {h:Value} (d:World) (hN:∀ c,B c→c<d.heap.size) (G:Bo B d (qG 2 xA) e i) (I:Bo B d (qG 2 xB) f j) (t:Bo B d (Sl 1 xG) h p):Calls Tryz.prog 23 #[e,f,h] d (Gt B d [] (.fa (xH r.2) <| .st (.tuple #[.bool r.1,xI r.2]) fun D=>D)):=by
 unfold dQ at F
 revert r
 refine zI func23 [(0,e),(1,f),(2,h)] (Sep.start hN) fun r=>?_;refine xL ?_;obtain⟨Q,rfl,y,z⟩:=xA.o G;refine jX e2 (fun _=>?_);obtain⟨O,rfl,A,C⟩:=xB.o I;refine jX e2 fun _=>jA 2 rfl (xO (jA 1 rfl (jB fun K L=>(jk (fun H=>xDu K L _ aA (xA.b (H.g 1 rfl).bk y (H.a z)) (xB.b (H.g 0 rfl).bk A (H.a C)) (H.a t)) fun E=>jA 1 rfl (xN (jA 2 rfl (xF (zC (fun _=>?_) (fun _=>?_)))))))))
 ·
  refine xL (jA 3 rfl (xT (js [] rfl ?_)));exact j2 (rt rfl) (rt rfl) ⟨E,lv⟩
 refine oY (jA 1 rfl (jB fun M N=>(jk (fun H=>rS M N _ aA (xA.b (H.g 1 rfl).bk y (H.a z)) (xB.b (H.g 0 rfl).bk A (H.a C)) (H.a t)) fun P=>jA 3 rfl (xP (js [] rfl ?_)))));exact j2 (rt rfl) (rt rfl) ⟨(show xH (0) by decide),lv⟩
def bX (N:Nat) (c:Template) (d:Instance):Option ((List (List Int))×Int):=
 xK (fP (Template.mk c.size c.rels) (Instance.mk d.vars d.cons)) fun f=>
 if (!f) then
  some ([],1)
 else
  xK (bY N (Template.mk c.size c.rels) (Instance.mk d.vars d.cons) 201) fun e=>
  if (decide (200<(e.length:Int))) then
   some ([],3)
  else
   some (e,0)
theorem wQ {B:Nat→Prop} {N:Nat} {i:Template} {j:Instance} (r:(List (List Int))×Int) (A:bX N i j=some r) {e:Value} {f:Value} (d:World) (hN:∀ c,B c→c<d.heap.size) (C:Bo B d (qG 2 xA) e i) (E:Bo B d (qG 2 xB) f j):Calls Tryz.prog 25 #[e,f] d (Gt B d [] (.v fun h=>.fa (xH r.2) <| .st (.tuple #[h,xI r.2]) fun D=>rl 1 (fG 1 xG) 36 h r.1::D)):=by
 unfold bX at A
 revert r
 refine zI func25 [(0,e),(1,f)] (Sep.start hN) fun r=>?_;refine xL ?_;obtain⟨M,rfl,p,t⟩:=xA.o C;refine jX e2 (fun _=>?_);obtain⟨L,rfl,y,z⟩:=xB.o E;refine jX e2 fun _=>jA 2 rfl (xO (jB fun F G=>(jk (fun H=>nU F G _ aA (xA.b (H.g 1 rfl).bk p (H.a t)) (xB.b (H.g 0 rfl).bk y (H.a z))) (jA 1 rfl (xF (zC (fun _=>?_) (fun _=>?_)))))))
 ·
  refine xL (jR0 (fG 1 xG) fun O=>jA 2 rfl (xT (js [0] rfl ?_)));exact j2 (rt rfl) (rt rfl) ⟨_,(show xH (1) by decide),lv⟩
 refine oY (jB fun I K=>(jk (fun H=>nM I K _ aA (xA.b (H.g 1 rfl).bk p (H.a t)) (xB.b (H.g 0 rfl).bk y (H.a z)) (show xH (201) by decide)) fun P=>jA 1 rfl (xO (jA 1 rfl (jLc (fun H=>H.l 0 rfl) fun _=>jA 1 rfl (xF (zC (fun _=>?_) (fun _=>?_))))))))
 ·
  refine xL (jR0 (fG 1 xG) fun Q=>jA 2 rfl (xT (js [0] rfl ?_)));exact j2 (rt rfl) (rt rfl) ⟨_,(show xH (3) by decide),lv⟩
 refine oY (jA 3 rfl (xP (js [0] rfl ?_)));exact j2 (rt rfl) (rt rfl) ⟨_,(show xH (0) by decide),lv⟩
def mP (d:List UInt8) (e:Int):Option Int:=
 xK (bQ d) fun c=>
 xK (xR c.1 c.2.1 c.2.2 e) fun f=>
 some f.1
theorem xHa {B:Nat→Prop} {h:List UInt8} {d:Int} (r:Int) (p:mP h d=some r) {f:Value} (e:World) (hN:∀ c,B c→c<e.heap.size) (t:Bo B e (Sl 1 aW) f h) (i:xH d):Calls Tryz.prog 26 #[f,xI d] e (Gt B e [] (.fa (xH r) <| .st (xI r) fun D=>D)):=by
 unfold mP at p
 revert r
 refine zI func26 [(0,f),(1,xI d)] (Sep.start hN) fun r=>?_;refine xL (jA 1 rfl (xN (jA 1 rfl (jB fun y z=>(jkB (fun H=>lE y z _ H.hN (H.u t)) fun G I A j=>jA 1 rfl (jB fun C E=>(jko 1 (fun K1 H=>xZ C E _ H.hN K1 (H.u A) j i) fun F _=>jA 1 rfl (xP ?_))))))));exact zB (rt rfl) ⟨F,lv⟩
end Go.Proofs.YtlommebgedmjdaaGreatDoor
namespace Go.Proofs.YtlommebgedmjdaaGreatDoor
open Go.Proofs.Tryz
set_option linter.unusedVariables false
set_option linter.unusedSimpArgs false
set_option maxRecDepth 100000
open Go.RowKit
def fF (c:Template) (d:Instance):Option solver:=
 vC (σ:=(List Atom)) (
  oM (σ:=(List Atom)) (ρ:=solver) (fun (p:Nat) (e:Con) (f:(List Atom))=>
   xK (ap f ([(Atom.mk e.rel e.scope)])) fun h=>
   some (.go h)) d.cons 0 []) fun i=>
 xK (bR (Template.mk c.size c.rels) d.vars i) fun j=>
 some j
theorem xBx {B:Nat→Prop} {f:Template} {d:Instance} (r:solver) (P:fF f d=some r) {y:Value} {z:Value} (e:World) (hN:∀ c,B c→c<e.heap.size) (Q:Bo B e (qG 2 xA) y f) (R:Bo B e (qG 2 xB) z d):Calls Tryz.prog 64 #[y,z] e (Gt B e [] (.v fun E=>.st (E) fun D=>ro B (V:=(Pt 4 qZ)) E r::D)):=by
 unfold fF at P
 revert r
 refine zI func64 [(0,y),(1,z)] (Sep.start hN) fun r=>?_;refine xL ?_;obtain⟨F,rfl,S,T⟩:=xA.o Q;refine jX e2 (fun h=>?_);obtain⟨j,rfl,U,G⟩:=xB.o R;refine jX e2 fun i=>jA 1 rfl (xN (jR0 xM fun v3=>jA 1 rfl (xO (xY e2 (jb 1 e3 (jL G fun I=>jA 1 rfl (xF ?_)))))));refine zX (fun W=>.v fun K=>.st [(2,xU h),(3,xU i),(5,K)] [rw B 2 xM 120 K W,bx i [xI d.vars,j] 43,bx h [xI f.size,F] 26]) ?_ (fun _ _=>?_)
 ·
  refine eD (jh (fun H=>H.lw) (jh (fun H=>H.wk) ?_));refine jl (fun L M=>.v fun p=>.st [(12,xI (L:Int)),(2,xU h),(3,xU i),(5,p),(10,j),(11,xI (d.cons.length:Int))] [rw B 2 xM 120 p M,bx i [xI d.vars,j] 43,bx h [xI f.size,F] 26]) ⟨_,ls⟩ (fun _ M _ X p=>?_) (fun L x2 _ t Y _=>?_)
  ·
   have A:=qC X;refine xL (jA 1 rfl (xV (gR A (xS ?_))));exact jf ⟨_,ls⟩
  have A:=xW t;refine xL (jA 1 rfl (xV (gN A (qD ?_))));have j2:=jZ (Nat.le_of_lt t) I;have Z:=vK t I;refine kE (jI G Y fun _ h3=>jlA h3 fun _ h4=>dG rfl (fun _=>?_));obtain⟨v5,rfl,i4,C⟩:=oU.o h4;refine bC (hv:=(fun H=>oc rfl (oc (H.a C).one on))) e3 (tH (jA 1 rfl (xY e2 (jb 0 e3 (xY e2 (jb 0 e3 ?_))))));refine qT (hone:=(fun H=>oc rfl (oc (H.a C).one on))) e5 ?_;refine jR1 (N1:=B) n1 (fun H=>Eo.agg (xM.m i4 (H.u C))) fun _=>jB fun z1 c1=>(js [2,0,1,3,4] rfl (jP c1 fun v6=>jA 1 rfl (zQ (oQ Z (jA 1 rfl (xF (js [0,2,3] rfl ?_)))))));exact jg ⟨_,ls⟩
 refine qQ (zY 2 e3 (xY e2 (jb 1 e3 (jA 1 rfl (lA fun _ _ _ _ g1 e1 N _=>?_)))));have h6:=g1.rd;refine jB fun z2 c2=>?_;refine jk (fun H=>tP z2 c2 _ H.hN (xA.m S (H.u (e1 T))) U (H.u h6)) fun v7=>lA fun _ _ _ _ g2 _ O _=>?_;have h7:=g2.rod;refine jA 1 rfl (xP (jh (fun H=>H.rob h7) (js [0] rfl (jh (fun H=>O.2.1 H (Ns.all trivial)) (jh (fun H=>N.2.1 H (Ns.all trivial)) ?_)))));exact j1 (rt rfl) ⟨_,lv⟩
def cJ (N:Nat) (e h:Template) (z:Gadgets) (c:Instance) (i:List Int):Option ((List Int)×Int):=
 xK (kJ N (Template.mk e.size e.rels) (Template.mk h.size h.rels) (Gadgets.mk z.formulas) (Instance.mk c.vars c.cons)) fun A=>
 if (A != 0) then
  some ([],A)
 else
  xK (vS e.size i c.vars) fun H=>
  if (!H) then
   some ([],2)
  else
   xK (dZ N (Template.mk e.size e.rels) (Instance.mk c.vars c.cons) i) fun I=>
   if (decide (0≤I)) then
    some ([],4)
   else
    xK (bO (Gadgets.mk z.formulas) (Instance.mk c.vars c.cons)) fun d=>
    if (d.2.2 != 0) then
     some ([],d.2.2)
    else
     xK (vZ ([(-1)]) d.1.vars) fun K=>
     vC (σ:=(List Int)) (
      oM (σ:=(List Int)) (ρ:=(List Int)×Int) (fun (B:Nat) (j:Int) (p:(List Int))=>
       vC (σ:=Bool) (
        xK (ix p j) fun C=>
        if (decide (0≤C)) then  xK (ix i (B:Int)) fun L=>
         some (.nx (C != L)) else  some (.nx false)) fun M=>
       if M then
        some (.ret ([],6))
       else
        xK (ix i (B:Int)) fun O=>
        xK (ix p j) fun R=>
        some (.go (p.set (j).toNat O))) d.2.1 0 K) fun t=>
     vC (σ:=(List Int)) (
      whl (σ:=(List Int)) (ρ:=(List Int)×Int) (fun(f:(List Int))=>
       vC (σ:=Bool) (
        if (decide ((f.length:Int)<(t.length:Int))) then  xK (ix t (f.length:Int)) fun D=>
         some (.nx (decide (0≤D))) else  some (.nx false)) fun P=>
       if P then
        xK (ix t (f.length:Int)) fun E=>
        xK (ap f ([E])) fun F=>
        some (.go F)
       else
        some (.brk f)) N []) fun Q=>
     xK (fF (Template.mk h.size h.rels) (Instance.mk d.1.vars d.1.cons)) fun G=>
     xK (bZ N G Q) fun y=>
     if (!y.2) then
      some ([],6)
     else
      some (y.1,0)
theorem xAz {B:Nat→Prop} {N:Nat} {x0 i:Template} {x2:Gadgets} {x3:Instance} {x4:List Int} (r:(List Int)×Int) (hR:cJ N x0 i x2 x3 x4=some r) {O:Value} {P:Value} {Q:Value} {R:Value} {A:Value} (j:World) (hN:∀ c,B c→c<j.heap.size) (A0:Bo B j (qG 2 xA) O x0) (A1:Bo B j (qG 2 xA) P i) (A2:Bo B j (qG 1 xJ) Q x2) (A3:Bo B j (qG 2 xB) R x3) (E:Bo B j (Sl 1 xG) A x4):Calls Tryz.prog 27 #[O,P,Q,R,A] j (Gt B j [] (.v fun X=>.fa (xH r.2) <| .st (.tuple #[X,xI r.2]) fun D=>rl 1 xG 2 X r.1::D)):=by
 unfold cJ at hR
 revert r
 refine zI func27 [(0,O),(1,P),(2,Q),(3,R),(4,A)] (Sep.start hN) fun r=>?_;refine xL ?_;obtain⟨v5,rfl,S,h1⟩:=xA.o A0;refine jX e2 (fun _=>?_);obtain⟨t,rfl,i2,h2⟩:=xA.o A1;refine jX e2 (fun e=>?_);obtain⟨v6,rfl,h3⟩:=xJ.o A2;refine jX e2 (fun _=>?_);obtain⟨v7,rfl,F,T⟩:=xB.o A3;refine jX e2 fun _=>jA 2 rfl (xO (zY 3 e3 (zY 2 e3 (zY 1 e3 (zY 0 e3 (jB fun z1 c1=>?_))))));refine jk (fun H=>lS z1 c1 _ aA (xA.m S (H.a h1)) (xA.m i2 (H.a h2)) (xJ.m (H.a h3)) (xB.m F (H.a T))) fun af=>jA 1 rfl (xN (jA 2 rfl (xF (zC (fun _=>?_) (fun _=>?_)))))
 ·
  refine xL (jA 3 rfl (xT (jh (fun H=>H.nl 1 xG 2) (js [0] rfl ?_))));exact j2 (rt rfl) (rt rfl) ⟨_,af,lv⟩
 refine rF (xY e2 (jb 3 e3 (jA 1 rfl (xY e2 (jb 0 e3 (jB fun z2 c2=>(jk (fun H=>fD z2 c2 _ aA S (H.a E) F) (jA 2 rfl (xF (zC (fun _=>?_) (fun _=>?_)))))))))))
 ·
  refine xL (jA 2 rfl (nR (jh (fun H=>H.nl 1 xG 2) (js [0] rfl ?_))));exact j2 (rt rfl) (rt rfl) ⟨_,(show xH (2) by decide),lv⟩
 refine xL (zY 3 e3 (zY 0 e3 (jA 1 rfl (jB fun z3 c3=>?_))));refine jk (fun H=>uQ z3 c3 _ aA (xA.m S (H.a h1)) (xB.m F (H.a T)) (H.a E)) fun ca=>jA 2 rfl (xF (zC (fun _=>?_) (fun _=>?_)))
 ·
  refine xL (jA 2 rfl (nR (jh (fun H=>H.nl 1 xG 2) (js [0] rfl ?_))));exact j2 (rt rfl) (rt rfl) ⟨_,(show xH (4) by decide),lv⟩
 refine xEh (zY 1 e3 (zY 0 e3 (jB fun d c4=>?_)));refine jk (fun H=>pW d c4 _ aA (xJ.m (H.a h3)) (xB.m F (H.a T))) fun f U i4 i5=>jA 4 rfl (dG rfl (fun h=>?_));refine bC (hv:=(fun H=>oc rfl (oc (H.l 1 rfl).one on))) e3 (jA 2 rfl (xO (jA 2 rfl (xF (zC (fun _=>?_) (fun _=>?_))))))
 ·
  refine xL (jA 3 rfl (xT (jh (fun H=>H.nl 1 xG 2) (js [0] rfl ?_))));exact j2 (rt rfl) (rt rfl) ⟨_,i5,lv⟩
 refine oY (sL (fun H=>Eo.int (show xH (-1) by decide)) fun _=>xY e2 (jb 1 e3 (jB fun z5 c5=>(jk (fun H=>mW z5 c5 _ aA (H.l 0 rfl) i4) fun cb=>jA 1 rfl (xO (jA 1 rfl (jLc (fun H=>H.l 4 rfl) fun i6=>jA 1 rfl ?_)))))));refine xF ?_;refine zX (fun G=>.v fun p=>.st [(6,xU e),(13,xU h),(16,p)] [rl 1 xG 2 p G,bx h [xI d.1.vars,f] 43,rl 2 oU 134 f d.1.cons,bx e [xI i.size,t] 26]) ?_ (fun G p=>?_)
 ·
  refine eD (js [0,2,3,4,7] rfl ?_);refine jl (fun I K=>.v fun y=>.st [(60,xI (I:Int)),(4,A),(6,xU e),(13,xU h),(16,y),(58,U),(59,xI (d.2.1.length:Int))] [rl 1 xG 2 y K,bx h [xI d.1.vars,f] 43,rl 2 oU 134 f d.1.cons,rl 1 xG 2 U d.2.1,bx e [xI i.size,t] 26]) ⟨_,ls⟩ (fun _ K _ q1 y=>?_) (fun I x5 K L y1 y=>?_)
  ·
   have V:=qC q1;refine xL (jA 1 rfl (xV (gR V (xS (js [0,1,2,4] rfl ?_)))));exact jf ⟨_,ls⟩
  have V:=xW L;refine xL (jA 1 rfl (xV (gN V (qD ?_))));have j1:=jZ (Nat.le_of_lt L) i6;have m1:=vK L i6;refine kE (jA 1 rfl (js [3,0,1,2,4] rfl (lA fun w1 X1 N1 Y g1 _ C _=>?_)));have h5:=g1.ld;refine jI h5 y1 fun _ h6=>iG h6 fun _=>jA 2 rfl (bS ?_);refine zX (fun s3=>.st [(4,A),(6,xU e),(13,xU h),(16,y),(17,xI (I:Int)),(18,xI x5),(58,U),(59,xI (d.2.1.length:Int)),(60,xI (I:Int)),(80,.bool s3)] [rl 1 xG 2 y K,bx h [xI d.1.vars,f] 43,rl 2 oU 134 f d.1.cons,bx e [xI i.size,t] 26]) ?_ (fun _=>?_)
  ·
   refine lA fun _ _ _ ag g2 _ M _=>?_;have h7:=g2.ld;refine jQ (qR 2 rfl (jB fun z6 c6=>(jqI h7 c6 fun _ h8=>aD h8 fun _=>qR 2 rfl (dP 70 (fun _=>?_) (fun _=>?_)))))
   ·
    refine qR 2 rfl (jqI h7 c6 fun _ h9=>aD h9 fun _=>qR 2 rfl (jB fun z7 c7=>(jqI E c7 fun _ ah=>aD (s:=fun H w l=>(Y.trans (Sm.mono (ag.trans (Sm.mono (H.q w l) M.2.2)) C.2.2))) ah fun _=>qR 2 rfl (iS (dI (dL M ?_))))));exact jf ls
   refine qR 10 rfl (iS (dI (dL M ?_)));exact jf ls
  refine dI (zC (fun _=>?_) (fun _=>?_))
  ·
   refine xL (jA 2 rfl (pF (jrt (eX (jrj (a_R (dL C (jh (fun H=>H.nl 1 xG 2) (js [0] rfl ?_)))))))));exact j2 (rt rfl) (rt rfl) ⟨_,(show xH (6) by decide),lv⟩
  refine xLu (jA 4 rfl (jB fun z8 c8=>(jI E c8 fun _ ai=>iG (s:=fun H=>(Y.trans (Sm.mono H.sm C.2.2))) ai fun i7=>jB fun z9 c9=>(jRl 0 c9 fun _ aj=>jh (fun H=>H.lw) (jS aj (xAr c9) (fun H=>Eo.int i7) rfl (jh (fun H=>H.tl) (zQ ?_)))))));refine oQ m1 (jA 1 rfl (xF (dL C (js [1,2,3,0,4] rfl ?_))));exact jg ⟨_,ls⟩
 refine qQ (jR0 xG fun cc=>jA 1 rfl (xV ?_));refine zX (fun s4=>.v fun Z=>.st [(6,xU e),(13,xU h),(19,Z)] [rl 1 xG 2 Z s4,bx h [xI d.1.vars,f] 43,rl 2 oU 134 f d.1.cons,bx e [xI i.size,t] 26]) ?_ (fun _ _=>?_)
 ·
  refine eD ?_;refine jw (fun W=>.v fun z=>.st [(6,xU e),(13,xU h),(16,p),(19,z)] [rl 1 xG 2 z W,rl 1 xG 2 p G,bx h [xI d.1.vars,f] 43,rl 2 oU 134 f d.1.cons,bx e [xI i.size,t] 26]) ⟨_,ls⟩ fun _ W z=>xZr ?_;refine zX (fun s6=>.st [(6,xU e),(13,xU h),(16,p),(19,z),(102,.bool s6)] [rl 1 xG 2 z W,rl 1 xG 2 p G,bx h [xI d.1.vars,f] 43,rl 2 oU 134 f d.1.cons,bx e [xI i.size,t] 26]) ?_ (fun _=>?_)
  ·
   refine a_g (jA 1 rfl (jLc (fun H=>H.l 0 rfl) fun _=>jA 1 rfl (jLc (fun H=>H.l 1 rfl) fun _=>jA 2 rfl (dP 95 (fun _=>?_) (fun _=>?_)))))
   ·
    refine jA 2 rfl (jLc (fun H=>H.l 0 rfl) fun _=>jB fun cd ak=>(js [1,0,2,3,4] rfl (lA fun _ _ _ _ g3 _ al _=>?_)));have am:=g3.ld;refine jI am ak fun _ an=>iG an fun _=>jA 2 rfl (xF (dL al (js [1,0,2,3,4] rfl ?_)));exact jf ls
   refine jA 7 rfl (xF ?_);exact jf ls
  refine dI (zC (fun _=>?_) (fun _=>?_))
  ·
   refine oAe (jA 3 rfl (jLc (fun H=>H.l 0 rfl) fun _=>jB fun ce ao=>(js [1,0,2,3,4] rfl (lA fun _ _ _ _ g4 _ aq _=>?_))));have ar:=g4.ld;refine jI ar ao fun _ au=>iG au fun i8=>sL (fun H=>Eo.int i8) fun _=>jB fun cf av=>(js [1,0,2,3,4] rfl (jPL av fun cg=>jA 1 rfl (xSn (dL aq (js [1,0,2,3,4] rfl ?_)))));exact jg ⟨_,ls⟩
  refine sI (jbk (xCi (js [0,2,3,4] rfl ?_)));exact jf ⟨_,ls⟩
 refine qQ (zY 3 e3 (zY 1 e3 (js [2,0,1,3] rfl (lA fun _ _ _ _ g5 e1 a0 _=>?_))));have aw:=g5.ld;refine jB fun ax ay=>?_;refine jk (fun H=>xBx ax ay _ H.hN (xA.m i2 (H.u (e1 h2))) (xB.m i4 (H.u aw))) fun _=>lA fun _ _ _ _ g6 _ a1 _=>?_;have az:=g6.rod;refine jA 1 rfl (jB fun b0 b1=>(jk (fun H=>nN b0 b1 _ aA (H.a az) (H.l 0 rfl)) fun ch=>jA 5 rfl (xO (jA 2 rfl (xF (zC (fun _=>?_) (fun _=>?_)))))))
 ·
  refine xL (jA 2 rfl (xT (dL a1 (js [1,2,3,4] rfl (dL a0 (jh (fun H=>H.nl 1 xG 2) (js [0] rfl ?_)))))));exact j2 (rt rfl) (rt rfl) ⟨_,(show xH (6) by decide),lv⟩
 refine oY (jA 3 rfl (xP (dL a1 (js [1,2,3,4] rfl (dL a0 (js [1] rfl ?_))))));exact j2 (rt rfl) (rt rfl) ⟨_,(show xH (0) by decide),lv⟩
def kB:Nat→Template→Instance→(List Int)→(List Int)→Option ((List Int)×Bool)
  | 0,_,_,_,_=>none
  | N+1,d,e,f,c=>
  if ((c.length:Int)==e.vars) then
   some (c,true)
  else
   vC (σ:=Unit) (
    aY (σ:=Unit) (ρ:=(List Int)×Bool) (fun (h:Nat) (s:Unit)=>
      match s with
      | _=>
      vC (σ:=Bool) (
       xK (ix f (c.length:Int)) fun i=>
       if (decide (0≤i)) then  some (.nx (i != (h:Int))) else  some (.nx false)) fun t=>
      if t then
       some (.go ())
      else
       xK (qE c) fun y=>
       xK (ap y ([(h:Int)])) fun j=>
       xK (vU (l05Find.mk d e 0 ([]) 0) j) fun z=>
       if (!z) then
        some (.go ())
       else
        xK (kB N d e f j) fun p=>
        if p.2 then
         some (.ret (p.1,true))
        else
         some (.go ())) d.size.toNat 0 ()) fun _=>
   some ([],false)
theorem xDp:∀ (N:Nat) {B:Nat→Prop} {A:Template} {C:Instance} {E i:List Int} (r:(List Int)×Bool) (z:kB N A C E i=some r) {d:Value} {e:Value} {j:Value} {p:Value} (f:World) (hN:∀ c,B c→c<f.heap.size) (h:Bo B f (Pt 2 xA) d A) (t:Bo B f (Pt 2 xB) e C) (F:Bo B f (Sl 1 xG) j E) (G:Bo B f (Sl 1 xG) p i),Calls Tryz.prog 67 #[d,e,j,p] f (Gt B f [] (.v fun P=>.st (.tuple #[P,.bool r.2]) fun D=>ro B (V:=(Sl 1 xG)) P r.1::D)):=by
  intro N
  induction N with
  | zero=>intro B A C E i r z;unfold kB at z;cases z
  | succ N ih=>
  intro B A C E i r z d e j p f hN h t F G;rw[kB] at z
  revert r
  refine zI func67 [(0,d),(1,e),(2,j),(3,p)] (Sep.start hN) fun r=>?_;refine xL (jA 2 rfl (xN (jA 1 rfl (jL G fun _=>jA 1 rfl (xO (jA 2 rfl (jN t (dH t xB.f0 fun _ T=>iG T (fun _=>?_)))))))));refine jA 1 rfl (xF (zC (fun _=>?_) (fun _=>?_)))
  ·
   refine xL (jA 3 rfl (xT (jh (fun H=>H.rob G) ?_)));exact j2 (rt rfl) (rt rfl) ⟨_,lv⟩
  refine oY (jA 2 rfl ?_);refine qT (hone:=(fun H=>oc (H.a h).pone (oc (H.a t).pone on))) e5 (jX e2 fun I=>jA 1 rfl (xO (jA 1 rfl (xF (zX (fun _=>.st [] []) ?_ (fun _=>?_))))))
  ·
   refine eD ?_;refine jc (fun K _=>.st [(12,xI (K:Int)),(0,d),(1,e),(2,j),(3,p),(10,xI (i.length:Int)),(11,xU I)] [bx I [d,e,xI 0,cL,xI 0] 155]) ls (fun _ _ _ y=>?_) (fun _ K _ y=>?_)
   ·
    have L:=iL y;refine oH (jA 2 rfl (jN h (dH h xA.f0 fun _ U=>iG U fun _=>jA 1 rfl (xF (gR L (xS (js [] rfl ?_)))))));exact jf ls
   have L:=eW y;refine oH (jA 2 rfl (jN h (dH h xA.f0 fun _ W=>iG W fun R=>jA 1 rfl (xF (gN L (qD ?_))))));have j1:=xBl y R;have M:=mB y R;refine xXt ?_;refine zX (fun X=>.st [(0,d),(1,e),(2,j),(3,p),(10,xI (i.length:Int)),(11,xU I),(12,xI (K:Int)),(49,.bool X)] [bx I [d,e,xI 0,cL,xI 0] 155]) ?_ (fun _=>?_)
   ·
    refine a_g (jA 2 rfl (jB fun z1 S=>(jI F S fun _ Y=>iG Y fun _=>jA 2 rfl (dP 42 (fun _=>?_) (fun _=>?_)))))
    ·
     refine jA 2 rfl (jI F S fun _ Z=>iG Z fun _=>jA 3 rfl (xF ?_));exact jf ls
    refine jA 7 rfl (xF ?_);exact jf ls
   refine dI (zC (fun _=>?_) (fun _=>?_))
   ·
    refine xAg (jA 1 rfl (oQ M (jA 1 rfl (xF ?_))));exact jg ls
   refine oY (jA 1 rfl (jB fun z2 c2=>(jk (fun H=>eI z2 c2 _ aA (H.a G)) fun _=>jA 1 rfl (sL (fun H=>Eo.int j1) fun _=>jB fun z3 c3=>(js [1,0,2] rfl (jPL c3 fun _=>jA 1 rfl (xO ?_)))))));refine jA 2 rfl (jB fun z4 c4=>(jk (fun H=>nK z4 c4 _ aA (vO.b (H.g 1 rfl).bk (H.a h) (H.a t) (show xH 0 by decide) Bo.snil (show xH 0 by decide)) (H.l 0 rfl)) (jA 1 rfl (xF (zC (fun _=>?_) (fun _=>?_))))))
   ·
    refine xAg (jA 1 rfl (oQ M (jA 1 rfl (xF (js [1] rfl ?_)))));exact jg ls
   refine oY (jA 4 rfl (lA fun _ _ _ _ g1 O Q _=>?_));have h6:=g1.ld;refine jB fun z5 c5=>(jk (fun H=>ih z5 c5 _ H.hN (H.u (O h)) (H.u (O t)) (H.u (O F)) (H.u h6)) fun v4=>jA 5 rfl (xN (jA 1 rfl (xF (zC (fun _=>?_) (fun _=>?_))))))
   ·
    refine xL (jA 3 rfl (vE (jrt (eX (jrj (a_R (js [0] rfl (jh (fun H=>Q.2.1 H (Ns.all trivial)) ?_))))))));exact j2 (rt rfl) (rt rfl) ⟨_,lv⟩
   refine vY (jA 1 rfl (oQ M (jA 1 rfl (xF (js [1] rfl (dL Q (js [1] rfl ?_)))))));exact jg ls
  refine qQ (jR0 xG fun v5=>jA 2 rfl (xP (jh (fun H=>H.lw) (jh (fun H=>H.rwo) (jh (fun H=>H.rok) ?_)))));exact j2 (rt rfl) (rt rfl) ⟨_,lv⟩
theorem xFo {B:Nat→Prop} {N:Nat} {f:Template} {h:Instance} {i j:List Int} (r:(List Int)×Bool) (A:kB N f h i j=some r) {p:Value} {t:Value} {y:Value} {z:Value} (d:World) (hN:∀ c,B c→c<d.heap.size) (C:Bo B d (Pt 2 xA) p f) (E:Bo B d (Pt 2 xB) t h) (F:Bo B d (Sl 1 xG) y i) (G:Bo B d (Sl 1 xG) z j):Calls Tryz.prog 67 #[p,t,y,z] d (Gt B d [] (.v fun e=>.st (.tuple #[e,.bool r.2]) fun D=>ro B (V:=(Sl 1 xG)) e r.1::D)):=
  xDp N r A d hN C E F G
def cG (N:Nat) (e f:Template) (i:Gadgets) (c:Instance) (h:List Int):Option ((List Int)×Int):=
 xK (aP N (Template.mk e.size e.rels) (Template.mk f.size f.rels) (Gadgets.mk i.formulas) (Instance.mk c.vars c.cons)) fun t=>
 if (!t) then
  some ([],1)
 else
  xK (bM e.size c.vars h) fun y=>
  if (!y) then
   some ([],2)
  else
   xK (aU (Template.mk e.size e.rels) (Instance.mk c.vars c.cons) h) fun z=>
   if (decide (0≤z)) then
    some ([],4)
   else
    xK (aN (Gadgets.mk i.formulas) (Instance.mk c.vars c.cons)) fun d=>
    if (d.2.2 != 0) then
     some ([],d.2.2)
    else
     vC (σ:=(List Int)) (
      aY (σ:=(List Int)) (ρ:=(List Int)×Int) (fun (H:Nat) (A:(List Int))=>
       xK (ap A ([(-1)])) fun B=>
       some (.go B)) d.1.vars.toNat 0 []) fun C=>
     vC (σ:=(List Int)) (
      oM (σ:=(List Int)) (ρ:=(List Int)×Int) (fun (D:Nat) (j:Int) (p:(List Int))=>
       xK (ix h (D:Int)) fun E=>
       xK (ix p j) fun I=>
       some (.go (p.set (j).toNat E))) d.2.1 0 C) fun F=>
     xK (kB N (Template.mk f.size f.rels) (Instance.mk d.1.vars d.1.cons) F ([])) fun G=>
     some (G.1,0)
theorem xAp {B:Nat→Prop} {N:Nat} {x0 p:Template} {x2:Gadgets} {x3:Instance} {x4:List Int} (r:(List Int)×Int) (hR:cG N x0 p x2 x3 x4=some r) {K:Value} {L:Value} {M:Value} {O:Value} {t:Value} (f:World) (hN:∀ c,B c→c<f.heap.size) (A0:Bo B f (qG 2 xA) K x0) (A1:Bo B f (qG 2 xA) L p) (A2:Bo B f (qG 1 xJ) M x2) (A3:Bo B f (qG 2 xB) O x3) (P:Bo B f (Sl 1 xG) t x4):Calls Tryz.prog 28 #[K,L,M,O,t] f (Gt B f [] (.v fun X=>.fa (xH r.2) <| .st (.tuple #[X,xI r.2]) fun D=>ro B (V:=(Sl 1 xG)) X r.1::D)):=by
 unfold cG at hR
 revert r
 refine zI func28 [(0,K),(1,L),(2,M),(3,O),(4,t)] (Sep.start hN) fun r=>?_;refine xL ?_;obtain⟨v5,rfl,Q,h1⟩:=xA.o A0;refine jX e2 (fun _=>?_);obtain⟨A,rfl,i2,h2⟩:=xA.o A1;refine jX e2 (fun h=>?_);obtain⟨v6,rfl,h3⟩:=xJ.o A2;refine jX e2 (fun _=>?_);obtain⟨v7,rfl,E,R⟩:=xB.o A3;refine jX e2 fun _=>jA 2 rfl (xO (jB fun z1 c1=>(jk (fun H=>tK z1 c1 _ aA (xA.b (H.g 3 rfl).bk Q (H.a h1)) (xA.b (H.g 2 rfl).bk i2 (H.a h2)) (xJ.b (H.g 1 rfl).bk (H.a h3)) (xB.b (H.g 0 rfl).bk E (H.a R))) (jA 1 rfl (xF (zC (fun _=>?_) (fun _=>?_)))))))
 ·
  refine xL (jR0 xG fun v8=>jA 2 rfl (xT (js [0] rfl (jh (fun H=>H.lw) (jh (fun H=>H.rwo) (jh (fun H=>H.rok) ?_))))));exact j2 (rt rfl) (rt rfl) ⟨_,(show xH (1) by decide),lv⟩
 refine kZ (xY e2 (jb 3 e3 (xY e2 (jb 0 e3 (jA 1 rfl (jB fun z2 ae=>(jk (fun H=>nH z2 ae _ aA Q E (H.a P)) (jA 1 rfl (xF (zC (fun _=>?_) (fun _=>?_)))))))))))
 ·
  refine xL (jR0 xG fun v9=>jA 2 rfl (xT (js [0] rfl (jh (fun H=>H.lw) (jh (fun H=>H.rwo) (jh (fun H=>H.rok) ?_))))));exact j2 (rt rfl) (rt rfl) ⟨_,(show xH (2) by decide),lv⟩
 refine kZ (jA 1 rfl (jB fun z3 c2=>(jk (fun H=>rS z3 c2 _ aA (xA.b (H.g 3 rfl).bk Q (H.a h1)) (xB.b (H.g 0 rfl).bk E (H.a R)) (H.a P)) fun bg=>jA 1 rfl (xF (zC (fun _=>?_) (fun _=>?_))))))
 ·
  refine xL (jR0 xG fun bh=>jA 2 rfl (xT (js [0] rfl (jh (fun H=>H.lw) (jh (fun H=>H.rwo) (jh (fun H=>H.rok) ?_))))));exact j2 (rt rfl) (rt rfl) ⟨_,(show xH (4) by decide),lv⟩
 refine oY (jB fun d c3=>(jk (fun H=>tE d c3 _ aA (xJ.b (H.g 1 rfl).bk (H.a h3)) (xB.b (H.g 0 rfl).bk E (H.a R))) fun e j S i5=>jA 4 rfl (dG rfl (fun i=>?_))));refine bC (hv:=(fun H=>oc rfl (oc (H.l 1 rfl).one on))) e3 (jA 2 rfl (xO (jA 2 rfl (xF (zC (fun _=>?_) (fun _=>?_))))))
 ·
  refine xL (jR0 xG fun bi=>jA 3 rfl (xT (js [0] rfl (jh (fun H=>H.lw) (jh (fun H=>H.rwo) (jh (fun H=>H.rok) ?_))))));exact j2 (rt rfl) (rt rfl) ⟨_,i5,lv⟩
 refine oY (jR0 xG fun bj=>jA 1 rfl (xO (jA 1 rfl (xF ?_))));refine zX (fun s1=>.v fun F=>.st [(4,t),(6,xU h),(12,xU i),(13,j),(15,F)] [rl 1 xG 2 F s1,bx i [xI d.1.vars,e] 43,rl 2 oU 134 e d.1.cons,rl 1 xG 2 j d.2.1,bx h [xI p.size,A] 26]) ?_ (fun s1 F=>?_)
 ·
  refine eD (js [0,1,2,3,6] rfl ?_);refine jc (fun k1 s2=>.v fun G=>.st [(16,xI (k1:Int)),(4,t),(6,xU h),(12,xU i),(13,j),(15,G)] [rl 1 xG 2 G s2,bx i [xI d.1.vars,e] 43,rl 2 oU 134 e d.1.cons,rl 1 xG 2 j d.2.1,bx h [xI p.size,A] 26]) ⟨_,ls⟩ (fun _ s2 _ y G=>?_) (fun _ k1 _ y _=>?_)
  ·
   have T:=iL y;refine oH (jA 1 rfl (xY e2 (jb 1 e3 (jA 1 rfl (xF (gR T (xS ?_)))))));exact jf ⟨_,ls⟩
  have T:=eW y;refine oH (jA 1 rfl (xY e2 (jb 1 e3 (jA 1 rfl (xF (gN T (qD ?_)))))));have j1:=xBl y S;have m1:=mB y S;refine xJr (jA 1 rfl (sL (fun H=>Eo.int (show xH (-1) by decide)) fun _=>jB fun z5 c4=>(js [1,0,2,3,4,5] rfl (jPL c4 fun bm=>jA 1 rfl (zQ (jA 1 rfl (oQ m1 (jA 1 rfl ?_))))))));refine xF ?_;exact jg ⟨_,ls⟩
 refine sQ (jA 1 rfl (xF ?_));refine zX (fun s3=>.v fun Y=>.st [(6,xU h),(12,xU i),(15,Y)] [rl 1 xG 2 Y s3,bx i [xI d.1.vars,e] 43,rl 2 oU 134 e d.1.cons,bx h [xI p.size,A] 26]) ?_ (fun _ _=>?_)
 ·
  refine eD ?_;refine jl (fun k2 U=>.v fun C=>.st [(17,xI (k2:Int)),(4,t),(6,xU h),(12,xU i),(13,j),(15,C)] [rl 1 xG 2 C U,bx i [xI d.1.vars,e] 43,rl 2 oU 134 e d.1.cons,rl 1 xG 2 j d.2.1,bx h [xI p.size,A] 26]) ⟨_,ls⟩ (fun _ U _ q1 C=>?_) (fun k2 x5 U I y1 C=>?_)
  ·
   have W:=qC q1;refine oH (jA 2 rfl (jLc (fun H=>H.l 3 rfl) fun _=>jA 1 rfl (xF (gR W (xS (js [0,1,2,4] rfl ?_))))));exact jf ⟨_,ls⟩
  have W:=xW I;refine oH (jA 2 rfl (jLc (fun H=>H.l 3 rfl) fun i6=>jA 1 rfl (xF (gN W (qD ?_)))));have j3:=jZ (Nat.le_of_lt I) i6;have m2:=vK I i6;refine eD (jB fun z6 c5=>(jB fun z7 c6=>(js [3,0,1,2,4] rfl (lA fun _ _ _ af g1 _ Z _=>?_))));have h5:=g1.ld;refine jD (jvA [0,1,2] rfl (jvI 3 rfl h5 y1 fun _ h6=>xMg 4 rfl h6 fun _=>jvA [5,6] rfl (jvI 7 rfl P c5 fun _ h7=>xMg (s:=fun H w l=>(af.trans (Sm.mono (H.v w l) Z.2.2))) 8 rfl h7 fun i7=>jE 9 rfl (jRl 0 c6 fun _ ag=>kK (jE 10 rfl ?_)))));refine jh (fun H=>H.lw) (jS ag (xAr c6) (fun H=>Eo.int i7) rfl (jh (fun H=>H.tl) (kK (jbe (mU (jA 1 rfl (oQ m2 (jA 1 rfl (xF (dL Z ?_))))))))));refine js [1,2,3,0,4] rfl ?_;exact jg ⟨_,ls⟩
 refine qQ (jA 1 rfl (jR0 xG fun _=>js [4,2,3,1,0] rfl (jh (fun H=>H.mg) (jh (fun H=>H.mg) (jh (fun H=>H.mg) (jh (fun H=>H.mg) (lA fun _ _ _ _ z e1 ah _=>?_)))))));have K1:=z.l.l.l.l.bk;have K2:=z.l.l.l.r.bk;have h8:=z.l.l.r.ld;have h9:=z.l.r.ld;have ai:=z.r.ld;refine jB fun z8 c7=>(jk (fun H=>xFo z8 c7 _ H.hN (xA.b (K1.to H.sm) i2 (H.u (e1 h2))) (xB.b (K2.to H.sm) S (H.u h8)) (H.u h9) (H.u ai)) fun bn=>jA 5 rfl (xN (jA 3 rfl (xP (jh (fun H=>ah.2.1 H (Ns.all trivial)) ?_)))));exact j2 (rt rfl) (rt rfl) ⟨_,(show xH (0) by decide),lv⟩
end Go.Proofs.YtlommebgedmjdaaGreatDoor
namespace Go.Proofs.YtlommebgedmjdaaGreatDoor
open Go.Proofs.Tryz
set_option linter.unusedVariables false
set_option linter.unusedSimpArgs false
set_option maxRecDepth 100000
open Go.RowKit
def laws_FnGadgets (N:Nat) (C D:List UInt8):Option Bool:=
 vC (σ:=Bool) (
  xK (laws_f6big C) fun Y=>
  if Y then  some (.nx true) else  xK (laws_f6big D) fun Z=>
   some (.nx Z)) fun s1=>
 if s1 then
  some true
 else
  xK (gA N C 2) fun d=>
  xK (eQ N D (Template.mk d.size d.rels)) fun c=>
  xK (aB (Gadgets.mk c.2.formulas)) fun z5=>
  xK (bL z5) fun E=>
  xK (dS N (Template.mk c.1.size c.1.rels) (Template.mk d.size d.rels) (Gadgets.mk c.2.formulas)) fun z7=>
  vC (σ:=Bool) (
   if (E.2 != 0) then  some (.nx true) else  xK (aF (Gadgets.mk E.1.formulas) (Gadgets.mk c.2.formulas)) fun z8=>
    if (!z8) then  some (.nx true) else  xK (dD (Gadgets.mk E.1.formulas) (Gadgets.mk c.2.formulas)) fun z9=>
     if (!z9) then  some (.nx true) else  xK (qU N (Template.mk c.1.size c.1.rels) (Template.mk d.size d.rels) (Gadgets.mk c.2.formulas)) fun O=>
      if (!O) then  some (.nx true) else  some (.nx (z7.2.2 != 6))) fun s2=>
  if s2 then
   some false
  else
   xK (dU N C (Template.mk c.1.size c.1.rels) 3) fun e=>
   xK (kR N (Template.mk c.1.size c.1.rels) (Template.mk d.size d.rels) (Gadgets.mk c.2.formulas) (Instance.mk e.vars e.cons)) fun h=>
   xK (cA N (Template.mk c.1.size c.1.rels) (Template.mk d.size d.rels) (Gadgets.mk c.2.formulas) (Instance.mk e.vars e.cons)) fun f=>
   vC (σ:=Bool) (
    if (h.2.2 != f.2.2) then  some (.nx true) else  xK (kS (Instance.mk h.1.vars h.1.cons) (Instance.mk f.1.vars f.1.cons)) fun P=>
     if (!P) then  some (.nx true) else  xK (aE h.2.1 f.2.1) fun Q=>
      some (.nx (!Q))) fun s3=>
   if s3 then
    some false
   else
    xK (dO (Template.mk c.1.size c.1.rels)) fun j=>
    xK (kR N (Template.mk c.1.size c.1.rels) (Template.mk c.1.size c.1.rels) (Gadgets.mk j.1.formulas) (Instance.mk e.vars e.cons)) fun p=>
    vC (σ:=Bool) (
     if (j.2 != 0) then  some (.nx true) else  if (p.2.2 != 0) then  some (.nx true) else  xK (kS (Instance.mk p.1.vars p.1.cons) (Instance.mk e.vars e.cons)) fun R=>
       some (.nx (!R))) fun s4=>
    if s4 then
     some false
    else
     xK (zW N (Template.mk c.1.size c.1.rels) (Template.mk c.1.size c.1.rels) (Template.mk d.size d.rels) (Gadgets.mk j.1.formulas) (Gadgets.mk c.2.formulas)) fun F=>
     xK (dV (Template.mk d.size d.rels)) fun G=>
     xK (zW N (Template.mk c.1.size c.1.rels) (Template.mk d.size d.rels) (Template.mk d.size d.rels) (Gadgets.mk c.2.formulas) (Gadgets.mk G.1.formulas)) fun H=>
     vC (σ:=Bool) (
      if (F.2 != 0) then  some (.nx true) else  xK (qU N (Template.mk c.1.size c.1.rels) (Template.mk d.size d.rels) (Gadgets.mk F.1.formulas)) fun S=>
       if (!S) then  some (.nx true) else  if (G.2 != 0) then  some (.nx true) else  if (H.2 != 0) then  some (.nx true) else  xK (aF (Gadgets.mk H.1.formulas) (Gadgets.mk c.2.formulas)) fun T=>
          some (.nx (!T))) fun s5=>
     if s5 then
      some false
     else
      if (h.2.2 != 0) then
       some ((h.2.2==3))
      else
       xK (vD N (Template.mk c.1.size c.1.rels) (Instance.mk e.vars e.cons)) fun t=>
       xK (vD N (Template.mk d.size d.rels) (Instance.mk f.1.vars f.1.cons)) fun y=>
       if (t.2 != y.2) then
        some false
       else
        if (t.2 != 0) then
         some ((t.2==6))
        else
         xK (bU N (Template.mk c.1.size c.1.rels) (Template.mk d.size d.rels) (Gadgets.mk c.2.formulas) (Instance.mk e.vars e.cons) y.1) fun I=>
         xK (gD y.1 f.2.1) fun K=>
         xK (dQ (Template.mk c.1.size c.1.rels) (Instance.mk e.vars e.cons) K) fun L=>
         vC (σ:=Bool) (
          if (I.2 != 0) then  some (.nx true) else  if (L.2 != 0) then  some (.nx true) else  if (!L.1) then  some (.nx true) else  xK (aE I.1 K) fun U=>
             some (.nx (!U))) fun s6=>
         if s6 then
          some false
         else
          xK (bX N (Template.mk c.1.size c.1.rels) (Instance.mk e.vars e.cons)) fun i=>
          vC (σ:=Bool) (
           if (i.2 != 0) then  some (.nx true) else  some (.nx ((i.1.length:Int)==0))) fun s7=>
          if s7 then
           some false
          else
           xK (mP D (i.1.length:Int)) fun V=>
           xK (ix i.1 V) fun z=>
           xK (cJ N (Template.mk c.1.size c.1.rels) (Template.mk d.size d.rels) (Gadgets.mk c.2.formulas) (Instance.mk e.vars e.cons) z) fun A=>
           xK (cG N (Template.mk c.1.size c.1.rels) (Template.mk d.size d.rels) (Gadgets.mk c.2.formulas) (Instance.mk e.vars e.cons) z) fun B=>
           vC (σ:=Bool) (
            if (A.2 != B.2) then  some (.nx true) else  if (A.2 != 0) then  some (.nx true) else  xK (aE A.1 B.1) fun W=>
              some (.nx (!W))) fun s8=>
           if s8 then
            some false
           else
            xK (bU N (Template.mk c.1.size c.1.rels) (Template.mk d.size d.rels) (Gadgets.mk c.2.formulas) (Instance.mk e.vars e.cons) B.1) fun M=>
            vC (σ:=Bool) (
             if (M.2==0) then  xK (aE M.1 z) fun X=>
              some (.nx X) else  some (.nx false)) fun s9=>
            some s9
theorem laws_FnGadgets_c {B:Nat→Prop} {N:Nat} {x0 x1:List UInt8} (r:Bool) (hR:laws_FnGadgets N x0 x1=some r) {v0:Value} {L:Value} (U:World) (hN:∀ c,B c→c<U.heap.size) (hG:GloE U) (A0:Bo B U (Sl 1 aW) v0 x0) (A1:Bo B U (Sl 1 aW) L x1):Calls Tryz.prog 3 #[v0,L] U (Gt B U [] (.st (.bool r) fun D=>D)):=by
 unfold laws_FnGadgets at hR
 revert r
 refine zI func3 [(0,v0),(1,L)] (Sep.start hN) fun r=>?_;refine xL (jA 1 rfl (bS (zX (fun s1=>.st [(0,v0),(1,L),(53,.bool s1)] []) ?_ (fun _=>?_))))
 ·
  refine a_g (jA 1 rfl (jB fun z1 c1=>(jk (fun H=>laws_f6big_c z1 c1 _ aA (H.a A0)) (jA 1 rfl (dP 50 (fun _=>?_) (fun _=>?_))))))
  ·
   refine jA 3 rfl (xF ?_);exact jf ls
  refine jA 1 rfl (jB fun z2 c2=>(jk (fun H=>laws_f6big_c z2 c2 _ aA (H.a A1)) (jA 1 rfl (xF ?_))));exact jf ls
 refine dI (zC (fun _=>?_) (fun _=>?_))
 ·
  refine xL (jA 1 rfl (xT ?_));exact zB (rt rfl) lv
 refine oY (jA 1 rfl (jB fun Q c3=>(jk (fun H=>xAc Q c3 _ aA (H.a A0) (show xH (2) by decide)) fun W i=>dG rfl (fun z=>?_))));refine bC (hv:=(fun H=>oc rfl (oc (H.l 1 rfl).one on))) e3 (xN (jA 1 rfl (zY 0 e3 (js [1,0] rfl (lA fun w1 X1 X _ g1 e1 A _=>?_)))));have j:=g1.ld;refine jB fun p c4=>?_;refine jk (fun H=>xBn p c4 _ H.hN (H.u (e1 A1)) (xA.m i (H.u j))) fun O F d=>jA 3 rfl (dG rfl fun G=>dG rfl fun C=>js [1,0,2,3,4] rfl ?_);refine bC (hv:=(fun H=>oc rfl (oc (H.l 2 rfl).one on))) e3 (js [1,0,2,3,4] rfl ?_);refine bC (hv:=(fun H=>oc (H.r 3 rfl).one on)) e3 (xN (zY 0 e3 (jB fun z5 c5=>?_)));refine jk (fun H=>pZ z5 c5 _ aA (hG.go (A.1 (H.s [0,1,2,4] rfl rfl) (Ns.all ⟨n0,⟨n0,⟨n0,⟨n0,trivial⟩⟩⟩⟩)).bl).toGlo (xJ.m (H.r 3 rfl))) fun i3=>jB fun z6 c6=>?_;refine jk (fun H=>yK z6 c6 _ aA (hG.go (A.1 (H.s [0,1,2,4] rfl rfl) (Ns.all ⟨n0,⟨n0,⟨n0,⟨n0,trivial⟩⟩⟩⟩)).bl) i3) fun v5 _=>jA 3 rfl (dG rfl (fun _=>?_));refine bC (hv:=(fun H=>oc (H.l 1 rfl).one on)) e3 (jA 1 rfl (xN (zY 3 e3 (zY 6 e3 (zY 2 e3 (jB fun z7 b0=>?_))))));refine jk (fun H=>xAw z7 b0 _ aA (xA.m d (H.l 4 rfl)) (xA.m i (H.a j)) (xJ.m (H.r 5 rfl))) fun _ _ _=>jA 7 rfl (bS ?_);refine zX (fun s2=>.st [(0,v0),(1,L),(5,xU z),(6,xU G),(7,xU C),(100,.bool s2)] [bx C [F] 30,bx G [xI p.1.size,O] 26,rl 2 oV 108 O p.1.rels,rw X 3 xC 72 F p.2.formulas,bx z [xI Q.size,W] 26]) ?_ (fun _=>?_)
 ·
  refine a_g (jA 3 rfl (dP 78 (fun _=>?_) (fun _=>?_)))
  ·
   refine jA 22 rfl (xF (js [3,4,5,6,7] rfl ?_));exact jf ls
  refine zY 1 e3 (zY 3 e3 (jB fun z8 c7=>?_));refine jk (fun H=>pV z8 c7 _ aA (xJ.m (H.l 2 rfl)) (xJ.m (H.r 6 rfl))) (jA 3 rfl (dP 84 (fun _=>?_) (fun _=>?_)))
  ·
   refine jA 16 rfl (xF (js [3,4,5,6,7] rfl ?_));exact jf ls
  refine zY 1 e3 (zY 3 e3 (jB fun z9 c8=>?_));refine jk (fun H=>yQ z9 c8 _ aA (xJ.m (H.l 2 rfl)) (xJ.m (H.r 6 rfl))) (jA 3 rfl (dP 90 (fun _=>?_) (fun _=>?_)))
  ·
   refine jA 10 rfl (xF (js [3,4,5,6,7] rfl ?_));exact jf ls
  refine zY 4 e3 (zY 7 e3 (zY 3 e3 (jB fun b1 c9=>?_)));refine jk (fun H=>cN b1 c9 _ aA (xA.m d (H.l 5 rfl)) (xA.m i (H.a j)) (xJ.m (H.r 6 rfl))) (jA 3 rfl (dP 97 (fun _=>?_) (fun _=>?_)))
  ·
   refine jA 3 rfl (xF (js [3,4,5,6,7] rfl ?_));exact jf ls
  refine jA 3 rfl (xF (js [3,4,5,6,7] rfl ?_));exact jf ls
 refine dI (zC (fun _=>?_) (fun _=>?_))
 ·
  refine xL (jA 1 rfl (xT (js [0,1,2,4] rfl (dL A ?_))));exact zB (rt rfl) lv
 refine oY (jA 1 rfl (zY 1 e3 (jB fun P b2=>?_)));refine jk (fun H=>xAf P b2 _ aA (H.a (e1 A0)) (xA.m d (H.l 2 rfl)) (show xH (3) by decide)) fun Y I=>dG rfl (fun M=>?_);refine bC (hv:=(fun H=>oc rfl (oc (H.l 1 rfl).one on))) e3 (xN (zY 3 e3 (zY 6 e3 (zY 2 e3 (zY 0 e3 (jB fun a5 b3=>?_))))));refine jk (fun H=>nJ a5 b3 _ aA (xA.m d (H.l 4 rfl)) (xA.m i (H.a j)) (xJ.m (H.r 5 rfl)) (xB.m I (H.l 1 rfl))) fun v7 _ i5 _=>jA 4 rfl (dG rfl (fun _=>?_));refine bC (hv:=(fun H=>oc rfl (oc (H.l 1 rfl).one on))) e3 (jA 2 rfl (xN (zY 6 e3 (zY 9 e3 (zY 5 e3 (zY 3 e3 (jB fun K c12=>?_)))))));refine jk (fun H=>wM K c12 _ aA (xA.m d (H.l 7 rfl)) (xA.m i (H.a j)) (xJ.m (H.r 8 rfl)) (xB.m I (H.l 4 rfl))) fun Z v9 i6 _=>jA 4 rfl (dG rfl (fun b4=>?_));refine bC (hv:=(fun H=>oc rfl (oc (H.l 1 rfl).one on))) e3 (jA 2 rfl (bS ?_));refine zX (fun s3=>.st [(1,L),(5,xU z),(6,xU G),(7,xU C),(13,xU M),(16,xI a5.2.2),(17,xU b4),(18,v9),(136,.bool s3)] [bx b4 [xI K.1.vars,Z] 43,rl 2 oU 134 Z K.1.cons,rl 1 xG 2 v9 K.2.1,bx M [xI P.vars,Y] 43,rl 2 oU 134 Y P.cons,bx C [F] 30,bx G [xI p.1.size,O] 26,rl 2 oV 108 O p.1.rels,rw X 3 xC 72 F p.2.formulas,bx z [xI Q.size,W] 26]) ?_ (fun _=>?_)
 ·
  refine a_g (jA 4 rfl (dP 125 (fun _=>?_) (fun _=>?_)))
  ·
   refine jA 11 rfl (xF (js [0,1,2,6,7,8,9,10,11,12] rfl ?_));exact jf ls
  refine zY 3 e3 (zY 0 e3 (jB fun z14 b6=>?_));refine jk (fun H=>nL z14 b6 _ aA (xB.m i5 (H.l 4 rfl)) (xB.m i6 (H.l 1 rfl))) (jA 3 rfl (dP 131 (fun _=>?_) (fun _=>?_)))
  ·
   refine jA 5 rfl (xF (js [0,1,2,6,7,8,9,10,11,12] rfl ?_));exact jf ls
  refine jA 2 rfl (jB fun b7 b8=>(jk (fun H=>fM b7 b8 _ aA (H.l 5 rfl) (H.l 2 rfl)) (jA 2 rfl (xF (js [0,1,2,6,7,8,9,10,11,12] rfl ?_)))));exact jf ls
 refine dI (zC (fun _=>?_) (fun _=>?_))
 ·
  refine xL (jA 1 rfl (xT (js [0,1,2,3,4,5,6,7,9] rfl (dL A ?_))));exact zB (rt rfl) lv
 refine oY (zY 6 e3 (jB fun ag b9=>?_));refine jk (fun H=>xAd ag b9 _ aA (xA.m d (H.l 7 rfl))) fun ah _=>jA 3 rfl (dG rfl (fun b5=>?_));refine bC (hv:=(fun H=>oc (H.l 1 rfl).one on)) e3 (jA 1 rfl (xN (zY 8 e3 (zY 8 e3 (zY 0 e3 (zY 5 e3 (jB fun ba bb=>?_)))))));refine jk (fun H=>nJ ba bb _ aA (xA.m d (H.l 9 rfl)) (xA.m d (H.l 9 rfl)) (xJ.m (H.l 1 rfl)) (xB.m I (H.l 6 rfl))) fun dm _ i7 _=>jA 4 rfl (dG rfl (fun _=>?_));refine bC (hv:=(fun H=>oc rfl (oc (H.l 1 rfl).one on))) e3 (jA 2 rfl (bS ?_));refine zX (fun s4=>.st [(1,L),(5,xU z),(6,xU G),(7,xU C),(13,xU M),(16,xI a5.2.2),(17,xU b4),(18,v9),(20,xU b5),(162,.bool s4)] [bx b5 [ah] 30,rl 3 xC 72 ah ag.1.formulas,bx b4 [xI K.1.vars,Z] 43,rl 2 oU 134 Z K.1.cons,rl 1 xG 2 v9 K.2.1,bx M [xI P.vars,Y] 43,rl 2 oU 134 Y P.cons,bx C [F] 30,bx G [xI p.1.size,O] 26,rl 2 oV 108 O p.1.rels,rw X 3 xC 72 F p.2.formulas,bx z [xI Q.size,W] 26]) ?_ (fun _=>?_)
 ·
  refine a_g (jA 3 rfl (dP 153 (fun _=>?_) (fun _=>?_)))
  ·
   refine jA 9 rfl (xF (js [3,4,5,6,7,8,9,10,11,12,13,14] rfl ?_));exact jf ls
  refine jA 4 rfl (dP 157 (fun _=>?_) (fun _=>?_))
  ·
   refine jA 5 rfl (xF (js [3,4,5,6,7,8,9,10,11,12,13,14] rfl ?_));exact jf ls
  refine zY 0 e3 (zY 8 e3 (jB fun bc bd=>?_));refine jk (fun H=>nL bc bd _ aA (xB.m i7 (H.l 1 rfl)) (xB.m I (H.l 9 rfl))) (jA 2 rfl (xF (js [3,4,5,6,7,8,9,10,11,12,13,14] rfl ?_)));exact jf ls
 refine dI (zC (fun _=>?_) (fun _=>?_))
 ·
  refine xL (jA 1 rfl (xT (js [0,1,2,3,4,5,6,7,8,9,11] rfl (dL A ?_))));exact zB (rt rfl) lv
 refine oY (zY 8 e3 (zY 8 e3 (zY 11 e3 (zY 0 e3 (zY 7 e3 (jB fun be bf=>?_))))));refine jk (fun H=>lX be bf _ aA (xA.m d (H.l 9 rfl)) (xA.m d (H.l 9 rfl)) (xA.m i (H.a j)) (xJ.m (H.l 1 rfl)) (xJ.m (H.r 10 rfl))) fun dq _=>jA 3 rfl (dG rfl (fun _=>?_));refine bC (hv:=(fun H=>oc (H.l 1 rfl).one on)) e3 (jA 1 rfl (xN (zY 13 e3 (jB fun bg bh=>?_))));refine jk (fun H=>xAs bg bh _ aA (xA.m i (H.a j))) fun dr _=>jA 3 rfl (dG rfl (fun _=>?_));refine bC (hv:=(fun H=>oc (H.l 1 rfl).one on)) e3 (jA 1 rfl (xN (zY 12 e3 (zY 15 e3 (zY 15 e3 (zY 11 e3 (zY 0 e3 (jB fun bi bj=>?_))))))));refine jk (fun H=>lX bi bj _ aA (xA.m d (H.l 13 rfl)) (xA.m i (H.a j)) (xA.m i (H.a j)) (xJ.m (H.r 14 rfl)) (xJ.m (H.l 1 rfl))) fun ds _=>jA 3 rfl (dG rfl (fun _=>?_));refine bC (hv:=(fun H=>oc (H.l 1 rfl).one on)) e3 (jA 1 rfl (bS ?_));refine zX (fun s5=>.st [(1,L),(5,xU z),(6,xU G),(7,xU C),(13,xU M),(16,xI a5.2.2),(17,xU b4),(18,v9),(208,.bool s5)] [bx b4 [xI K.1.vars,Z] 43,rl 2 oU 134 Z K.1.cons,rl 1 xG 2 v9 K.2.1,bx M [xI P.vars,Y] 43,rl 2 oU 134 Y P.cons,bx C [F] 30,bx G [xI p.1.size,O] 26,rl 2 oV 108 O p.1.rels,rw X 3 xC 72 F p.2.formulas,bx z [xI Q.size,W] 26]) ?_ (fun _=>?_)
 ·
  refine a_g (jA 3 rfl (dP 188 (fun _=>?_) (fun _=>?_)))
  ·
   refine jA 20 rfl (xF (js [8,9,10,11,12,13,14,15,16,17] rfl ?_));exact jf ls
  refine zY 14 e3 (zY 17 e3 (zY 4 e3 (jB fun bm bn=>?_)));refine jk (fun H=>cN bm bn _ aA (xA.m d (H.l 15 rfl)) (xA.m i (H.a j)) (xJ.m (H.l 5 rfl))) (jA 3 rfl (dP 195 (fun _=>?_) (fun _=>?_)))
  ·
   refine jA 13 rfl (xF (js [8,9,10,11,12,13,14,15,16,17] rfl ?_));exact jf ls
  refine jA 4 rfl (dP 199 (fun _=>?_) (fun _=>?_))
  ·
   refine jA 9 rfl (xF (js [8,9,10,11,12,13,14,15,16,17] rfl ?_));exact jf ls
  refine jA 4 rfl (dP 203 (fun _=>?_) (fun _=>?_))
  ·
   refine jA 5 rfl (xF (js [8,9,10,11,12,13,14,15,16,17] rfl ?_));exact jf ls
  refine zY 0 e3 (zY 13 e3 (jB fun bo bp=>?_));refine jk (fun H=>pV bo bp _ aA (xJ.m (H.l 1 rfl)) (xJ.m (H.r 16 rfl))) (jA 2 rfl (xF (js [8,9,10,11,12,13,14,15,16,17] rfl ?_)));exact jf ls
 refine dI (zC (fun _=>?_) (fun _=>?_))
 ·
  refine xL (jA 1 rfl (xT (js [0,1,2,3,4,5,6,7,9] rfl (dL A ?_))));exact zB (rt rfl) lv
 refine kZ (jA 2 rfl (xF (zC (fun _=>?_) (fun _=>?_))))
 ·
  refine xL (jA 3 rfl (xT (js [0,1,2,3,4,5,6,7,9] rfl (dL A ?_))));exact zB (rt rfl) lv
 refine oY (zY 6 e3 (zY 3 e3 (js [7,4,0,1,2,3,5,6,8,9] rfl (jh (fun H=>H.mg) (lA fun _ _ _ _ g2 e4 e _=>?_)))));have R:=g2.l.ld;have S:=g2.r.ld;refine jB fun br bt=>?_;refine jk (fun H=>mQ br bt _ H.hN (xA.m d (H.u R)) (xB.m I (H.u S))) fun _ _=>jA 5 rfl (xN (zY 8 e3 (zY 1 e3 (js [2,0,1,3,4,5,6,7,8] rfl (lA fun _ _ _ _ g3 e5 E _=>?_)))));have h4:=g3.ld;refine jB fun bu bv=>?_;refine jk (fun H=>mQ bu bv _ H.hN (xA.m i (H.u (e5 (e4 j)))) (xB.m i6 (H.u h4))) fun _ _=>jA 5 rfl (xO (jA 3 rfl (xF (zC (fun _=>?_) (fun _=>?_)))))
 ·
  refine xL (jA 1 rfl (xT (js [1,2,3,4,5,6,7,8] rfl ?_)));refine dL E (hs:=⟨n1,⟨n0,⟨n0,⟨n0,⟨n0,⟨n0,⟨(fun c h=>(e.2.2 c h)),⟨n0,trivial⟩⟩⟩⟩⟩⟩⟩⟩) (js [0,2,3,4,5,6,7,8] rfl (dL e (jh (fun H=>H.um) (js [0,1,2,3,4,5,6,7,9] rfl (dL A ?_)))));exact zB (rt rfl) lv
 refine kZ (jA 2 rfl (xF (zC (fun _=>?_) (fun _=>?_))))
 ·
  refine xL (jA 3 rfl (xT (js [1,2,3,4,5,6,7,8] rfl ?_)));refine dL E (hs:=⟨n1,⟨n0,⟨n0,⟨n0,⟨n0,⟨n0,⟨(fun c h=>(e.2.2 c h)),⟨n0,trivial⟩⟩⟩⟩⟩⟩⟩⟩) (js [0,2,3,4,5,6,7,8] rfl (dL e (jh (fun H=>H.um) (js [0,1,2,3,4,5,6,7,9] rfl (dL A ?_)))));exact zB (rt rfl) lv
 refine oY (zY 6 e3 (zY 8 e3 (zY 5 e3 (zY 4 e3 (jA 1 rfl (jB fun bw c0=>?_))))));refine jk (fun H=>sJ bw c0 _ aA (xA.m d (H.a (e5 R))) (xA.m i (H.a (e5 (e4 j)))) (xJ.m (H.r 7 rfl)) (xB.m I (H.a (e5 S))) (H.ro 0 rfl)) fun _ _=>jA 5 rfl (xV (jB fun ai aj=>(jB fun z31 c30=>(js [5,7,0,1,2,3,4,6,8,9] rfl (jh (fun H=>H.mg) (lA fun w2 X2 N2 _ g4 y T _=>?_))))));have K1:=g4.l.bk;have K2:=g4.r.bk;refine jD (wD 0 rfl K2 e2 (wD 1 rfl K1 e2 (jvA [2,3] rfl (jE 4 rfl (jk (fun H=>tM ai aj _ aA (H.ro 1 rfl) (H.l 4 rfl)) fun _=>kK (jE 5 rfl ?_))))));refine jk (fun H=>xAx z31 c30 _ aA (xA.m d (H.a (y (e5 R)))) (xB.m I (H.a (y (e5 S)))) (H.l 0 rfl)) fun _=>kK (jvA [6,7,8,9,10] rfl (jbe (xPk ?_)));refine zX (fun s6=>.st [(1,L),(5,xU z),(6,xU G),(7,xU C),(13,xU M),(267,.bool s6)] [bx C [F] 30,rw X 3 xC 72 F p.2.formulas,bx z [xI Q.size,W] 26]) ?_ (fun _=>?_)
 ·
  refine a_g (jA 3 rfl (dP 252 (fun _=>?_) (fun _=>?_)))
  ·
   refine jA 15 rfl (xF (js [6,7,8] rfl ?_));exact jf ls
  refine jA 4 rfl (dP 256 (fun _=>?_) (fun _=>?_))
  ·
   refine jA 11 rfl (xF (js [6,7,8] rfl ?_));exact jf ls
  refine jA 4 rfl (dP 260 (fun _=>?_) (fun _=>?_))
  ·
   refine jA 7 rfl (xF (js [6,7,8] rfl ?_));exact jf ls
  refine jA 3 rfl (jk (fun H=>tM ai aj _ aA (H.ro 2 rfl) (H.l 5 rfl)) fun _=>jB fun z32 c31=>(jk (fun H=>fM z32 c31 _ aA (H.l 2 rfl) (H.l 0 rfl)) (jA 2 rfl (xF (js [7,8,9] rfl ?_)))));exact jf ls
 refine dI (zC (fun _=>?_) (fun _=>?_))
 ·
  refine xL (jA 1 rfl (xT ?_));refine dL T (hs:=⟨n0,⟨(fun c h=>(E.2.2 c (e.2.2 c h))),⟨n0,trivial⟩⟩⟩) (jh (fun H=>H.um) ?_);refine dL E (hs:=⟨n0,⟨n0,⟨n0,⟨(fun c h=>(e.2.2 c h)),⟨n0,trivial⟩⟩⟩⟩⟩) (dL e (jh (fun H=>H.um) (js [0,1,2,3,4,5,7] rfl (dL A ?_))));exact zB (rt rfl) lv
 refine oY (xPv K2 e2 (xPv K1 e2 (jB fun ak c32=>?_)));refine jk (fun H=>wQ ak c32 _ aA (xA.m d (H.a (y (e5 R)))) (xB.m I (H.a (y (e5 S))))) fun a7 _=>jA 5 rfl (bS ?_);refine zX (fun s7=>.st [(1,L),(5,xU z),(6,xU G),(7,xU C),(13,xU M),(39,a7),(280,.bool s7)] [rl 1 (fG 1 xG) 36 a7 ak.1,bx C [F] 30,rw X 3 xC 72 F p.2.formulas,bx z [xI Q.size,W] 26]) ?_ (fun _=>?_)
 ·
  refine a_g (jA 3 rfl (dP 276 (fun _=>?_) (fun _=>?_)))
  ·
   refine jA 4 rfl (xF ?_);exact jf ls
  refine jA 1 rfl (jLc (fun H=>H.l 0 rfl) fun _=>jA 2 rfl (xF ?_));exact jf ls
 refine dI (zC (fun _=>?_) (fun _=>?_))
 ·
  refine xL (jA 1 rfl (xT ?_));refine dL T (hs:=⟨n0,⟨n0,⟨(fun c h=>(E.2.2 c (e.2.2 c h))),⟨n0,trivial⟩⟩⟩⟩) (jh (fun H=>H.um) ?_);refine dL E (hs:=⟨n0,⟨n0,⟨n0,⟨n0,⟨(fun c h=>(e.2.2 c h)),⟨n0,trivial⟩⟩⟩⟩⟩⟩) (dL e (jh (fun H=>H.um) (js [0,1,2,3,4,5,6,8] rfl (dL A ?_))));exact zB (rt rfl) lv
 refine oY (jA 2 rfl (jLc (fun H=>H.l 0 rfl) fun i8=>jB fun al c33=>(jk (fun H=>xHa al c33 _ aA (H.a (y (e5 (e4 (e1 A1))))) i8) fun du=>jA 1 rfl (xV (jB fun dw a8=>(jB fun z36 c35=>(js [0,1,3,2] rfl (jh (fun H=>H.mg) ?_))))))));refine jh (fun H=>H.mg) (lA fun _ _ _ _ g5 t am _=>?_);have h5:=g5.l.l.ld;have K3:=g5.l.r.bk;have K4:=g5.r.bk;refine jD (wD 0 rfl (K2.lf t) e2 (wD 1 rfl K4 e2 (wD 2 rfl K3 e2 (wD 3 rfl (K1.lf t) e2 (jvA [4,5] rfl (jvI 6 rfl h5 a8 fun _ h6=>xLl 7 rfl h6 fun _ h7=>jE 8 rfl ?_))))));refine jk (fun H=>xAz z36 c35 _ aA (xA.m d (H.a (t (y (e5 R))))) (xA.m i (H.a (t (y (e5 (e4 j)))))) (xJ.m (H.r 0 rfl)) (xB.m I (H.a (t (y (e5 S))))) (H.a h7)) fun _ _=>kK (jvA [9,10,11,12,13] rfl (jbe (xQx (js [1,0] rfl (lA fun w3 X3 N3 an g6 f a6 _=>?_)))));have h8:=g6.rd;refine jB fun ao c36=>(jD (wD 0 rfl ((K2.lf t).lf f) e2 (wD 1 rfl (K4.lf f) e2 (wD 2 rfl (K3.lf f) e2 (wD 3 rfl ((K1.lf t).lf f) e2 (jvA [4,5] rfl (jvI 6 rfl h5 a8 fun _ h9=>xLl (s:=fun H w l=>(an.trans (Sm.mono (H.v w l) a6.2.2))) 7 rfl h9 fun _ ca=>jE 8 rfl ?_)))))));refine jk (fun H=>xAp ao c36 _ H.hN (xA.m d (H.u (f (t (y (e5 R)))))) (xA.m i (H.u (f (t (y (e5 (e4 j))))))) (xJ.m (H.u h8)) (xB.m I (H.u (f (t (y (e5 S)))))) (H.u (f ca))) fun aq _=>kK (jvA [9,10,11,12,13] rfl (jbe (xPk ?_)));refine zX (fun s8=>.st [(5,xU z),(6,xU G),(7,xU C),(13,xU M),(39,a7),(41,xI al),(44,aq),(321,.bool s8)] [ro N3 (V:=(Sl 1 xG)) aq ao.1]) ?_ (fun _=>?_)
 ·
  refine a_g (jA 4 rfl (dP 312 (fun _=>?_) (fun _=>?_)))
  ·
   refine jA 9 rfl (xF (js [0] rfl ?_));exact jf ls
  refine jA 4 rfl (dP 316 (fun _=>?_) (fun _=>?_))
  ·
   refine jA 5 rfl (xF (js [0] rfl ?_));exact jf ls
  refine jA 2 rfl (jB fun cb cc=>(jk (fun H=>fM cb cc _ aA (H.l 1 rfl) (H.ro 0 rfl)) (jA 2 rfl (xF (js [0] rfl ?_)))));exact jf ls
 refine dI (zC (fun _=>?_) (fun _=>?_))
 ·
  refine xL (jA 1 rfl (xT (js [] rfl (dL a6 ?_))));refine dL am (hs:=⟨(fun c h=>(T.2.2 c (E.2.2 c (e.2.2 c h)))),trivial⟩) (jh (fun H=>H.um) (jh (fun H=>H.um) ?_));refine dL T (hs:=⟨n0,⟨n0,⟨n0,⟨(fun c h=>(E.2.2 c (e.2.2 c h))),trivial⟩⟩⟩⟩) (jh (fun H=>H.um) ?_);refine dL E (hs:=⟨n0,⟨n0,⟨n0,⟨n0,⟨n0,⟨(fun c h=>(e.2.2 c h)),trivial⟩⟩⟩⟩⟩⟩) (dL e (jh (fun H=>H.um) (js [0,1,2,3,4,5,6,7] rfl (dL A ?_))));exact zB (rt rfl) lv
 refine oY (xPv ((K2.lf t).lf f) e2 (xPv (K4.lf f) e2 (xPv (K3.lf f) e2 (xPv ((K1.lf t).lf f) e2 (jA 1 rfl (jB fun cd ce=>?_))))));refine jk (fun H=>sJ cd ce _ aA (xA.m d (H.a (f (t (y (e5 R)))))) (xA.m i (H.a (f (t (y (e5 (e4 j))))))) (xJ.m (H.a h8)) (xB.m I (H.a (f (t (y (e5 S)))))) (H.ro 0 rfl)) fun _ _=>jA 5 rfl (xV (zX (fun s9=>.st [(4,.bool s9)] []) ?_ (fun _=>?_)))
 ·
  refine a_g (jA 3 rfl (dP 333 (fun _=>?_) (fun _=>?_)))
  ·
   refine jA 3 rfl (jI h5 a8 fun _ cf=>iI (s:=fun H=>(an.trans (Sm.mono H.sm a6.2.2))) cf fun _ cg=>jB fun ch ci=>(jk (fun H=>fM ch ci _ aA (H.l 0 rfl) (H.a (f cg))) (jA 2 rfl (xF (js [] rfl ?_)))));exact jf ls
  refine jA 8 rfl (xF (js [] rfl ?_));exact jf ls
 refine jY (dL a6 ?_);refine dL am (hs:=⟨(fun c h=>(T.2.2 c (E.2.2 c (e.2.2 c h)))),trivial⟩) (jh (fun H=>H.um) (jh (fun H=>H.um) ?_));refine dL T (hs:=⟨n0,⟨n0,⟨n0,⟨(fun c h=>(E.2.2 c (e.2.2 c h))),trivial⟩⟩⟩⟩) (jh (fun H=>H.um) ?_);refine dL E (hs:=⟨n0,⟨n0,⟨n0,⟨n0,⟨n0,⟨(fun c h=>(e.2.2 c h)),trivial⟩⟩⟩⟩⟩⟩) (dL e (jh (fun H=>H.um) (js [0,1,2,3,4,5,6,7] rfl (dL A ?_))));exact zB (rt rfl) lv
end Go.Proofs.YtlommebgedmjdaaGreatDoor
