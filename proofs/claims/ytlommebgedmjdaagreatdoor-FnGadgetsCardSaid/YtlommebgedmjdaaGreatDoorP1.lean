import Derived.Test.YtlommebgedmjdaaGreatDoorJI
import Derived.Test.YtlommebgedmjdaaGreatDoorZ
import Derived.Test.YtlommebgedmjdaaGreatDoorNL
import Derived.Test.YtlommebgedmjdaaGreatDoorNG
import Derived.Test.YtlommebgedmjdaaGreatDoorNZ
import Derived.Test.YtlommebgedmjdaaGreatDoorJH
namespace Go.Proofs.YtlommebgedmjdaaGreatDoor
open Go.Proofs.Tryz
set_option maxHeartbeats 1000000
set_option linter.unusedVariables false
set_option linter.unusedSimpArgs false
set_option maxRecDepth 100000
open Go.RowKit
def laws_f6big (c:List UInt8):Option Bool:=
 some ((decide (4096<(c.length:Int))))
theorem laws_f6big_c {B:Nat→Prop} {f:List UInt8} (r:Bool) (h:laws_f6big f=some r) {e:Value} (d:World) (hN:∀ c,B c→c<d.heap.size) (i:Bo B d (Sl 1 aW) e f):Calls Tryz.prog 4 #[e] d (Gt B d [] (.st (.bool r) fun D=>D)):=by
 unfold laws_f6big at h
 revert r
 refine zI func4 [(0,e)] (Sep.start hN) fun r=>?_;refine xL (jA 1 rfl (xN (jA 1 rfl (jL i fun _=>jA 2 rfl (xP ?_)))));exact zB (rt rfl) lv
def bQ (c:List UInt8):Option ((List UInt8)×Int×Int):=
 some ((c,0,0))
theorem lE {B:Nat→Prop} {i:List UInt8} (r:((List UInt8)×Int×Int)) (p:bQ i=some r) {e:Value} (d:World) (hN:∀ c,B c→c<d.heap.size) (j:Bo B d (Sl 1 aW) e i):Calls Tryz.prog 30 #[e] d (Gt B d [] (.n fun f=>.v fun h=>.fa (Bo B d (Sl 1 aW) h r.1) <| .fa (xH r.2.1) <| .st (xU f) fun D=>bx f [h,xI r.2.1,.int .u64 r.2.2] 113::D)):=by
 unfold bQ at p
 revert r
 refine zI func30 [(0,e)] (Sep.start hN) fun r=>?_;refine xL (jA 1 rfl (xN (jA 1 rfl ?_)));refine qT (hone:=(fun H=>oc (H.a j).one on)) e5 (jX e2 fun t=>jA 1 rfl (xP ?_));exact j1 (rt rfl) ⟨_,_,j,(show xH 0 by decide),lv⟩
def dC (c:List UInt8) (d e:Int):Option (Int×Int×Int):=
 vC (σ:=Int) (
  if (decide (d<(c.length:Int))) then
   xK (ix c d) fun j=>
   some (.nx (j.toNat:Int))
  else
   some (.nx 0)) fun i=>
 xK (ck (d+1)) fun f=>
 xK (nn i) fun h=>
 if (decide (f≤(c.length:Int))) then
  some (i,f,(IntKind.u64.wrap ((IntKind.u64.wrap ((IntKind.u64.wrap (e*6364136223846793005))+h))+1442695040888963407)))
 else
  some ((IntKind.i64.wrap (Go.bits .and .u64 ((IntKind.u64.wrap ((IntKind.u64.wrap ((IntKind.u64.wrap (e*6364136223846793005))+h))+1442695040888963407)) / 2 ^ (40:Int).toNat) 255)),f,(IntKind.u64.wrap ((IntKind.u64.wrap ((IntKind.u64.wrap (e*6364136223846793005))+h))+1442695040888963407)))
theorem pT {B:Nat→Prop} {y:List UInt8} {f j:Int} (r:Int×Int×Int) (E:dC y f j=some r) {d:Nat} {h:Value} {z:List Nat} (e:World) (hN:∀ c,B c→c<e.heap.size) (G:Sep z B e e [bx d [h,xI f,.int .u64 j] 113]) (i:Bo B e (Sl 1 aW) h y) (M:xH f):Calls Tryz.prog 120 #[xU d] e (Gt B e z (.fa (xH r.1) <| .fa (xH r.2.1) <| .st (xI r.1) fun D=>bx d [h,xI r.2.1,.int .u64 r.2.2] 113::D)):=by
 unfold dC at E
 revert r
 refine zI func120 [(0,xU d)] G fun r=>?_;refine xL (jA 1 rfl (xN (jA 1 rfl (bS (jQ (qR 2 rfl (nV e2 (jqb 0 e3 (qR 2 rfl (nV e2 ?_))))))))));refine jqb 0 e3 (jqL i fun _=>qR 1 rfl (iS (dI ?_)));refine zX (fun A=>.fa (xH A) <| .st [(0,xU d),(3,xI A)] [bx d [h,xI f,.int .u64 j] 113]) ?_ (fun _ p=>?_)
 ·
  refine zC (fun _=>?_) (fun _=>?_)
  ·
   refine jQ (qR 2 rfl (nV e2 (jqb 0 e3 (qR 2 rfl (nV e2 (jqb 0 e3 (jB fun N I=>(jqI i I fun _ K=>jqlU K (jqv (fun F H w l=>xPh underlying5 underlying3 F rfl) ?_)))))))));refine qR 1 rfl (iS (dI ?_));exact jf ⟨(xNa _),ls⟩
  refine xXd ?_;exact jf ⟨(show xH (0) by decide),ls⟩
 refine qQ (jA 2 rfl (xY e2 (jb 0 e3 (jB fun O t=>(lY t (jA 1 rfl (xY e2 (jW e3 (xN (jA 3 rfl ?_))))))))));refine xY e2 (jb 0 e3 (oBn e2 (jA 1 rfl (jB fun L C=>?_))))
 have P:xH L:=by rw[(nT C).2];exact p
 refine jU1 p C (xXx e2 (xXx e2 (jA 1 rfl (xY e2 (jW e3 (bS (jQ (qR 2 rfl (nV e2 (jqb 0 e3 ?_))))))))));refine qR 2 rfl (nV e2 (jqb 0 e3 (jqL i fun _=>qR 1 rfl (iS (dI (zC (fun _=>?_) (fun _=>?_)))))))
 ·
  refine xL (jA 2 rfl (xT ?_));exact j1 (rt rfl) ⟨p,(bD t),lv⟩
 refine oY (jA 2 rfl (xY e2 (jb 0 e3 (oCs (by decide) rfl (oBv e2 (jUw rfl (jA 1 rfl (xP ?_))))))));exact j1 (rt rfl) ⟨(wr64 _),(bD t),lv⟩
def xR (f:List UInt8) (h i d:Int):Option (Int×Int×Int):=
 if (decide (d≤1)) then
  some (0,h,i)
 else
  xK (dC f h i) fun c=>
  if (decide (200<d)) then
   xK (ck (c.1*256)) fun j=>
   xK (dC f c.2.1 c.2.2) fun e=>
   xK (ck (j+e.1)) fun p=>
   xK (rm p d) fun t=>
   some (t,e.2.1,e.2.2)
  else
   xK (rm c.1 d) fun y=>
   some (y,c.2.1,c.2.2)
theorem xZ {B:Nat→Prop} {t:List UInt8} {h y f:Int} (r:Int×Int×Int) (I:xR t h y f=some r) {e:Nat} {i:Value} {C:List Nat} (d:World) (hN:∀ c,B c→c<d.heap.size) (K:Sep C B d d [bx e [i,xI h,.int .u64 y] 113]) (j:Bo B d (Sl 1 aW) i t) (p:xH h) (z:xH f):Calls Tryz.prog 62 #[xU e,xI f] d (Gt B d C (.fa (xH r.1) <| .fa (xH r.2.1) <| .st (xI r.1) fun D=>bx e [i,xI r.2.1,.int .u64 r.2.2] 113::D)):=by
 unfold xR at I
 revert r
 refine zI func62 [(0,xU e),(1,xI f)] K fun r=>?_;refine xL (jA 1 rfl (xO (jA 2 rfl (xF (zC (fun _=>?_) (fun _=>?_))))))
 ·
  refine xL (jA 1 rfl (xT ?_));exact j1 (rt rfl) ⟨(show xH (0) by decide),p,lv⟩
 refine oY (jA 1 rfl (jB fun L M=>(jko 1 (fun K1 H=>pT L M _ H.hN K1 (H.u j) p) fun N E=>jA 1 rfl (xO (jA 2 rfl (xF (zC (fun _=>?_) (fun _=>?_))))))))
 ·
  refine a_g (jA 1 rfl (jB fun T O=>(xSm O (jA 1 rfl (jB fun P Q=>(jko 1 (fun R H=>pT P Q _ H.hN R (H.u j) E) fun _ S=>jB fun U A=>(lY A (jA 1 rfl (xN ?_)))))))));refine jA 2 rfl (jB fun V F=>(xPs F (jA 1 rfl (xP ?_))));exact j1 (rt rfl) ⟨(xWq F (bD A) z),S,lv⟩
 refine oY (jA 2 rfl (jB fun W G=>(xPs G (jA 1 rfl (xP ?_)))));exact j1 (rt rfl) ⟨(xWq G N z),E,lv⟩
def kQ (e:List UInt8) (f h:Int) (d:List Int):Option (Int×Int×Int):=
 xK (xR e f h (d.length:Int)) fun c=>
 xK (ix d c.1) fun i=>
 some (i,c.2.1,c.2.2)
theorem eO {B:Nat→Prop} {j:List UInt8} {f p:Int} {t:List Int} (r:Int×Int×Int) (E:kQ j f p t=some r) {e:Nat} {h:Value} {i:Value} {y:List Nat} (d:World) (hN:∀ c,B c→c<d.heap.size) (F:Sep y B d d [bx e [h,xI f,.int .u64 p] 113]) (A:Bo B d (Sl 1 aW) h j) (C:xH f) (z:Bo B d (Sl 1 xG) i t):Calls Tryz.prog 69 #[xU e,i] d (Gt B d y (.fa (xH r.1) <| .fa (xH r.2.1) <| .st (xI r.1) fun D=>bx e [h,xI r.2.1,.int .u64 r.2.2] 113::D)):=by
 unfold kQ at E
 revert r
 refine zI func69 [(0,xU e),(1,i)] F fun r=>?_;refine xL (jA 1 rfl (xN (jA 3 rfl (jL z fun G=>jB fun I K=>(jko 1 (fun K1 H=>xZ I K _ H.hN K1 (H.u A) C G) fun _ L=>jB fun P M=>(jI z M fun _ N=>iG N fun O=>jA 1 rfl ?_))))));refine xP ?_;exact j1 (rt rfl) ⟨O,L,lv⟩
def kL (N:Nat) (f h:Int):Option Int:=
 vC (σ:=Int×Int) (
  whl (σ:=Int×Int) (ρ:=Int) (fun(s:Int×Int)=>
    match s with
    | (c,d)=>
    if (decide (0<c)) then
     xK (ck (d*f)) fun i=>
     xK (ck (c - 1)) fun j=>
     some (.go (j,i))
    else
     some (.brk (c,d))) N (h,1)) fun(p,e)=>
 some e
theorem tL {B:Nat→Prop} {N:Nat} {d e:Int} (r:Int) (A:kL N d e=some r)  (h:World) (hN:∀ c,B c→c<h.heap.size) (G:xH d) (z:xH e):Calls Tryz.prog 127 #[xI d,xI e] h (Gt B h [] (.fa (xH r) <| .st (xI r) fun D=>D)):=by
 unfold kL at A
 revert r
 refine zI func127 [(0,xI d),(1,xI e)] (Sep.start hN) fun r=>?_;refine xL (jA 1 rfl (xN (jA 1 rfl (xV (zX (fun(p,f)=>.fa (xH p) <| .fa (xH f) <| .st [(5,xI f)] []) ?_ (fun(p,f) _ C=>?_))))))
 ·
  refine eD ?_;refine jw (fun(i,j)=>.fa (xH i) <| .fa (xH j) <| .st [(0,xI d),(1,xI i),(5,xI j)] []) ⟨z,(show xH (1) by decide),ls⟩ (fun _ (i,j) E F=>?_);refine oH (jA 2 rfl (xF (zC (fun _=>?_) (fun _=>?_))))
  ·
   refine xWc (jA 2 rfl (jB fun H t=>(xSm t (jA 1 rfl (zQ (jA 1 rfl (jB fun I y=>(dA y (jA 1 rfl (xF ?_))))))))));exact jg ⟨(bD y),(bD t),ls⟩
  refine sI (jbk (xCi ?_));exact jf ⟨E,F,ls⟩
 refine qQ (jA 2 rfl (xP ?_));exact zB (rt rfl) ⟨C,lv⟩
def cK (d:List UInt8) (e f h:Int):Option (Bool×Int×Int):=
 xK (xR d e f h) fun c=>
 some ((c.1==0),c.2.1,c.2.2)
theorem xAu {B:Nat→Prop} {j:List UInt8} {h p f:Int} (r:Bool×Int×Int) (C:cK j h p f=some r) {e:Nat} {i:Value} {t:List Nat} (d:World) (hN:∀ c,B c→c<d.heap.size) (E:Sep t B d d [bx e [i,xI h,.int .u64 p] 113]) (y:Bo B d (Sl 1 aW) i j) (z:xH h) (A:xH f):Calls Tryz.prog 128 #[xU e,xI f] d (Gt B d t (.fa (xH r.2.1) <| .st (.bool r.1) fun D=>bx e [i,xI r.2.1,.int .u64 r.2.2] 113::D)):=by
 unfold cK at C
 revert r
 refine zI func128 [(0,xU e),(1,xI f)] E fun r=>?_;refine xL (jA 1 rfl (xN (jA 2 rfl (jB fun F G=>(jko 1 (fun K1 H=>xZ F G _ H.hN K1 (H.u y) z A) fun _ I=>jA 2 rfl (xP ?_))))));exact j1 (rt rfl) ⟨I,lv⟩
def kH (N:Nat) (f h i:Int):Option (List Int):=
 xK (mkz (0:Int) h) fun j=>
 xK (ck (h - 1)) fun p=>
 vC (σ:=Int×Int×(List Int)) (
  whl (σ:=Int×Int×(List Int)) (ρ:=(List Int)) (fun(s:Int×Int×(List Int))=>
    match s with
    | (e,c,d)=>
    if (decide (0≤c)) then
     xK (rm e f) fun t=>
     xK (ix d c) fun B=>
     xK (dv e f) fun y=>
     xK (ck (c - 1)) fun z=>
     some (.go (y,z,(d.set (c).toNat t)))
    else
     some (.brk (e,c,d))) N (i,p,j)) fun(C,D,A)=>
 some A
theorem mG {B:Nat→Prop} {N:Nat} {d e f:Int} (r:(List Int)) (S:kH N d e f=some r)  (h:World) (hN:∀ c,B c→c<h.heap.size) (O:xH d) (V:xH e) (P:xH f):Calls Tryz.prog 129 #[xI d,xI e,xI f] h (Gt B h [] (.v fun y=>.st (y) fun D=>rl 1 xG 2 y r::D)):=by
 unfold kH at S
 revert r
 refine zI func129 [(0,xI d),(1,xI e),(2,xI f)] (Sep.start hN) fun r=>?_;refine xL (jA 1 rfl (xN (jA 1 rfl (jB fun W T=>?_))));refine jRM (R:=xG) (fun w=>⟨rfl,by decide,rfl⟩) T fun X=>jA 1 rfl (xO (jA 1 rfl (jB fun Y z=>(dA z (jA 1 rfl (xF (zX (fun(C,E,F)=>.v fun i=>.fa (xH C) <| .fa (xH E) <| .st [(7,i)] [rl 1 xG 2 i F]) ?_ (fun(C,E,F) i _ _=>?_))))))))
 ·
  refine eD ?_;refine jw (fun(j,p,A)=>.v fun t=>.fa (xH j) <| .fa (xH p) <| .st [(0,xI d),(2,xI j),(7,t),(8,xI p)] [rl 1 xG 2 t A]) ⟨_,P,(bD z),ls⟩ (fun _ (j,p,A) t G U=>?_);refine oH (jA 2 rfl (xF (zC (fun _=>?_) (fun _=>?_))))
  ·
   refine rF (jA 4 rfl (jB fun Z I=>(xPs I (jB fun z4 K=>(jRl 0 K fun _ Q=>jh (fun H=>H.lw) (jS Q (xAr K) (fun H=>Eo.int (xWq I G O)) rfl (jh (fun H=>H.tl) (tH (jA 2 rfl ?_)))))))));refine jB fun z5 L=>(xXv L (jA 1 rfl (zQ (jA 1 rfl (jB fun z6 M=>(dA M (jA 1 rfl (xF ?_))))))));exact jg ⟨_,(oAw L),(bD M),ls⟩
  refine sI (jbk (xCi ?_));exact jf ⟨_,G,U,ls⟩
 refine qQ (jA 2 rfl (xP ?_));exact j1 (rt rfl) ⟨_,lv⟩
def gK (N:Nat) (d:List UInt8) (y z i e:Int):Option (Rel×Int×Int):=
 xK (xR d y z 5) fun f=>
 xK (kL N i e) fun A=>
 vC (σ:=Int×Int×(List (List Int))) (
  aY (σ:=Int×Int×(List (List Int))) (ρ:=Rel×Int×Int) (fun(B:Nat) (s:Int×Int×(List (List Int)))=>
    match s with
    | (C,D,j)=>
    vC (σ:=Bool×Int×Int) (
     xK (xR d C D 5) fun c=>
     if (decide (c.1≤f.1)) then  some (.nx (true,c.2.1,c.2.2)) else  xK (cK d c.2.1 c.2.2 8) fun h=>
      some (.nx (h.1,h.2.1,h.2.2))) fun(E,p,t)=>
    if E then
     xK (kH N i e (B:Int)) fun F=>
     xK (ap j ([F])) fun G=>
     some (.go (p,t,G))
    else
     some (.go (p,t,j))) A.toNat 0 (f.2.1,f.2.2,[])) fun(H,I,K)=>
 some ((Rel.mk e K),H,I)
theorem iT {B:Nat→Prop} {N:Nat} {X:List UInt8} {Q Y t e:Int} (r:Rel×Int×Int) (hR:gK N X Q Y t e=some r) {d:Nat} {p:Value} {X0:List Nat} (z:World) (hN:∀ c,B c→c<z.heap.size) (S0:Sep X0 B z z [bx d [p,xI Q,.int .u64 Y] 113]) (P:Bo B z (Sl 1 aW) p X) (ac:xH Q) (R:xH t) (K:xH e):Calls Tryz.prog 68 #[xU d,xI t,xI e] z (Gt B z X0 (.v fun Z=>.fa (xH r.1.arity) <| .fa (xH r.2.1) <| .st (.agg #[xI r.1.arity,Z]) fun D=>rl 1 (fG 1 xG) 36 Z r.1.tuples::bx d [p,xI r.2.1,.int .u64 r.2.2] 113::D)):=by
 unfold gK at hR
 revert r
 refine zI func68 [(0,xU d),(1,xI t),(2,xI e)] S0 fun r=>?_;refine xL (dG rfl fun i=>xN (jA 1 rfl (qT e5 (dG rfl fun j=>bC e3 (xN (jA 1 rfl (jB fun F c1=>(js [2,0,1] rfl ?_))))))));refine jko 1 (fun ad H=>xZ F c1 _ H.hN ad (H.u P) ac (show xH (5) by decide)) fun _ i1=>jA 1 rfl (xN (jA 2 rfl (jB fun y c2=>(jk (fun H=>tL y c2 _ aA R K) fun C=>jA 1 rfl (xO (jA 1 rfl (xF ?_)))))));refine zX (fun(S,s2,s3)=>.v fun T=>.fa (xH S) <| .st [(0,xU d),(6,xU i),(7,xU j)] [rl 1 (fG 1 xG) 36 T s3,bx d [p,xI S,.int .u64 s2] 113,bx j [xI e,T] 108,bx i [xI 0,cL] 108]) ?_ (fun(S,s2,s3) T i2=>?_)
 ·
  refine eD (jh (fun H=>H.nl 1 (fG 1 xG) 36) ?_);refine jc (fun G (L,U,A)=>.v fun h=>.fa (xH L) <| .st [(10,xI (G:Int)),(0,xU d),(1,xI t),(2,xI e),(6,xU i),(7,xU j),(8,xI F.1),(9,xI y)] [rl 1 (fG 1 xG) 36 h A,bx d [p,xI L,.int .u64 U] 113,bx j [xI e,h] 108,bx i [xI 0,cL] 108]) ⟨_,i1,ls⟩ (fun _ (L,U,A) _ E h V=>?_) (fun _ G (L,U,A) E h V=>?_)
  ·
   have W:=iL E;refine oH (jA 3 rfl (xF (gR W (xS ?_))));exact jf ⟨_,V,ls⟩
  have W:=eW E;refine oH (jA 3 rfl (xF (gN W (qD ?_))));have j1:=xBl E C;have m1:=mB E C;refine xDs ?_;refine zX (fun(s7,I,M)=>.fa (xH I) <| .st [(0,xU d),(1,xI t),(2,xI e),(6,xU i),(7,xU j),(8,xI F.1),(9,xI y),(10,xI (G:Int)),(30,.bool s7)] [rl 1 (fG 1 xG) 36 h A,bx d [p,xI I,.int .u64 M] 113,bx j [xI e,h] 108,bx i [xI 0,cL] 108]) ?_ (fun(s7,I,M) i4=>?_)
  ·
   refine a_g (jA 1 rfl (jB fun z3 c3=>(js [1,0,2,3] rfl (jko 1 (fun K1 H=>xZ z3 c3 _ H.hN K1 (H.u P) V (show xH (5) by decide)) fun _ i5=>jA 3 rfl (dP 27 (fun _=>?_) (fun _=>?_))))))
   ·
    refine jA 3 rfl (xF (js [1,0,2,3] rfl ?_));exact jf ⟨i5,ls⟩
   refine jA 1 rfl (jB fun z4 c4=>(jko 1 (fun K2 H=>xAu z4 c4 _ H.hN K2 (H.u P) i5 (show xH (8) by decide)) fun i6=>jA 1 rfl (xF (js [1,0,2,3] rfl ?_))));exact jf ⟨i6,ls⟩
  refine dI (zC (fun _=>?_) (fun _=>?_))
  ·
   refine jB fun O c5=>(jB fun z6 c6=>(jD ?_));refine jdp (f:=3) (ls:=#[true,true,true,true,true,true,true,false,false,false]) (.v fun v3=>.fa (xH y) <| .st [(0,xU d),(1,xI t),(2,xI e),(6,xU i),(7,xU j),(8,xI F.1),(9,xI y),(10,xI (G:Int)),(32,h),(37,v3)] [rl 1 (fG 1 xG) 36 v3 ([O]),rl 1 (fG 1 xG) 36 h A,bx d [p,xI I,.int .u64 M] 113,bx j [xI e,h] 108,bx i [xI 0,cL] 108]) (fun _ _=>?_) (fun H1=>?_)
   ·
    refine jE 7 rfl (js [1,0,2,3,4] rfl (jPL c6 fun v4=>kK (fZ 8 rfl e2 (jE 9 rfl (js [2,0,1,3] rfl (jW (hv:=(fun H=>(H.l 1 rfl).one)) e3 (kK (jbe (mU ?_)))))))));refine jA 1 rfl (oQ m1 (jA 1 rfl (xF (js [1,2,0,3] rfl ?_))));exact jg ⟨_,i4,ls⟩
   refine jdp (f:=4) (ls:=#[true,true,true,true,true,true,false,false,false,false]) (.v fun v5=>.fa (xH y) <| .st [(0,xU d),(1,xI t),(2,xI e),(6,xU i),(7,xU j),(8,xI F.1),(9,xI y),(10,xI (G:Int)),(32,h),(36,v5)] [rl 1 xG 2 v5 O,rl 1 (fG 1 xG) 36 h A,bx d [p,xI I,.int .u64 M] 113,bx j [xI e,h] 108,bx i [xI 0,cL] 108]) (fun _ i7=>?_) (fun H2=>?_)
   ·
    refine jE 6 rfl (jh (fun H=>H.os) (lC (fun H=>El.sl) fun v6=>kK ?_));exact H1 ⟨_,i7,ls⟩
   refine fZ 0 rfl e2 (jvA [2,3,4] rfl (jV (fun H=>H) 1 5 rfl rfl ?_ ?_))
   ·
    refine jb 2 e3 (kK (jE 5 rfl (jk (fun H=>mG O c5 _ aA R K j1) fun v7=>kK ?_)));exact H2 ⟨_,C,ls⟩
   refine jk (fun H=>mG O c5 _ aA R K j1) fun v8=>kK (jV (fun H=>H) 1 6 rfl rfl ?_ ?_)
   ·
    refine jb 3 e3 (kK ?_);exact H2 ⟨_,C,ls⟩
   refine jh (fun H=>H.os) (lC (fun H=>El.sl) fun v9=>kK (jE 1 rfl (jb 3 e3 (kK ?_))));exact H1 ⟨_,C,ls⟩
  refine vY (jA 1 rfl (oQ m1 (jA 1 rfl (xF ?_))));exact jg ⟨_,i4,ls⟩
 refine qQ (zY 2 e3 (js [3,0,1,2] rfl ?_));refine bC (hv:=(fun H=>oc rfl (oc (H.l 1 rfl).one on))) e3 (xP ?_);exact j1m (fun H=>H.s [1,2] rfl rfl) (rcA 0 e2) ⟨_,K,i2,lv⟩
def kU (N:Nat) (d:List UInt8) (y z i:Int):Option (Template×Int×Int):=
 xK (xR d y z 4) fun e=>
 vC (σ:=Int×Int×Int×(List Rel)) (
  whl (σ:=Int×Int×Int×(List Rel)) (ρ:=Template×Int×Int) (fun(s:Int×Int×Int×(List Rel))=>
    match s with
    | (f,j,p,t)=>
    if (decide (0<f)) then
     xK (kQ d j p ([1,2,2,2,3])) fun h=>
     xK (gK N d h.2.1 h.2.2 i h.1) fun c=>
     xK (ap t ([(Rel.mk c.1.arity c.1.tuples)])) fun A=>
     xK (ck (f - 1)) fun B=>
     some (.go (B,c.2.1,c.2.2,A))
    else
     some (.brk (f,j,p,t))) N (e.1,e.2.1,e.2.2,[])) fun(F,C,D,E)=>
 some ((Template.mk i E),C,D)
theorem sF {B:Nat→Prop} {N:Nat} {T:List UInt8} {I U j:Int} (r:Template×Int×Int) (hR:kU N T I U j=some r) {i:Nat} {t:Value} {X0:List Nat} (p:World) (hN:∀ c,B c→c<p.heap.size) (S0:Sep X0 B p p [bx i [t,xI I,.int .u64 U] 113]) (h:Bo B p (Sl 1 aW) t T) (ad:xH I) (y:xH j):Calls Tryz.prog 29 #[xU i,xI j] p (Gt B p X0 (.v fun V=>.fa (xH r.1.size) <| .fa (xH r.2.1) <| .st (.agg #[xI r.1.size,V]) fun D=>rl 2 oV 108 V r.1.rels::bx i [t,xI r.2.1,.int .u64 r.2.2] 113::D)):=by
 unfold kU at hR
 revert r
 refine zI func29 [(0,xU i),(1,xI j)] S0 fun r=>?_;refine xL (dG rfl fun A=>xN (jA 1 rfl (qT e5 (dG rfl fun C=>bC e3 (xO (jA 1 rfl (jB fun z1 c1=>(js [2,0,1] rfl ?_))))))));refine jko 1 (fun ae H=>xZ z1 c1 _ H.hN ae (H.u h) ad (show xH (4) by decide)) fun i1 i2=>jA 1 rfl (xF ?_);refine zX (fun(s1,K,s3,s4)=>.v fun L=>.fa (xH s1) <| .fa (xH K) <| .st [(0,xU i),(4,xU A),(5,xU C)] [rl 2 oV 108 L s4,bx i [t,xI K,.int .u64 s3] 113,bx C [xI j,L] 26,bx A [xI 0,cL] 26]) ?_ (fun(s1,K,s3,s4) L _ i3=>?_)
 ·
  refine eD (jh (fun H=>H.nl 2 oV 108) ?_);refine jw (fun(M,O,s7,s8)=>.v fun P=>.fa (xH M) <| .fa (xH O) <| .st [(0,xU i),(1,xI j),(4,xU A),(5,xU C),(6,xI M)] [rl 2 oV 108 P s8,bx i [t,xI O,.int .u64 s7] 113,bx C [xI j,P] 26,bx A [xI 0,cL] 26]) ⟨_,i1,i2,ls⟩ (fun _ (M,O,s7,s8) P i4 E=>?_);refine oH (jA 2 rfl (xF (zC (fun _=>?_) (fun _=>?_))))
  ·
   refine xNm (jB fun Q R=>(jB fun F G=>(jB fun z4 z=>(jD (fZ 0 rfl e2 (jvA [2,3,4] rfl (jV (fun H=>H) 1 5 rfl rfl ?_ ?_)))))))
   ·
    refine jb 2 e3 (kK (jE 5 rfl ?_));refine jRI [1,2,2,2,3] (by simp only[List.forall_mem_cons,List.not_mem_nil,false_implies,implies_true,and_true];exact⟨(show xH (1) by decide),(show xH (2) by decide),(show xH (2) by decide),(show xH (2) by decide),(show xH (3) by decide)⟩) fun _=>kK (jE 6 rfl (lA fun w1 X1 N1 _ g1 e1 e _=>?_));have h1:=g1.ld;refine js [1,0,2,3] rfl (jko 1 (fun K1 H=>eO Q R _ H.hN K1 (H.u (e1 h)) E (H.u h1)) (fun i6 i7=>?_));refine nC (fun H=>e.1 H (Ns.all ⟨n0,⟨n0,⟨n0,⟨n0,trivial⟩⟩⟩⟩)) ?_;refine jEt (fun H=>e.1 H (Ns.all ⟨n0,⟨n0,⟨n0,⟨n0,trivial⟩⟩⟩⟩)) 7 rfl (jko 1 (fun K2 H=>iT F G _ H.hN K2 (H.u (e1 h)) i7 y i6) (fun _ i8 i9=>?_));refine nC (fun H=>e.1 H (Ns.all ⟨n0,⟨n0,⟨n0,⟨n0,⟨n0,trivial⟩⟩⟩⟩⟩)) ?_;refine jEt (fun H=>e.1 H (Ns.all ⟨n0,⟨n0,⟨n0,⟨n0,⟨n0,trivial⟩⟩⟩⟩⟩)) 8 rfl (jh (fun H=>oV.w i8 H) (lC (fun H=>El.agg) (fun _=>?_)));refine nC (fun H=>e.1 H (Ns.all ⟨n0,⟨n0,⟨n0,⟨n0,⟨n0,trivial⟩⟩⟩⟩⟩)) ?_;refine jEt (fun H=>e.1 H (Ns.all ⟨n0,⟨n0,⟨n0,⟨n0,⟨n0,trivial⟩⟩⟩⟩⟩)) 9 rfl (js [2,0,1,3,4] rfl (jPL z (fun v3=>?_)));refine nC (fun H=>e.1 H (Ns.all ⟨n0,⟨n0,⟨n0,⟨n0,trivial⟩⟩⟩⟩)) (fZ 10 rfl e2 ?_);refine jEt (fun H=>e.1 H (Ns.all ⟨n0,⟨n0,⟨n0,⟨n0,trivial⟩⟩⟩⟩)) 11 rfl (js [2,0,1,3] rfl (jW (hv:=(fun H=>(H.l 1 rfl).one)) e3 ?_));refine nC (fun H=>e.1 H (Ns.all ⟨n0,⟨n0,⟨n0,⟨n0,trivial⟩⟩⟩⟩)) (jbe (mU (jA 1 rfl (jB fun z5 c5=>(dA c5 (jA 1 rfl (xF (dL e (js [2,3,1,4] rfl ?_)))))))));exact jg ⟨_,(bD c5),i9,ls⟩
   refine jRI [1,2,2,2,3] (by simp only[List.forall_mem_cons,List.not_mem_nil,false_implies,implies_true,and_true];exact⟨(show xH (1) by decide),(show xH (2) by decide),(show xH (2) by decide),(show xH (2) by decide),(show xH (3) by decide)⟩) fun _=>kK (jV (fun H=>H) 1 6 rfl rfl ?_ ?_)
   ·
    refine jb 3 e3 (kK (jE 6 rfl (lA fun w2 X2 N2 _ g2 e4 f _=>?_)));have h2:=g2.ld;refine js [1,0,2,3] rfl (jko 1 (fun K3 H=>eO Q R _ H.hN K3 (H.u (e4 h)) E (H.u h2)) (fun af ag=>?_));refine nC (fun H=>f.1 H (Ns.all ⟨n0,⟨n0,⟨n0,⟨n0,trivial⟩⟩⟩⟩)) ?_;refine jEt (fun H=>f.1 H (Ns.all ⟨n0,⟨n0,⟨n0,⟨n0,trivial⟩⟩⟩⟩)) 7 rfl (jko 1 (fun K4 H=>iT F G _ H.hN K4 (H.u (e4 h)) ag y af) (fun _ ah ai=>?_));refine nC (fun H=>f.1 H (Ns.all ⟨n0,⟨n0,⟨n0,⟨n0,⟨n0,trivial⟩⟩⟩⟩⟩)) ?_;refine jEt (fun H=>f.1 H (Ns.all ⟨n0,⟨n0,⟨n0,⟨n0,⟨n0,trivial⟩⟩⟩⟩⟩)) 8 rfl (jh (fun H=>oV.w ah H) (lC (fun H=>El.agg) (fun _=>?_)));refine nC (fun H=>f.1 H (Ns.all ⟨n0,⟨n0,⟨n0,⟨n0,⟨n0,trivial⟩⟩⟩⟩⟩)) ?_;refine jEt (fun H=>f.1 H (Ns.all ⟨n0,⟨n0,⟨n0,⟨n0,⟨n0,trivial⟩⟩⟩⟩⟩)) 9 rfl (js [2,0,1,3,4] rfl (jPL z (fun v4=>?_)));refine nC (fun H=>f.1 H (Ns.all ⟨n0,⟨n0,⟨n0,⟨n0,trivial⟩⟩⟩⟩)) (fZ 10 rfl e2 ?_);refine jEt (fun H=>f.1 H (Ns.all ⟨n0,⟨n0,⟨n0,⟨n0,trivial⟩⟩⟩⟩)) 11 rfl (js [2,0,1,3] rfl (jW (hv:=(fun H=>(H.l 1 rfl).one)) e3 ?_));refine nC (fun H=>f.1 H (Ns.all ⟨n0,⟨n0,⟨n0,⟨n0,trivial⟩⟩⟩⟩)) (jbe (mU (jA 1 rfl (jB fun z6 c6=>(dA c6 (jA 1 rfl (xF (dL f (js [2,3,1,4] rfl ?_)))))))));exact jg ⟨_,(bD c6),ai,ls⟩
   refine lA fun w3 X3 N3 _ g3 S d _=>?_;have h3:=g3.ld;refine js [1,0,2,3] rfl (jko 1 (fun K5 H=>eO Q R _ H.hN K5 (H.u (S h)) E (H.u h3)) (fun W X=>?_));refine nC (fun H=>d.1 H (Ns.all ⟨n0,⟨n0,⟨n0,⟨n0,trivial⟩⟩⟩⟩)) ?_;refine jV (fun H=>d.1 H (Ns.all ⟨n0,⟨n0,⟨n0,⟨n0,trivial⟩⟩⟩⟩)) 1 7 rfl rfl ?_ ?_
   ·
    refine jb 2 e3 ?_;refine nC (fun H=>d.1 H (Ns.all ⟨n0,⟨n0,⟨n0,⟨n0,trivial⟩⟩⟩⟩)) ?_;refine jEt (fun H=>d.1 H (Ns.all ⟨n0,⟨n0,⟨n0,⟨n0,trivial⟩⟩⟩⟩)) 7 rfl (jko 1 (fun K6 H=>iT F G _ H.hN K6 (H.u (S h)) X y W) (fun _ aj ak=>?_));refine nC (fun H=>d.1 H (Ns.all ⟨n0,⟨n0,⟨n0,⟨n0,⟨n0,trivial⟩⟩⟩⟩⟩)) ?_;refine jEt (fun H=>d.1 H (Ns.all ⟨n0,⟨n0,⟨n0,⟨n0,⟨n0,trivial⟩⟩⟩⟩⟩)) 8 rfl (jh (fun H=>oV.w aj H) (lC (fun H=>El.agg) (fun _=>?_)));refine nC (fun H=>d.1 H (Ns.all ⟨n0,⟨n0,⟨n0,⟨n0,⟨n0,trivial⟩⟩⟩⟩⟩)) ?_;refine jEt (fun H=>d.1 H (Ns.all ⟨n0,⟨n0,⟨n0,⟨n0,⟨n0,trivial⟩⟩⟩⟩⟩)) 9 rfl (js [2,0,1,3,4] rfl (jPL z (fun v5=>?_)));refine nC (fun H=>d.1 H (Ns.all ⟨n0,⟨n0,⟨n0,⟨n0,trivial⟩⟩⟩⟩)) (fZ 10 rfl e2 ?_);refine jEt (fun H=>d.1 H (Ns.all ⟨n0,⟨n0,⟨n0,⟨n0,trivial⟩⟩⟩⟩)) 11 rfl (js [2,0,1,3] rfl (jW (hv:=(fun H=>(H.l 1 rfl).one)) e3 ?_));refine nC (fun H=>d.1 H (Ns.all ⟨n0,⟨n0,⟨n0,⟨n0,trivial⟩⟩⟩⟩)) (jbe (mU (jA 1 rfl (jB fun z7 c7=>(dA c7 (jA 1 rfl (xF (dL d (js [2,3,1,4] rfl ?_)))))))));exact jg ⟨_,(bD c7),ak,ls⟩
   refine jko 1 (fun K7 H=>iT F G _ H.hN K7 (H.u (S h)) X y W) (fun _ Y Z=>?_);refine nC (fun H=>d.1 H (Ns.all ⟨n0,⟨n0,⟨n0,⟨n0,⟨n0,trivial⟩⟩⟩⟩⟩)) ?_;refine jV (fun H=>d.1 H (Ns.all ⟨n0,⟨n0,⟨n0,⟨n0,⟨n0,trivial⟩⟩⟩⟩⟩)) 1 8 rfl rfl ?_ ?_
   ·
    refine jb 3 e3 ?_;refine nC (fun H=>d.1 H (Ns.all ⟨n0,⟨n0,⟨n0,⟨n0,⟨n0,trivial⟩⟩⟩⟩⟩)) ?_;refine jEt (fun H=>d.1 H (Ns.all ⟨n0,⟨n0,⟨n0,⟨n0,⟨n0,trivial⟩⟩⟩⟩⟩)) 8 rfl (jh (fun H=>oV.w Y H) (lC (fun H=>El.agg) (fun _=>?_)));refine nC (fun H=>d.1 H (Ns.all ⟨n0,⟨n0,⟨n0,⟨n0,⟨n0,trivial⟩⟩⟩⟩⟩)) ?_;refine jEt (fun H=>d.1 H (Ns.all ⟨n0,⟨n0,⟨n0,⟨n0,⟨n0,trivial⟩⟩⟩⟩⟩)) 9 rfl (js [2,0,1,3,4] rfl (jPL z (fun v6=>?_)));refine nC (fun H=>d.1 H (Ns.all ⟨n0,⟨n0,⟨n0,⟨n0,trivial⟩⟩⟩⟩)) (fZ 10 rfl e2 ?_);refine jEt (fun H=>d.1 H (Ns.all ⟨n0,⟨n0,⟨n0,⟨n0,trivial⟩⟩⟩⟩)) 11 rfl (js [2,0,1,3] rfl (jW (hv:=(fun H=>(H.l 1 rfl).one)) e3 ?_));refine nC (fun H=>d.1 H (Ns.all ⟨n0,⟨n0,⟨n0,⟨n0,trivial⟩⟩⟩⟩)) (jbe (mU (jA 1 rfl (jB fun z8 c8=>(dA c8 (jA 1 rfl (xF (dL d (js [2,3,1,4] rfl ?_)))))))));exact jg ⟨_,(bD c8),Z,ls⟩
   refine jh (fun H=>oV.w Y H) (lC (fun H=>El.agg) (fun _=>?_));refine nC (fun H=>d.1 H (Ns.all ⟨n0,⟨n0,⟨n0,⟨n0,⟨n0,trivial⟩⟩⟩⟩⟩)) ?_;refine jEt (fun H=>d.1 H (Ns.all ⟨n0,⟨n0,⟨n0,⟨n0,⟨n0,trivial⟩⟩⟩⟩⟩)) 1 rfl (jb 3 e3 ?_);refine nC (fun H=>d.1 H (Ns.all ⟨n0,⟨n0,⟨n0,⟨n0,⟨n0,trivial⟩⟩⟩⟩⟩)) ?_;refine jEt (fun H=>d.1 H (Ns.all ⟨n0,⟨n0,⟨n0,⟨n0,⟨n0,trivial⟩⟩⟩⟩⟩)) 9 rfl (js [2,0,1,3,4] rfl (jPL z (fun v7=>?_)));refine nC (fun H=>d.1 H (Ns.all ⟨n0,⟨n0,⟨n0,⟨n0,trivial⟩⟩⟩⟩)) (fZ 10 rfl e2 ?_);refine jEt (fun H=>d.1 H (Ns.all ⟨n0,⟨n0,⟨n0,⟨n0,trivial⟩⟩⟩⟩)) 11 rfl (js [2,0,1,3] rfl (jW (hv:=(fun H=>(H.l 1 rfl).one)) e3 ?_));refine nC (fun H=>d.1 H (Ns.all ⟨n0,⟨n0,⟨n0,⟨n0,trivial⟩⟩⟩⟩)) (jbe (mU (jA 1 rfl (jB fun z9 c9=>(dA c9 (jA 1 rfl (xF (dL d (js [2,3,1,4] rfl ?_)))))))));exact jg ⟨_,(bD c9),Z,ls⟩
  refine sI (jbk (xCi ?_));exact jf ⟨_,i4,E,ls⟩
 refine qQ (zY 2 e3 (js [3,0,1,2] rfl ?_));refine bC (hv:=(fun H=>oc rfl (oc (H.l 1 rfl).one on))) e3 (xP ?_);exact j1m (fun H=>H.s [1,2] rfl rfl) (rcA 0 e2) ⟨_,y,i3,lv⟩
def gA (N:Nat) (e:List UInt8) (f:Int):Option Template:=
 xK (bQ e) fun c=>
 xK (kU N c.1 c.2.1 c.2.2 f) fun d=>
 some ((Template.mk d.1.size d.1.rels))
theorem xAc {B:Nat→Prop} {N:Nat} {i:List UInt8} {d:Int} (r:Template) (t:gA N i d=some r) {f:Value} (e:World) (hN:∀ c,B c→c<e.heap.size) (y:Bo B e (Sl 1 aW) f i) (j:xH d):Calls Tryz.prog 5 #[f,xI d] e (Gt B e [] (.v fun h=>.fa (xH r.size) <| .st (.agg #[xI r.size,h]) fun D=>rl 2 oV 108 h r.rels::D)):=by
 unfold gA at t
 revert r
 refine zI func5 [(0,f),(1,xI d)] (Sep.start hN) fun r=>?_;refine xL (dG rfl fun I=>xN (jA 1 rfl (jB fun z A=>(jkB (fun H=>lE z A _ H.hN (H.u y)) fun K L p C=>jA 1 rfl (jB fun E F=>(jko 1 (fun K1 H=>sF E F _ H.hN K1 (H.u p) C j) fun M G _=>js [2,0,1] rfl ?_))))));refine bC (hv:=(fun H=>oc rfl (oc (H.l 1 rfl).one on))) e3 (xP ?_);exact j1m (fun H=>H.s [1] rfl rfl) (rcA 0 e2) ⟨_,G,lv⟩
def cH (c d e:Int):Option Bool:=
 vC (σ:=Bool) (
  if (decide (d≤c)) then  some (.nx (decide (c≤e))) else  some (.nx false)) fun f=>
 some f
theorem cT {B:Nat→Prop} {d e f:Int} (r:Bool) (i:cH d e f=some r)  (h:World) (hN:∀ c,B c→c<h.heap.size) (p:xH d) (t:xH e) (y:xH f):Calls Tryz.prog 111 #[xI d,xI e,xI f] h (Gt B h [] (.st (.bool r) fun D=>D)):=by
 unfold cH at i
 revert r
 refine zI func111 [(0,xI d),(1,xI e),(2,xI f)] (Sep.start hN) fun r=>?_;refine xL (jA 1 rfl (xV (zX (fun j=>.st [(6,.bool j)] []) ?_ (fun _=>?_))))
 ·
  refine a_g (jA 4 rfl (dP 10 (fun _=>?_) (fun _=>?_)))
  ·
   refine jA 5 rfl (xF ?_);exact jf ls
  refine jA 5 rfl (xF ?_);exact jf ls
 refine jY ?_;exact zB (rt rfl) lv
def gF (d:Template) (c:Int):Option Int:=
 if (c==(-1)) then
  some 2
 else
  xK (ck ((d.rels.length:Int) - 1)) fun e=>
  xK (cH c 0 e) fun f=>
  if (!f) then
   some 0
  else
   xK (ix d.rels c) fun h=>
   some h.arity
theorem tQ {B:Nat→Prop} {i:Template} {d:Int} (r:Int) (y:gF i d=some r) {h:Value} (e:World) (hN:∀ c,B c→c<e.heap.size) (f:Bo B e (Pt 2 xA) h i) (p:xH d):Calls Tryz.prog 130 #[h,xI d] e (Gt B e [] (.fa (xH r) <| .st (xI r) fun D=>D)):=by
 unfold gF at y
 revert r
 refine zI func130 [(0,h),(1,xI d)] (Sep.start hN) fun r=>?_;refine xL (jA 1 rfl (xO (jA 2 rfl (xF (zC (fun _=>?_) (fun _=>?_))))))
 ·
  refine xL (jA 1 rfl (xT ?_));exact zB (rt rfl) ⟨(show xH (2) by decide),lv⟩
 refine kZ (jA 2 rfl (jN f (dH f xA.f1 fun _ z=>iI z fun _ A=>jL A fun _=>jB fun M j=>(dA j (jB fun C E=>(jk (fun H=>cT C E _ aA p (show xH (0) by decide) (bD j)) (jA 1 rfl ?_)))))));refine xF (zC (fun _=>?_) (fun _=>?_))
 ·
  refine xL (jA 1 rfl (xT ?_));exact zB (rt rfl) ⟨(show xH (0) by decide),lv⟩
 refine oY (jA 1 rfl (jN f (dH f xA.f1 fun _ F=>iI F fun _ G=>jA 1 rfl (jB fun N I=>(jI G I fun _ K=>dH K oV.f0 fun _ L=>iG L fun t=>jA 1 rfl ?_)))));refine xP ?_;exact zB (rt rfl) ⟨t,lv⟩
def gH (N:Nat) (c:List UInt8) (G H:Int) (p:Template) (t:Int):Option (Formula×Int×Int):=
 xK (xR c G H 3) fun d=>
 xK (ck (t+d.1)) fun y=>
 xK (xR c d.2.1 d.2.2 5) fun e=>
 vC (σ:=Int×Int×Int×(List Atom)) (
  whl (σ:=Int×Int×Int×(List Atom)) (ρ:=Formula×Int×Int) (fun(s:Int×Int×Int×(List Atom))=>
    match s with
    | (f,z,A,B)=>
    if (decide (0<f)) then
     xK (ck ((p.rels.length:Int)+1)) fun T=>
     xK (xR c z A T) fun h=>
     xK (ck (h.1 - 1)) fun C=>
     xK (gF p C) fun U=>
     vC (σ:=Int×Int×Int×(List Int)) (
      whl (σ:=Int×Int×Int×(List Int)) (ρ:=(Ctl (Int×Int×Int×(List Atom)) (Formula×Int×Int))) (fun(s:Int×Int×Int×(List Int))=>
        match s with
        | (i,D,E,F)=>
        if (decide (0<i)) then
         xK (xR c D E y) fun j=>
         xK (ap F ([j.1])) fun V=>
         xK (ck (i - 1)) fun I=>
         some (.go (I,j.2.1,j.2.2,V))
        else
         some (.brk (i,D,E,F))) N (U,h.2.1,h.2.2,[])) fun(X,K,L,M)=>
     xK (ap B ([(Atom.mk C M)])) fun O=>
     xK (ck (f - 1)) fun P=>
     some (.go (P,K,L,O))
    else
     some (.brk (f,z,A,B))) N (e.1,e.2.1,e.2.2,[])) fun(W,Q,R,S)=>
 some ((Formula.mk t y S),Q,R)
theorem xDl {B:Nat→Prop} {N:Nat} {Y:List UInt8} {P Z:Int} {x1:Template} {y:Int} (r:Formula×Int×Int) (hR:gH N Y P Z x1 y=some r) {d:Nat} {j:Value} {z:Value} {X0:List Nat} (C:World) (hN:∀ c,B c→c<C.heap.size) (S0:Sep X0 B C C [bx d [j,xI P,.int .u64 Z] 113]) (G:Bo B C (Sl 1 aW) j Y) (an:xH P) (T:Bo B C (Pt 2 xA) z x1) (ao:xH y):Calls Tryz.prog 70 #[xU d,z,xI y] C (Gt B C X0 (.v fun a0=>.fa (xH r.1.free) <| .fa (xH r.1.vars) <| .fa (xH r.2.1) <| .st (.agg #[xI r.1.free,xI r.1.vars,a0]) fun D=>rl 2 xM 120 a0 r.1.atoms::bx d [j,xI r.2.1,.int .u64 r.2.2] 113::D)):=by
 unfold gH at hR
 revert r
 refine zI func70 [(0,xU d),(1,z),(2,xI y)] S0 fun r=>?_;refine xL (dG rfl fun e=>xN (jA 3 rfl (jB fun z1 c1=>(js [1,0] rfl (jko 1 (fun K1 H=>xZ z1 c1 _ H.hN K1 (H.u G) an (show xH (3) by decide)) fun _ i1=>jB fun L M=>(lY M (qT e5 (dG rfl (fun i=>?_)))))))));refine bC e3 (xO (jA 1 rfl (jB fun z3 c3=>(js [1,0,2] rfl (jko 1 (fun K2 H=>xZ z3 c3 _ H.hN K2 (H.u G) i1 (show xH (5) by decide)) fun i2 i3=>jA 1 rfl (xF ?_))))));refine zX (fun(s1,U,s3,s4)=>.v fun V=>.fa (xH s1) <| .fa (xH U) <| .st [(0,xU d),(6,xU e),(7,xU i)] [rl 2 xM 120 V s4,bx d [j,xI U,.int .u64 s3] 113,bx i [xI y,xI L,V] 72,bx e [xI 0,xI 0,cL] 72]) ?_ (fun(s1,U,s3,s4) V _ i4=>?_)
 ·
  refine eD (jh (fun H=>H.nl 2 xM 120) ?_);refine jw (fun(E,W,s7,F)=>.v fun p=>.fa (xH E) <| .fa (xH W) <| .st [(0,xU d),(1,z),(6,xU e),(7,xU i),(8,xI E)] [rl 2 xM 120 p F,bx d [j,xI W,.int .u64 s7] 113,bx i [xI y,xI L,p] 72,bx e [xI 0,xI 0,cL] 72]) ⟨_,i2,i3,ls⟩ (fun _ (E,W,s7,F) p i5 i6=>?_);refine oH (jA 2 rfl (xF (zC (fun _=>?_) (fun _=>?_))))
  ·
   refine rF (jA 2 rfl (jN T (dH T xA.f1 fun _ h1=>iI h1 fun _ h2=>jL h2 fun _=>jB fun z4 c4=>(lY c4 (jB fun z5 c5=>(js [1,0,2,3] rfl (jko 1 (fun K3 H=>xZ z5 c5 _ H.hN K3 (H.u G) i6 (bD c4)) (fun _ i7=>?_))))))));refine jB fun O X=>(dA X (jA 1 rfl (xN (jA 1 rfl (qT e5 (dG rfl fun A=>bC e3 (xO (jA 2 rfl (jB fun z7 c7=>?_)))))))));refine jk (fun H=>tQ z7 c7 _ aA (H.a T) (bD X)) fun aq=>jA 1 rfl (xF ?_);refine zX (fun(s9,Q,a1,a2)=>.v fun v4=>.fa (xH s9) <| .fa (xH Q) <| .st [(0,xU d),(1,z),(6,xU e),(7,xU i),(8,xI E),(10,xU A)] [rl 1 xG 2 v4 a2,bx A [xI O,v4] 120,bx d [j,xI Q,.int .u64 a1] 113,rl 2 xM 120 p F,bx i [xI y,xI L,p] 72,bx e [xI 0,xI 0,cL] 72]) ?_ (fun(s9,Q,a1,a2) _ _ i8=>?_)
   ·
    refine eD (jh (fun H=>H.nl 1 xG 2) ?_);refine jw (fun(I,R,a3,K)=>.v fun t=>.fa (xH I) <| .fa (xH R) <| .st [(0,xU d),(1,z),(6,xU e),(7,xU i),(8,xI E),(10,xU A),(11,xI I)] [rl 1 xG 2 t K,bx A [xI O,t] 120,bx d [j,xI R,.int .u64 a3] 113,rl 2 xM 120 p F,bx i [xI y,xI L,p] 72,bx e [xI 0,xI 0,cL] 72]) ⟨_,aq,i7,ls⟩ (fun _ (I,R,a3,K) t i9 S=>?_);refine oH (jA 2 rfl (xF (zC (fun _=>?_) (fun _=>?_))))
    ·
     refine xNm (jB fun h c8=>(jB fun z9 c9=>(js [4,0,1,2,3,5] rfl (lA fun w1 X1 N1 _ g1 e1 ar _=>?_))));have K4:=g1.bk;refine jD ?_;refine jdp (f:=3) (ls:=#[true,true,true,true,true,true,true,false,false,false]) (.v fun v6=>.fa (xH h.2.1) <| .st [(0,xU d),(1,z),(6,xU e),(7,xU i),(8,xI E),(10,xU A),(11,xI I),(43,t),(48,v6)] [rl 1 xG 2 v6 ([h.1]),bx d [j,xI h.2.1,.int .u64 h.2.2] 113,rl 1 xG 2 t K,bx A [xI O,t] 120,rl 2 xM 120 p F,bx e [xI 0,xI 0,cL] 72]) (fun _ au=>?_) (fun H1=>?_)
     ·
      refine jE 7 rfl (js [2,0,1,3,4,5] rfl (jPL c9 fun v7=>kK (fZ 8 rfl e2 (jE 9 rfl (js [2,0,1,3,4] rfl (jW (hv:=(fun H=>(H.l 1 rfl).one)) e3 (kK (jbe (mU ?_)))))))));refine jA 1 rfl (jB fun bv a4=>(dA a4 (jA 1 rfl (xF (dL ar (js [2,1,3,4,0,5] rfl ?_))))));exact jg ⟨_,(bD a4),au,ls⟩
     refine jdp (f:=4) (ls:=#[true,true,true,true,true,true,false,false,false,false]) (.fa (xH h.2.1) <| .fa (xH h.1) <| .st [(0,xU d),(1,z),(6,xU e),(7,xU i),(8,xI E),(10,xU A),(11,xI I),(43,t),(47,xI h.1)] [bx d [j,xI h.2.1,.int .u64 h.2.2] 113,rl 1 xG 2 t K,bx A [xI O,t] 120,rl 2 xM 120 p F,bx e [xI 0,xI 0,cL] 72]) (fun av aw=>?_) (fun H2=>?_)
     ·
      refine jE 6 rfl (sL (fun H=>Eo.int aw) fun v8=>kK ?_);exact H1 ⟨_,av,ls⟩
     refine fZ 0 rfl e2 (jvA [2] rfl (fZ 3 rfl e2 (jvb 4 rfl K4 e2 (jV (fun H=>H) 1 5 rfl rfl ?_ ?_))))
     ·
      refine jb 1 e3 (kK (jE 5 rfl (js [2,0,1,3,4] rfl (jko 1 (fun K5 H=>xZ h c8 _ H.hN K5 (H.u (e1 G)) S (bD M)) fun ax ay=>kK ?_))));exact H2 ⟨ay,ax,ls⟩
     refine js [2,0,1,3,4] rfl (jko 1 (fun K6 H=>xZ h c8 _ H.hN K6 (H.u (e1 G)) S (bD M)) fun a5 a6=>kK (jV (fun H=>H) 1 6 rfl rfl ?_ ?_))
     ·
      refine jb 2 e3 (kK ?_);exact H2 ⟨a6,a5,ls⟩
     refine sL (fun H=>Eo.int a5) fun v9=>kK (jE 1 rfl (jb 3 e3 (kK ?_)));exact H1 ⟨_,a6,ls⟩
    refine sI (jbk (xCi ?_));exact jf ⟨_,i9,S,ls⟩
   refine xQp (xY e2 (jb 4 e3 (zY 1 e3 (jh (fun H=>xM.w (bD X) H) (lC (fun H=>El.agg) fun _=>jB fun bw az=>(js [3,0,1,2,4,5] rfl (jPL az fun c0=>xY e2 (js [3,0,1,2,4] rfl ?_))))))));refine jW (hv:=(fun H=>(H.l 1 rfl).one)) e3 (zQ (jA 1 rfl (jB fun z13 a7=>(dA a7 (jA 1 rfl (xF (js [1,3,0,4] rfl ?_)))))));exact jg ⟨_,(bD a7),i8,ls⟩
  refine sI (jbk (xCi ?_));exact jf ⟨_,i5,i6,ls⟩
 refine qQ (zY 2 e3 (js [3,0,1,2] rfl ?_));refine bC (hv:=(fun H=>oc rfl (oc rfl (oc (H.l 1 rfl).one on)))) e3 (xP ?_);exact j1m (fun H=>H.s [1,2] rfl rfl) (rcA 0 e2) ⟨_,ao,(bD M),i4,lv⟩
def bT (c d:Int):Option Int:=
 if (decide (d<c)) then
  some c
 else
  some d
theorem rY {B:Nat→Prop} {d e:Int} (r:Int) (j:bT d e=some r)  (f:World) (hN:∀ c,B c→c<f.heap.size) (h:xH d) (i:xH e):Calls Tryz.prog 98 #[xI d,xI e] f (Gt B f [] (.fa (xH r) <| .st (xI r) fun D=>D)):=by
 unfold bT at j
 revert r
 refine zI func98 [(0,xI d),(1,xI e)] (Sep.start hN) fun r=>?_;refine xL (jA 1 rfl (xO (jA 3 rfl (xF (zC (fun _=>?_) (fun _=>?_))))))
 ·
  refine xL (jA 2 rfl (xT ?_));exact zB (rt rfl) ⟨h,lv⟩
 refine oY (jA 2 rfl (xP ?_));exact zB (rt rfl) ⟨i,lv⟩
def gT (c d:List Int):Option (List Int):=
 vC (σ:=(List Int)) (
  oM (σ:=(List Int)) (ρ:=(List Int)) (fun (p:Nat) (e:Int) (f:(List Int))=>
   xK (ix c e) fun h=>
   xK (ap f ([h])) fun i=>
   some (.go i)) d 0 []) fun j=>
 some j
theorem sS {B:Nat→Prop} {z A:List Int} (r:(List Int)) (G:gT z A=some r) {e:Value} {f:Value} (d:World) (hN:∀ c,B c→c<d.heap.size) (I:Bo B d (Sl 1 xG) e z) (i:Bo B d (Sl 1 xG) f A):Calls Tryz.prog 61 #[e,f] d (Gt B d [] (.v fun y=>.st (y) fun D=>rl 1 xG 2 y r::D)):=by
 unfold gT at G
 revert r
 refine zI func61 [(0,e),(1,f)] (Sep.start hN) fun r=>?_;refine xL (jA 1 rfl (xN (jR0 xG fun T=>jA 1 rfl (xO (jA 1 rfl (xF (zX (fun K=>.v fun j=>.st [(5,j)] [rl 1 xG 2 j K]) ?_ (fun _ j=>?_))))))))
 ·
  refine eD ?_;refine jl (fun C E=>.v fun p=>.st [(6,xI (C:Int)),(0,e),(1,f),(5,p)] [rl 1 xG 2 p E]) ⟨_,ls⟩ (fun _ E _ L p=>?_) (fun C _ _ h M _=>?_)
  ·
   have t:=qC L;refine oH (jA 2 rfl (jL i fun _=>jA 1 rfl (xF (gR t (xS ?_)))));exact jf ⟨_,ls⟩
  have t:=xW h;refine oH (jA 2 rfl (jL i fun F=>jA 1 rfl (xF (gN t (qD ?_)))));have j2:=jZ (Nat.le_of_lt h) F;have N:=vK h F;refine xJr (jA 4 rfl (jI i M fun _ O=>iG O fun _=>jB fun U P=>(jI I P fun _ Q=>iG Q fun R=>sL (fun H=>Eo.int R) fun _=>jB fun V S=>(js [1,0] rfl (jPL S (fun W=>?_))))));refine jA 1 rfl (zQ (jA 1 rfl (oQ N (jA 1 rfl (xF ?_)))));exact jg ⟨_,ls⟩
 refine qQ (jA 2 rfl (xP ?_));exact j1 (rt rfl) ⟨_,lv⟩
def cU (c d:List Int):Option Bool:=
 if ((c.length:Int) != (d.length:Int)) then
  some false
 else
  vC (σ:=Unit) (
   oM (σ:=Unit) (ρ:=Bool) (fun (e:Nat) (f:Int) (s:Unit)=>
     match s with
     | _=>
     xK (ix d (e:Int)) fun h=>
     if (f != h) then
      some (.ret false)
     else
      some (.go ())) c 0 ()) fun _=>
  some true
theorem iA {B:Nat→Prop} {p t:List Int} (r:Bool) (C:cU p t=some r) {e:Value} {f:Value} (d:World) (hN:∀ c,B c→c<d.heap.size) (h:Bo B d (Sl 1 xG) e p) (y:Bo B d (Sl 1 xG) f t):Calls Tryz.prog 48 #[e,f] d (Gt B d [] (.st (.bool r) fun D=>D)):=by
 unfold cU at C
 revert r
 refine zI func48 [(0,e),(1,f)] (Sep.start hN) fun r=>?_;refine xL (jA 1 rfl (xO (jA 1 rfl (jL h fun _=>jA 1 rfl (jL y fun _=>jA 1 rfl (xF (zC (fun _=>?_) (fun _=>?_))))))))
 ·
  refine xL (jA 1 rfl (xT ?_));exact zB (rt rfl) lv
 refine kZ (jA 1 rfl (xF (zX (fun _=>.st [] []) ?_ (fun _=>?_))))
 ·
  refine eD (jl (fun z _=>.st [(5,xI (z:Int)),(0,e),(1,f)] []) ls (fun _ _ _ E=>?_) (fun z _ _ i F=>?_))
  ·
   have j:=qC E;refine oH (jA 2 rfl (jL h fun _=>jA 1 rfl (xF (gR j (xS ?_)))));exact jf ls
  have j:=xW i;refine oH (jA 2 rfl (jL h fun A=>jA 1 rfl (xF (gN j (qD ?_)))));have j1:=jZ (Nat.le_of_lt i) A;have G:=vK i A;refine xDs (jQ (qR 2 rfl (jqI h F fun _ H=>aD H fun _=>qR 2 rfl (jB fun L I=>(jqI y I fun _ K=>aD K fun _=>qR 1 rfl (iS ?_))))));refine dI (zC (fun _=>?_) (fun _=>?_))
  ·
   refine xL (jA 1 rfl (vE (jrt (eX (jrj (a_R ?_))))));exact zB (rt rfl) lv
  refine vY (jA 1 rfl (oQ G (jA 1 rfl (xF ?_))));exact jg ls
 refine qQ (jA 1 rfl (xP ?_));exact zB (rt rfl) lv
def cW (c:Rel) (d:List Int):Option Bool:=
 vC (σ:=Unit) (
  oM (σ:=Unit) (ρ:=Bool) (fun (h:Nat) (e:(List Int)) (s:Unit)=>
    match s with
    | _=>
    xK (cU e d) fun f=>
    if f then
     some (.ret true)
    else
     some (.go ())) c.tuples 0 ()) fun _=>
 some false
theorem wT {B:Nat→Prop} {p:Rel} {t:List Int} (r:Bool) (A:cW p t=some r) {f:Value} {h:Value} (e:World) (hN:∀ c,B c→c<e.heap.size) (d:Bo B e (Pt 2 oV) f p) (C:Bo B e (Sl 1 xG) h t):Calls Tryz.prog 170 #[f,h] e (Gt B e [] (.st (.bool r) fun D=>D)):=by
 unfold cW at A
 revert r
 refine zI func170 [(0,f),(1,h)] (Sep.start hN) fun r=>?_;refine xL (jA 1 rfl (xO (jA 1 rfl (xF (zX (fun _=>.st [] []) ?_ (fun _=>?_))))))
 ·
  refine eD (jl (fun y _=>.st [(5,xI (y:Int)),(0,f),(1,h)] []) ls (fun _ _ _ E=>?_) (fun y _ _ i F=>?_))
  ·
   have j:=qC E;refine oH (jA 2 rfl (jN d (dH d oV.f1 fun _ G=>iI G fun _ I=>jL I fun _=>jA 1 rfl (xF (gR j (xS ?_))))));exact jf ls
  have j:=xW i;refine oH (jA 2 rfl (jN d (dH d oV.f1 fun _ K=>iI K fun _ L=>jL L fun z=>jA 1 rfl (xF (gN j (qD ?_))))));have j1:=jZ (Nat.le_of_lt i) z;have M:=vK i z;refine kE (jA 1 rfl (jN d (dH d oV.f1 fun _ N=>iI N fun _ O=>jA 1 rfl (jI O F fun _ P=>iI P fun _ Q=>jA 1 rfl (jB fun R S=>(jk (fun H=>iA R S _ aA (H.a Q) (H.a C)) ?_))))));refine xF (zC (fun _=>?_) (fun _=>?_))
  ·
   refine xL (jA 1 rfl (vE (jrt (eX (jrj (a_R ?_))))));exact zB (rt rfl) lv
  refine vY (jA 1 rfl (oQ M (jA 1 rfl (xF ?_))));exact jg ls
 refine qQ (jA 1 rfl (xP ?_));exact zB (rt rfl) lv
def lK (e:Template) (c:Atom) (f:List Int):Option Bool:=
 xK (gT f c.args) fun d=>
 if (c.rel==(-1)) then
  xK (ix d 0) fun h=>
  xK (ix d 1) fun i=>
  some ((h==i))
 else
  xK (ix e.rels c.rel) fun j=>
  xK (cW j d) fun p=>
  some p
theorem xEr {B:Nat→Prop} {p:Template} {t:Atom} {y:List Int} (r:Bool) (E:lK p t y=some r) {f:Value} {h:Value} {i:Value} (d:World) (hN:∀ c,B c→c<d.heap.size) (z:Bo B d (Pt 2 xA) f p) (e:Bo B d (Pt 2 xM) h t) (F:Bo B d (Sl 1 xG) i y):Calls Tryz.prog 196 #[f,h,i] d (Gt B d [] (.st (.bool r) fun D=>D)):=by
 unfold lK at E
 revert r
 refine zI func196 [(0,f),(1,h),(2,i)] (Sep.start hN) fun r=>?_;refine xL (jA 1 rfl (xN (jA 2 rfl (jN e (dH e xM.f1 fun _ G=>iI G fun _ I=>jB fun K A=>(jk (fun H=>sS K A _ aA (H.a F) (H.a I)) fun _=>jA 1 rfl (xO ?_)))))));refine jA 1 rfl (jN e (dH e xM.f0 fun _ L=>iG L fun _=>jA 1 rfl (xF (zC (fun _=>?_) (fun _=>?_)))))
 ·
  refine a_s (lA fun _ _ _ _ M _ C _=>?_);have j:=M.ld;refine jQ (qR 1 rfl (jB fun Y N=>(jqI j N fun _ O=>aD O fun _=>qR 1 rfl (jB fun Z P=>(jqI j P fun _ Q=>aD Q fun _=>qR 2 rfl (iS ?_))))));refine xRw (dL C ?_);exact zB (rt rfl) lv
 refine qD (jQ (qR 1 rfl (iO z (zA z xA.f1 fun _ R=>aZ R fun _ S=>qR 1 rfl (iO e (zA e xM.f0 fun _ T=>aD T fun _=>jB fun z4 U=>?_))))));refine jqI S U fun _ V=>qR 1 rfl (jB fun W X=>(jqk (fun H=>wT W X _ aA (H.a V) (H.l 0 rfl)) (qR 1 rfl (iS (jY ?_)))));exact zB (rt rfl) lv
def eF (e:Template) (f:Formula) (c:List Int):Option Bool:=
 xK (ck ((c.length:Int) - 1)) fun h=>
 vC (σ:=Unit) (
  oM (σ:=Unit) (ρ:=Bool) (fun (A:Nat) (d:Atom) (s:Unit)=>
    match s with
    | _=>
    vC (σ:=Int) (
     oM (σ:=Int) (ρ:=(Ctl (Unit) Bool)) (fun (B:Nat) (i j:Int)=>
      xK (bT j i) fun p=>
      some (.go p)) d.args 0 0) fun t=>
    vC (σ:=Bool) (
     if (t==h) then  xK (lK e d c) fun y=>
      some (.nx (!y)) else  some (.nx false)) fun z=>
    if z then
     some (.ret false)
    else
     some (.go ())) f.atoms 0 ()) fun _=>
 some true
theorem uE {B:Nat→Prop} {I:Template} {K:Formula} {L:List Int} (r:Bool) (hR:eF I K L=some r) {e:Value} {f:Value} {h:Value} (i:World) (hN:∀ c,B c→c<i.heap.size) (A0:Bo B i (Pt 2 xA) e I) (d:Bo B i (Pt 3 xC) f K) (M:Bo B i (Sl 1 xG) h L):Calls Tryz.prog 177 #[e,f,h] i (Gt B i [] (.st (.bool r) fun D=>D)):=by
 unfold eF at hR
 revert r
 refine zI func177 [(0,e),(1,f),(2,h)] (Sep.start hN) fun r=>?_;refine xL (jA 1 rfl (xN (jA 1 rfl (jL M fun _=>jB fun p c1=>(dA c1 (jA 1 rfl (xO (jA 1 rfl (xF ?_)))))))));refine zX (fun _=>.st [] []) ?_ (fun _=>?_)
 ·
  refine eD (jl (fun j _=>.st [(8,xI (j:Int)),(0,e),(1,f),(2,h),(7,xI p)] []) ls (fun _ _ _ q1=>?_) (fun j x3 _ y t=>?_))
  ·
   have A:=qC q1;refine oH (jA 2 rfl (jN d (dH d xC.f2 fun _ h1=>iI h1 fun _ h2=>jL h2 fun _=>jA 1 rfl (xF (gR A (xS ?_))))));exact jf ls
  have A:=xW y;refine oH (jA 2 rfl (jN d (dH d xC.f2 fun _ h3=>iI h3 fun _ h4=>jL h4 fun N=>jA 1 rfl (xF (gN A (qD ?_))))));have j1:=jZ (Nat.le_of_lt y) N;have m1:=vK y N;refine kE (jA 1 rfl (xO (jA 1 rfl (xF (zX (fun C=>.fa (xH C) <| .st [(0,e),(1,f),(2,h),(7,xI p),(8,xI (j:Int)),(9,xI C)] []) ?_ (fun C _=>?_))))))
  ·
   refine eD ?_;refine jl (fun O E=>.fa (xH E) <| .st [(10,xI (O:Int)),(0,e),(1,f),(2,h),(7,xI p),(8,xI (j:Int)),(9,xI E)] []) ⟨(show xH (0) by decide),ls⟩ (fun _ E _ q2 F=>?_) (fun O _ _ z y2 F=>?_)
   ·
    have G:=qC q2;refine oH (jA 2 rfl (jN d (dH d xC.f2 fun _ h5=>iI h5 fun _ h6=>jA 1 rfl (jI h6 t fun _ h7=>dH h7 xM.f1 fun _ h8=>iI h8 fun _ h9=>jL h9 fun _=>jA 1 rfl ?_))));refine xF (gR G (xS ?_));exact jf ⟨F,ls⟩
   have G:=xW z;refine oH (jA 2 rfl (jN d (dH d xC.f2 fun _ Q=>iI Q fun _ R=>jA 1 rfl (jI R t fun _ S=>dH S xM.f1 fun _ T=>iI T fun _ U=>jL U fun P=>jA 1 rfl ?_))));refine xF (gN G (qD ?_));have j2:=jZ (Nat.le_of_lt z) P;have m2:=vK z P;refine xJr (jA 2 rfl (jN d (dH d xC.f2 fun _ V=>iI V fun _ W=>jA 1 rfl (jI W t fun _ X=>dH X xM.f1 fun _ Y=>iI Y fun _ Z=>jA 1 rfl (jI Z y2 (fun _ a0=>?_))))));refine iG a0 fun i4=>jB fun z2 c2=>(jk (fun H=>rY z2 c2 _ aA F i4) fun a1=>jA 1 rfl (zQ (jA 1 rfl (oQ m2 (jA 1 rfl (xF ?_))))));exact jg ⟨a1,ls⟩
  refine xQx (zX (fun s3=>.st [(0,e),(1,f),(2,h),(7,xI p),(8,xI (j:Int)),(63,.bool s3)] []) ?_ (fun _=>?_))
  ·
   refine a_g (jA 4 rfl (dP 52 (fun _=>?_) (fun _=>?_)))
   ·
    refine jA 2 rfl (jN d (dH d xC.f2 fun _ a2=>iI a2 fun _ a3=>jA 1 rfl (jI a3 t fun _ a4=>jA 1 rfl (jB fun z3 c3=>(jk (fun H=>xEr z3 c3 _ aA (H.a A0) (H.a a4) (H.a M)) (jA 2 rfl (xF ?_)))))));exact jf ls
   refine jA 11 rfl (xF ?_);exact jf ls
  refine dI (zC (fun _=>?_) (fun _=>?_))
  ·
   refine xL (jA 1 rfl (vE (jrt (eX (jrj (a_R ?_))))));exact zB (rt rfl) lv
  refine vY (jA 1 rfl (oQ m1 (jA 1 rfl (xF ?_))));exact jg ls
 refine qQ (jA 1 rfl (xP ?_));exact zB (rt rfl) lv
def qE (c:List Int):Option (List Int):=
 xK (ap ([]) c) fun d=>
 some d
theorem eI {B:Nat→Prop} {h:List Int} (r:(List Int)) (i:qE h=some r) {e:Value} (d:World) (hN:∀ c,B c→c<d.heap.size) (j:Bo B d (Sl 1 xG) e h):Calls Tryz.prog 95 #[e] d (Gt B d [] (.v fun f=>.st (f) fun D=>rl 1 xG 2 f r::D)):=by
 unfold qE at i
 revert r
 refine zI func95 [(0,e)] (Sep.start hN) fun r=>?_;refine xL (jA 1 rfl (xN (jR0 xG fun _=>jA 1 rfl (jB fun t p=>(jh (fun H=>H.lw) (jPf (fun H=>H.a j) p fun y=>jh (fun H=>H.tl) (jA 1 rfl (xP ?_))))))));exact j1 (rt rfl) ⟨_,lv⟩
def kX:Nat→Template→Formula→(List Int)→Option ((List Int)×Bool)
  | 0,_,_,_=>none
  | N+1,c,d,e=>
  if ((e.length:Int)==d.vars) then
   some (e,true)
  else
   vC (σ:=Unit) (
    aY (σ:=Unit) (ρ:=(List Int)×Bool) (fun (i:Nat) (s:Unit)=>
      match s with
      | _=>
      xK (qE e) fun j=>
      xK (ap j ([(i:Int)])) fun f=>
      xK (eF c d f) fun p=>
      if (!p) then
       some (.go ())
      else
       xK (kX N c d f) fun h=>
       if h.2 then
        some (.ret (h.1,true))
       else
        some (.go ())) c.size.toNat 0 ()) fun _=>
   some ([],false)
theorem xBe:∀ (N:Nat) {B:Nat→Prop} {y:Template} {z:Formula} {A:List Int} (r:(List Int)×Bool) (h:kX N y z A=some r) {i:Value} {j:Value} {p:Value} (d:World) (hN:∀ c,B c→c<d.heap.size) (e:Bo B d (Pt 2 xA) i y) (t:Bo B d (Pt 3 xC) j z) (C:Bo B d (Sl 1 xG) p A),Calls Tryz.prog 178 #[i,j,p] d (Gt B d [] (.v fun F=>.st (.tuple #[F,.bool r.2]) fun D=>ro B (V:=(Sl 1 xG)) F r.1::D)):=by
  intro N
  induction N with
  | zero=>intro B y z A r h;unfold kX at h;cases h
  | succ N ih=>
  intro B y z A r h i j p d hN e t C;rw[kX] at h
  revert r
  refine zI func178 [(0,i),(1,j),(2,p)] (Sep.start hN) fun r=>?_;refine xL (jA 2 rfl (xO (jA 1 rfl (jL C fun _=>jA 1 rfl (jN t (dH t xC.f1 fun _ O=>iG O fun _=>jA 1 rfl (xF ?_)))))));refine zC (fun _=>?_) (fun _=>?_)
  ·
   refine xL (jA 3 rfl (xT (jh (fun H=>H.rob C) ?_)));exact j2 (rt rfl) (rt rfl) ⟨_,lv⟩
  refine kZ (jA 1 rfl (xF (zX (fun _=>.st [] []) ?_ (fun _=>?_))))
  ·
   refine eD (jc (fun I _=>.st [(8,xI (I:Int)),(0,i),(1,j),(2,p)] []) ls (fun _ _ _ f=>?_) (fun _ I _ f=>?_))
   ·
    have E:=iL f;refine oH (jA 2 rfl (jN e (dH e xA.f0 fun _ P=>iG P fun _=>jA 1 rfl (xF (gR E (xS ?_))))));exact jf ls
   have E:=eW f;refine oH (jA 2 rfl (jN e (dH e xA.f0 fun _ Q=>iG Q fun K=>jA 1 rfl (xF (gN E (qD ?_))))));have j1:=xBl f K;have L:=mB f K;refine kE (jA 1 rfl (jB fun R S=>(jk (fun H=>eI R S _ aA (H.a C)) fun _=>jA 1 rfl (sL (fun H=>Eo.int j1) fun _=>jB fun z2 T=>(js [1,0] rfl (jPL T fun _=>jA 1 rfl (xO ?_)))))));refine jA 3 rfl (jB fun U W=>(jk (fun H=>uE U W _ aA (H.a e) (H.a t) (H.l 0 rfl)) (jA 1 rfl (xF (zC (fun _=>?_) (fun _=>?_))))))
   ·
    refine xAg (jA 1 rfl (oQ L (jA 1 rfl (xF (js [] rfl ?_)))));exact jg ls
   refine oY (jA 3 rfl (lA fun _ _ _ _ X M G _=>?_));have Y:=X.ld;refine jB fun Z c4=>(jk (fun H=>ih Z c4 _ H.hN (H.u (M e)) (H.u (M t)) (H.u Y)) fun v3=>jA 5 rfl (xN (jA 1 rfl (xF (zC (fun _=>?_) (fun _=>?_))))))
   ·
    refine xL (jA 3 rfl (vE (jrt (eX (jrj (a_R (jh (fun H=>G.2.1 H (Ns.all trivial)) ?_)))))));exact j2 (rt rfl) (rt rfl) ⟨_,lv⟩
   refine vY (jA 1 rfl (oQ L (jA 1 rfl (xF (js [] rfl (dL G (js [] rfl ?_)))))));exact jg ls
  refine qQ (jR0 xG fun v4=>jA 2 rfl (xP (jh (fun H=>H.lw) (jh (fun H=>H.rwo) (jh (fun H=>H.rok) ?_)))));exact j2 (rt rfl) (rt rfl) ⟨_,lv⟩
theorem xCh {B:Nat→Prop} {N:Nat} {f:Template} {h:Formula} {i:List Int} (r:(List Int)×Bool) (y:kX N f h i=some r) {j:Value} {p:Value} {t:Value} (d:World) (hN:∀ c,B c→c<d.heap.size) (z:Bo B d (Pt 2 xA) j f) (A:Bo B d (Pt 3 xC) p h) (C:Bo B d (Sl 1 xG) t i):Calls Tryz.prog 178 #[j,p,t] d (Gt B d [] (.v fun e=>.st (.tuple #[e,.bool r.2]) fun D=>ro B (V:=(Sl 1 xG)) e r.1::D)):=
  xBe N r y d hN z A C
def dR (N:Nat) (e:Template) (f:Formula) (d:List Int):Option ((List Int)×Bool):=
 vC (σ:=Int) (
  whl (σ:=Int) (ρ:=(List Int)×Bool) (fun(c:Int)=>
   if (decide (c≤(d.length:Int))) then
    xK (sl d 0 c) fun i=>
    xK (eF e f i) fun j=>
    if (!j) then
     some (.ret ([],false))
    else
     xK (ck (c+1)) fun p=>
     some (.go p)
   else
    some (.brk c)) N 1) fun y=>
 xK (qE d) fun t=>
 xK (kX N e f t) fun h=>
 some (h.1,h.2)
theorem xBc {B:Nat→Prop} {N:Nat} {t:Template} {y:Formula} {z:List Int} (r:(List Int)×Bool) (I:dR N t y z=some r) {e:Value} {f:Value} {h:Value} (d:World) (hN:∀ c,B c→c<d.heap.size) (A:Bo B d (Pt 2 xA) e t) (C:Bo B d (Pt 3 xC) f y) (j:Bo B d (Sl 1 xG) h z):Calls Tryz.prog 131 #[e,f,h] d (Gt B d [] (.v fun p=>.st (.tuple #[p,.bool r.2]) fun D=>ro B (V:=(Sl 1 xG)) p r.1::D)):=by
 unfold dR at I
 revert r
 refine zI func131 [(0,e),(1,f),(2,h)] (Sep.start hN) fun r=>?_;refine xL (jA 2 rfl (xO (jA 1 rfl (xF (zX (fun K=>.fa (xH K) <| .st [(0,e),(1,f),(2,h)] []) ?_ (fun _ _=>?_))))))
 ·
  refine eD ?_;refine jw (fun i=>.fa (xH i) <| .st [(0,e),(1,f),(2,h),(8,xI i)] []) ⟨(show xH (1) by decide),ls⟩ fun _ i L=>oH (jA 2 rfl (jL j fun _=>jA 1 rfl (xF (zC (fun _=>?_) (fun _=>?_)))))
  ·
   refine rF (jA 4 rfl (jB fun Y M=>(jC rfl rfl j M fun _ O=>jB fun P Q=>(jk (fun H=>uE P Q _ aA (H.a A) (H.a C) (H.a O)) (jA 1 rfl (xF (zC (fun _=>?_) (fun _=>?_))))))))
   ·
    refine xL (jR0 xG fun Z=>jA 2 rfl (vE (jrt (eX (jrj (a_R (jh (fun H=>H.lw) (jh (fun H=>H.rwo) (jh (fun H=>H.rok) ?_)))))))));exact j2 (rt rfl) (rt rfl) ⟨_,lv⟩
   refine vY (jA 1 rfl (jB fun z3 E=>(lY E (jA 1 rfl (xF ?_)))));exact jg ⟨(bD E),ls⟩
  refine sI (jbk (xCi ?_));exact jf ⟨L,ls⟩
 refine qQ (jA 3 rfl (jB fun R S=>(jk (fun H=>eI R S _ aA (H.a j)) fun _=>lA fun _ _ _ _ T F G _=>?_)));have U:=T.ld;refine jB fun W X=>(jk (fun H=>xCh W X _ H.hN (H.u (F A)) (H.u (F C)) (H.u U)) fun v4=>jA 4 rfl (xP (jh (fun H=>G.2.1 H (Ns.all trivial)) ?_)));exact j2 (rt rfl) (rt rfl) ⟨_,lv⟩
def cV (N:Nat) (e:Template) (d:Formula):Option Rel:=
 vC (σ:=Int×(List (List Int))) (
  whl (σ:=Int×(List (List Int))) (ρ:=Rel) (fun(s:Int×(List (List Int)))=>
    match s with
    | (c,f)=>
    xK (kL N e.size d.free) fun i=>
    if (decide (c<i)) then
     xK (kH N e.size d.free c) fun h=>
     xK (dR N e d h) fun j=>
     if j.2 then
      xK (ap f ([h])) fun p=>
      xK (ck (c+1)) fun t=>
      some (.go (t,p))
     else
      xK (ck (c+1)) fun y=>
      some (.go (y,f))
    else
     some (.brk (c,f))) N (0,[])) fun(A,z)=>
 some ((Rel.mk d.free z))
theorem nF {B:Nat→Prop} {N:Nat} {F:Template} {h:Formula} (r:Rel) (Q:cV N F h=some r) {i:Value} {j:Value} (e:World) (hN:∀ c,B c→c<e.heap.size) (f:Bo B e (Pt 2 xA) i F) (d:Bo B e (Pt 3 xC) j h):Calls Tryz.prog 71 #[i,j] e (Gt B e [] (.v fun C=>.fa (xH r.arity) <| .st (.agg #[xI r.arity,C]) fun D=>rl 1 (fG 1 xG) 36 C r.tuples::D)):=by
 unfold cV at Q
 revert r
 refine zI func71 [(0,i),(1,j)] (Sep.start hN) fun r=>?_;refine xL (dG rfl fun p=>xN (jA 1 rfl (jN d (dH d xC.f0 fun _ R=>iG R fun S=>qT e5 (dG rfl fun t=>bC e3 (xO ?_))))));refine jA 1 rfl (xF ?_);refine zX (fun(G,I)=>.v fun y=>.fa (xH G) <| .st [(4,xU p),(5,xU t)] [rl 1 (fG 1 xG) 36 y I,bx t [xI h.free,y] 108,bx p [xI 0,cL] 108]) ?_ (fun(G,I) y _=>?_)
 ·
  refine eD (jh (fun H=>H.nl 1 (fG 1 xG) 36) ?_);refine jw (fun(z,K)=>.v fun A=>.fa (xH z) <| .st [(0,i),(1,j),(4,xU p),(5,xU t),(6,xI z)] [rl 1 (fG 1 xG) 36 A K,bx t [xI h.free,A] 108,bx p [xI 0,cL] 108]) ⟨_,(show xH (0) by decide),ls⟩ (fun _ (z,K) A L=>?_);refine xZr (jQ (qR 2 rfl (iO f (zA f xA.f0 fun _ T=>aD T fun U=>qR 1 rfl (iO d (zA d xC.f0 fun _ V=>aD V fun W=>jB fun X Y=>?_))))));refine xWw (fun H=>tL X Y _ aA U W) fun _=>qR 1 rfl (iS (dI (zC (fun _=>?_) (fun _=>?_))))
  ·
   refine xWj (jB fun Z c2=>(jD (jvA [0] rfl (jvN 1 rfl f (xEp 2 rfl f xA.f0 fun _ h4=>xMg 3 rfl h4 fun i5=>jvA [4] rfl (jvN 5 rfl d (xEp 6 rfl d xC.f0 fun _ h5=>xMg 7 rfl h5 (fun i6=>?_))))))));refine jvA [8] rfl (jE 9 rfl (jk (fun H=>mG Z c2 _ aA i5 i6 L) fun _=>kK (jvA [10] rfl (jbe (qQ (jA 3 rfl (lA fun _ _ _ _ g1 M E _=>?_)))))));have h6:=g1.ld;refine jB fun z3 c3=>(jk (fun H=>xBc z3 c3 _ H.hN (H.u (M f)) (H.u (M d)) (H.u h6)) fun _=>jA 5 rfl (xN (jA 1 rfl (xF (zC (fun _=>?_) (fun _=>?_))))))
   ·
    refine a_g (xY e2 (jb 2 e3 (jA 1 rfl (js [1,2,3] rfl (dL E (jh (fun H=>H.os) (lC (fun H=>El.sl) fun _=>jB fun z4 c4=>(js [1,0,2,3] rfl (jPL c4 (fun v4=>?_))))))))));refine xY e2 (js [1,0,2] rfl (jW (hv:=(fun H=>(H.l 1 rfl).one)) e3 (zQ (jA 1 rfl (jB fun z5 O=>(lY O (jA 1 rfl (xF (js [1,0,2] rfl ?_)))))))));exact jg ⟨_,(bD O),ls⟩
   refine vY (jA 1 rfl (jB fun z6 P=>(lY P (jA 1 rfl (xF (js [1,2,3] rfl (dL E (js [1,2,3] rfl ?_))))))));exact jg ⟨_,(bD P),ls⟩
  refine sI (jbk (xCi ?_));exact jf ⟨_,L,ls⟩
 refine qQ (zY 1 e3 (js [2,0,1] rfl ?_));refine bC (hv:=(fun H=>oc rfl (oc (H.l 1 rfl).one on))) e3 (xP ?_);exact j1m (fun H=>H.s [1] rfl rfl) (rcA 0 e2) ⟨_,S,lv⟩
def gJ (N:Nat) (d:List UInt8) (A B:Int) (e:Template):Option (Template×Gadgets×Int×Int):=
 xK (xR d A B 3) fun f=>
 vC (σ:=Int×Int×Int×(List Rel)×(List Formula)) (
  whl (σ:=Int×Int×Int×(List Rel)×(List Formula)) (ρ:=Template×Gadgets×Int×Int) (fun(s:Int×Int×Int×(List Rel)×(List Formula))=>
    match s with
    | (h,j,p,t,y)=>
    if (decide (0<h)) then
     xK (kQ d j p ([1,2,2,3])) fun i=>
     xK (gH N d i.2.1 i.2.2 e i.1) fun c=>
     xK (ap y ([(Formula.mk c.1.free c.1.vars c.1.atoms)])) fun D=>
     xK (cV N e (Formula.mk c.1.free c.1.vars c.1.atoms)) fun z=>
     xK (ap t ([(Rel.mk z.arity z.tuples)])) fun E=>
     xK (ck (h - 1)) fun F=>
     some (.go (F,c.2.1,c.2.2,E,D))
    else
     some (.brk (h,j,p,t,y))) N (f.1,f.2.1,f.2.2,[],[])) fun(K,G,H,I,C)=>
 some ((Template.mk e.size I),(Gadgets.mk C),G,H)
theorem xDt {B:Nat→Prop} {N:Nat} {Z:List UInt8} {P a0:Int} {C:Template} (r:Template×Gadgets×Int×Int) (hR:gJ N Z P a0 C=some r) {d:Nat} {y:Value} {E:Value} {X0:List Nat} (z:World) (hN:∀ c,B c→c<z.heap.size) (S0:Sep X0 B z z [bx d [y,xI P,.int .u64 a0] 113]) (O:Bo B z (Sl 1 aW) y Z) (al:xH P) (F:Bo B z (Pt 2 xA) E C):Calls Tryz.prog 31 #[xU d,E] z (Gt B z X0 (.v fun a1=>.v fun a2=>.fa (xH r.1.size) <| .fa (xH r.2.2.1) <| .st (.tuple #[.agg #[xI r.1.size,a1],.agg #[a2]]) fun D=>rl 2 oV 108 a1 r.1.rels::rw B 3 xC 72 a2 r.2.1.formulas::bx d [y,xI r.2.2.1,.int .u64 r.2.2.2] 113::D)):=by
 unfold gJ at hR
 revert r
 refine zI func31 [(0,xU d),(1,E)] S0 fun r=>?_;refine xL (dG rfl fun j=>dG rfl fun p=>xN (jA 1 rfl (jN F (dH F xA.f0 fun _ h1=>iG h1 fun i1=>qT e5 (dG rfl fun i=>bC e3 ?_)))));refine xN (qT e5 (dG rfl fun t=>bC e3 (xO (jA 1 rfl (jB fun z1 c1=>(js [4,0,1,2,3] rfl (jko 1 (fun K1 H=>xZ z1 c1 _ H.hN K1 (H.u O) al (show xH (3) by decide)) fun i2 i3=>jA 1 rfl (xF ?_))))))));refine zX (fun(s1,R,s3,s4,s5)=>.v fun S=>.v fun T=>.fa (xH s1) <| .fa (xH R) <| .st [(0,xU d),(4,xU j),(5,xU p),(6,xU i),(7,xU t)] [rw B 3 xC 72 T s5,rl 2 oV 108 S s4,bx d [y,xI R,.int .u64 s3] 113,bx t [T] 30,bx i [xI C.size,S] 26,bx p [cL] 30,bx j [xI 0,cL] 26]) ?_ (fun(s1,R,s3,s4,s5) S T _ i4=>?_)
 ·
  refine eD (jh (fun H=>H.nl 2 oV 108) (jh (fun H=>H.nl 3 xC 72) (jh (fun H=>H.lw) (jh (fun H=>H.wk) ?_))));refine jw (fun(G,U,s8,L,a3)=>.v fun e=>.v fun V=>.fa (xH G) <| .fa (xH U) <| .st [(0,xU d),(1,E),(4,xU j),(5,xU p),(6,xU i),(7,xU t),(8,xI G)] [rw B 3 xC 72 V a3,rl 2 oV 108 e L,bx d [y,xI U,.int .u64 s8] 113,bx t [V] 30,bx i [xI C.size,e] 26,bx p [cL] 30,bx j [xI 0,cL] 26]) ⟨_,_,i2,i3,ls⟩ (fun _ (G,U,s8,L,a3) e V i5 i6=>?_);refine oH (jA 2 rfl (xF (zC (fun _=>?_) (fun _=>?_))))
  ·
   refine rF (jA 3 rfl ?_);refine jRI [1,2,2,3] (by simp only[List.forall_mem_cons,List.not_mem_nil,false_implies,implies_true,and_true];exact⟨(show xH (1) by decide),(show xH (2) by decide),(show xH (2) by decide),(show xH (3) by decide)⟩) fun _=>lA fun w1 X1 N2 _ g1 I am an=>?_;have h2:=g1.ld;refine jB fun z2 c2=>(js [2,0,1,3,4,5,6] rfl (jko 1 (fun K2 H=>eO z2 c2 _ H.hN K2 (H.u (I O)) i6 (H.u h2)) fun i7 i8=>jB fun K c3=>(jko 1 (fun K3 H=>xDl K c3 _ H.hN K3 (H.u (I O)) i8 (H.u (I F)) i7) fun v6 W Q ao=>dG rfl (fun _=>?_))));refine bC (hv:=(fun H=>oc rfl (oc rfl (oc (H.l 1 rfl).one on)))) e3 (xN (xY e2 (jb 5 e3 (zY 0 e3 (js [1,0,2,3,4,5,6,7,8] rfl (lA fun w2 X2 X _ g2 e4 aq ar=>?_))))));have Y:=g2.ld;refine jR1 (N1:=X) n1 (fun H=>Eo.agg (xC.m W Q (H.u Y))) fun _=>jB fun z4 c4=>(js [3,0,1,2,4,5,6,7,8] rfl (jh (fun H=>H.up (fun c h=>(aq.2.2 c (am.2.2 c h)))) (jP c4 fun M=>xY e2 (js [4,0,1,2,3,5,6,7] rfl (jW (hv:=(fun H=>(H.r 1 rfl).one)) e3 (xF (jB fun A c5=>(jB fun z6 c6=>?_))))))));refine jD ?_;refine jdp (f:=3) (ls:=#[true,true,true,true,true,false,false,false]) (.v fun v8=>.st [(0,xU d),(1,E),(4,xU j),(5,xU p),(6,xU i),(7,xU t),(8,xI G),(35,e),(38,v8)] [rl 2 oV 108 v8 ([(Rel.mk A.arity A.tuples)]),bx t [M] 30,rw X 3 xC 72 M z4,bx d [y,xI K.2.1,.int .u64 K.2.2] 113,rl 2 oV 108 e L,bx i [xI C.size,e] 26,bx p [cL] 30,bx j [xI 0,cL] 26]) (fun _=>?_) (fun H1=>?_)
   ·
    refine jE 5 rfl (js [4,0,1,2,3,5,6,7] rfl (jPL c6 fun v9=>kK (fZ 6 rfl e2 (jE 7 rfl (js [4,0,1,2,3,5,6] rfl (jW (hv:=(fun H=>(H.l 1 rfl).one)) e3 (kK (jbe (mU ?_)))))))));refine jA 1 rfl (jB fun z7 c7=>(dA c7 (jA 1 rfl (xF (js [3,0,1,2,4,5,6] rfl ?_)))));refine jh (fun H=>ar Ab.rw H (Ns.all ⟨n0,⟨n0,⟨n0,⟨n0,⟨n0,⟨n0,trivial⟩⟩⟩⟩⟩⟩)) ?_;refine jh (fun H=>an Ab.rw H (Ns.all ⟨n0,⟨n0,⟨n0,⟨n0,⟨n0,⟨n0,trivial⟩⟩⟩⟩⟩⟩)) (js [0,2,4,3,1,5,6] rfl ?_);exact jg ⟨_,_,(bD c7),ao,ls⟩
   refine jdp (f:=4) (ls:=#[true,true,true,true,false,false,false,false]) (.v fun a4=>.fa (xH A.arity) <| .st [(0,xU d),(1,E),(4,xU j),(5,xU p),(6,xU i),(7,xU t),(8,xI G),(35,e),(37,(.agg #[xI A.arity,a4]))] [rl 1 (fG 1 xG) 36 a4 A.tuples,bx t [M] 30,rw X 3 xC 72 M z4,bx d [y,xI K.2.1,.int .u64 K.2.2] 113,rl 2 oV 108 e L,bx i [xI C.size,e] 26,bx p [cL] 30,bx j [xI 0,cL] 26]) (fun _ au=>?_) (fun H2=>?_)
   ·
    refine jE 4 rfl (jh (fun H=>oV.w au H) (lC (fun H=>El.agg) fun bn=>kK ?_));exact H1 ⟨_,ls⟩
   refine fZ 0 rfl e2 (jvA [2] rfl (jV (fun H=>H) 1 3 rfl rfl ?_ ?_))
   ·
    refine jb 5 e3 (kK (jE 3 rfl (jk (fun H=>nF A c5 _ aA (H.a (e4 (I F))) (xC.b (H.g 2 rfl).bk W Q (H.a Y))) fun bo av=>kK (js [0,1,2,4,5,6,7,8] rfl ?_))));exact H2 ⟨_,av,ls⟩
   refine jk (fun H=>nF A c5 _ aA (H.a (e4 (I F))) (xC.b (H.g 2 rfl).bk W Q (H.a Y))) fun bp a5=>kK (jV (fun H=>H) 1 4 rfl rfl ?_ ?_)
   ·
    refine jb 6 e3 (kK (js [0,1,2,4,5,6,7,8] rfl ?_));exact H2 ⟨_,a5,ls⟩
   refine jh (fun H=>oV.w a5 H) (lC (fun H=>El.agg) fun br=>kK (jE 1 rfl (jb 6 e3 (kK (js [0,1,2,4,5,6,7,8] rfl ?_)))));exact H1 ⟨_,ls⟩
  refine sI (jbk (xCi ?_));exact jf ⟨_,_,i5,i6,ls⟩
 refine xQx (js [3,4,0,1,2,5,6] rfl (jh (fun H=>H.mg) (lA fun _ _ _ _ g3 _ aw _=>?_)));have K4:=g3.l.bk;have K5:=g3.r.bk;refine jD (wD 0 rfl K5 e2 (wD 1 rfl K4 e2 (jE 2 rfl (js [4,0,1,2,3] rfl ?_))));refine bC (hv:=(fun H=>oc rfl (oc (H.l 2 rfl).one on))) e3 (kK (jE 3 rfl (js [4,0,1,2,3] rfl ?_)));refine bC (hv:=(fun H=>oc (H.r 2 rfl).one on)) e3 (kK (jbe (jY (dL aw (jh (fun H=>H.um) ?_)))));exact j2m (fun H=>H.s [5,4,6] rfl rfl) (rcA 3 e2) (rcA 2 e2) ⟨_,_,i1,i4,lv⟩
def eQ (N:Nat) (f:List UInt8) (e:Template):Option (Template×Gadgets):=
 xK (bQ f) fun c=>
 xK (gJ N c.1 c.2.1 c.2.2 (Template.mk e.size e.rels)) fun d=>
 some ((Template.mk d.1.size d.1.rels),(Gadgets.mk d.2.1.formulas))
theorem xBn {B:Nat→Prop} {N:Nat} {j:List UInt8} {p:Template} (r:Template×Gadgets) (A:eQ N j p=some r) {e:Value} {f:Value} (d:World) (hN:∀ c,B c→c<d.heap.size) (C:Bo B d (Sl 1 aW) e j) (E:Bo B d (qG 2 xA) f p):Calls Tryz.prog 6 #[e,f] d (Gt B d [] (.v fun h=>.v fun i=>.fa (xH r.1.size) <| .st (.tuple #[.agg #[xI r.1.size,h],.agg #[i]]) fun D=>rl 2 oV 108 h r.1.rels::rw B 3 xC 72 i r.2.formulas::D)):=by
 unfold eQ at A
 revert r
 refine zI func6 [(0,e),(1,f)] (Sep.start hN) fun r=>?_;refine xL ?_;obtain⟨T,rfl,F,G⟩:=xA.o E;refine jX e2 fun _=>dG rfl fun U=>dG rfl fun S=>xN (jA 1 rfl (jB fun I K=>(jkB (fun H=>lE I K _ H.hN (H.u C)) fun V W L M=>js [3,0,1,2] rfl (lA fun X Y Z _ O t _ y=>?_))));have z:=O.bk;refine jB fun P Q=>(jko 1 (fun K1 H=>xDt P Q _ H.hN K1 (H.u (t L)) M (xA.b (z.to H.sm) F (H.u (t G)))) fun v4 v5 R _=>jA 2 rfl (js [4,0,1,2,3] rfl ?_));refine bC (hv:=(fun H=>oc rfl (oc (H.l 1 rfl).one on))) e3 (js [4,0,1,2,3] rfl ?_);refine bC (hv:=(fun H=>oc (H.r 3 rfl).one on)) e3 (xP (js [3,0,1,2,4] rfl ?_));refine jh (fun H=>y Ab.rw H (Ns.all ⟨n0,⟨n0,⟨n0,⟨n0,trivial⟩⟩⟩⟩)) ?_;exact j2m (fun H=>H.s [3,0] rfl rfl) (rcA 2 e2) (rcA 1 e2) ⟨_,_,R,lv⟩
end Go.Proofs.YtlommebgedmjdaaGreatDoor
namespace Go.Proofs.YtlommebgedmjdaaGreatDoor
open Go.Proofs.Tryz
set_option linter.unusedVariables false
set_option linter.unusedSimpArgs false
set_option maxRecDepth 100000
open Go.RowKit
def kI (c d e:Int):Option Bool:=
 vC (σ:=Bool) (
  if (decide (d≤c)) then  some (.nx (decide (c≤e))) else  some (.nx false)) fun f=>
 some f
theorem bN {B:Nat→Prop} {d e f:Int} (r:Bool) (i:kI d e f=some r)  (h:World) (hN:∀ c,B c→c<h.heap.size) (p:xH d) (t:xH e) (y:xH f):Calls Tryz.prog 105 #[xI d,xI e,xI f] h (Gt B h [] (.st (.bool r) fun D=>D)):=by
 unfold kI at i
 revert r
 refine zI func105 [(0,xI d),(1,xI e),(2,xI f)] (Sep.start hN) fun r=>?_;refine xL (jA 1 rfl (xV (zX (fun j=>.st [(6,.bool j)] []) ?_ (fun _=>?_))))
 ·
  refine a_g (jA 4 rfl (dP 10 (fun _=>?_) (fun _=>?_)))
  ·
   refine jA 5 rfl (xF ?_);exact jf ls
  refine jA 5 rfl (xF ?_);exact jf ls
 refine jY ?_;exact zB (rt rfl) lv
def cQ (c:Int):Option Bool:=
 xK (kI c 1 4) fun d=>
 some d
theorem pN {B:Nat→Prop} {d:Int} (r:Bool) (h:cQ d=some r)  (e:World) (hN:∀ c,B c→c<e.heap.size) (f:xH d):Calls Tryz.prog 143 #[xI d] e (Gt B e [] (.st (.bool r) fun D=>D)):=by
 unfold cQ at h
 revert r
 refine zI func143 [(0,xI d)] (Sep.start hN) fun r=>?_;refine xL (jA 1 rfl (xN (jA 1 rfl (jB fun i j=>(jk (fun H=>bN i j _ aA f (show xH (1) by decide) (show xH (4) by decide)) (jA 1 rfl (xP ?_)))))));exact zB (rt rfl) lv
def fS (c:Formula):Option Bool:=
 vC (σ:=Bool) (
  xK (cQ c.free) fun d=>
  if d then  xK (kI c.vars c.free 8) fun e=>
   if e then  some (.nx (decide ((c.atoms.length:Int)≤16))) else  some (.nx false) else  some (.nx false)) fun f=>
 some f
theorem tZ {B:Nat→Prop} {f:Formula} (r:Bool) (i:fS f=some r) {e:Value} (d:World) (hN:∀ c,B c→c<d.heap.size) (j:Bo B d (qG 3 xC) e f):Calls Tryz.prog 140 #[e] d (Gt B d [] (.st (.bool r) fun D=>D)):=by
 unfold fS at i
 revert r
 refine zI func140 [(0,e)] (Sep.start hN) fun r=>?_;refine xL ?_;obtain⟨F,rfl,h,p,t⟩:=xC.o j;refine jX e2 fun _=>jA 1 rfl (xV (zX (fun y=>.st [(2,.bool y)] []) ?_ (fun _=>?_)))
 ·
  refine a_g (xY e2 (jb 0 e3 (jB fun z A=>(jk (fun H=>pN z A _ aA h) (jA 1 rfl (dP 6 (fun _=>?_) (fun _=>?_)))))))
  ·
   refine xY e2 (jb 0 e3 (xY e2 (jb 0 e3 (jB fun C E=>(jk (fun H=>bN C E _ aA p h (show xH (8) by decide)) (jA 2 rfl (dP 13 (fun _=>?_) (fun _=>?_))))))))
   ·
    refine xY e2 (jb 0 e3 (jL t fun _=>jA 3 rfl (xF (js [] rfl ?_))));exact jf ls
   refine jA 6 rfl (xF (js [] rfl ?_));exact jf ls
  refine jA 13 rfl (xF (js [] rfl ?_));exact jf ls
 refine jY ?_;exact zB (rt rfl) lv
def eH (c d:Int):Option Bool:=
 xK (ck (c - 1)) fun e=>
 xK (kI d 0 e) fun f=>
 some f
theorem xGr {B:Nat→Prop} {d e:Int} (r:Bool) (j:eH d e=some r)  (f:World) (hN:∀ c,B c→c<f.heap.size) (y:xH d) (i:xH e):Calls Tryz.prog 116 #[xI d,xI e] f (Gt B f [] (.st (.bool r) fun D=>D)):=by
 unfold eH at j
 revert r
 refine zI func116 [(0,xI d),(1,xI e)] (Sep.start hN) fun r=>?_;refine xL (jA 1 rfl (xN (jA 2 rfl (jB fun z h=>(dA h (jB fun p t=>(jk (fun H=>bN p t _ aA i (show xH (0) by decide) (bD h)) (jA 1 rfl (xP ?_)))))))));exact zB (rt rfl) lv
def bK (c d:Int):Option Bool:=
 xK (eH d c) fun e=>
 some ((!e))
theorem yS {B:Nat→Prop} {d h:Int} (r:Bool) (j:bK d h=some r) {f:Value} (e:World) (hN:∀ c,B c→c<e.heap.size) (i:xH d) (p:Bo B e (Pt 1 xG) f h):Calls Tryz.prog 115 #[xI d,f] e (Gt B e [] (.st (.bool r) fun D=>D)):=by
 unfold bK at j
 revert r
 refine zI func115 [(0,xI d),(1,f)] (Sep.start hN) fun r=>?_;refine xL (jA 1 rfl (xN (iG p fun t=>jA 1 rfl (jB fun y z=>(jk (fun H=>xGr y z _ aA t i) (jA 2 rfl (xP ?_)))))));exact zB (rt rfl) lv
def qY (c:List Int) (d:Int→Option Bool):Option Int:=
 vC (σ:=Unit) (
  oM (σ:=Unit) (ρ:=Int) (fun (e:Nat) (f:Int) (s:Unit)=>
    match s with
    | _=>
    xK (d f) fun h=>
    if h then
     some (.ret ((e:Int)))
    else
     some (.go ())) c 0 ()) fun _=>
 some ((-1))
theorem lB {B:Nat→Prop} {j:List Int} {y:Int→Option Bool} (r:Int) (I:qY j y=some r) {h:Value} {d:FuncId} {f:List Value} (e:World) (hN:∀ c,B c→c<e.heap.size) (z:Bo B e (Sl 1 xG) h j) (E:∀ args w,(callFunc d args).run Tryz.prog w= .ok (.enter d args) w) (F:∀ (p:Int) (r:Bool),y p=some r→∀ W,Below e.heap.size e W→xH p→Calls Tryz.prog d ([xI p]++f:List Value).toArray W (Gt (All W) W [] (.st (.bool r) fun D=>D))):Calls Tryz.prog 169 #[h,.func (.func d) #[] f.toArray] e (Gt B e [] (.fa (xH r) <| .st (xI r) fun D=>D)):=by
 unfold qY at I
 revert r
 refine zI func169 [(0,h),(1,.func (.func d) #[] f.toArray)] (Sep.start hN) fun r=>?_;refine xL (jA 1 rfl (xO (jA 1 rfl (jL z fun A=>jA 1 rfl (xF (zX (fun _=>.st [] []) ?_ (fun _=>?_)))))))
 ·
  refine eD (jl (fun C _=>.st [(8,xI (C:Int)),(0,h),(1,.func (.func d) #[] f.toArray),(7,xI (j.length:Int))] []) ls (fun _ _ _ K=>?_) (fun C _ _ i L=>?_))
  ·
   have t:=qC K;refine xL (jA 1 rfl (xV (gR t (xS ?_))));exact jf ls
  have t:=xW i;refine xL (jA 1 rfl (xV (gN t (qD ?_))));have j1:=jZ (Nat.le_of_lt i) A;have M:=vK i A;refine kE (jA 2 rfl (xN (jA 3 rfl (jI z L fun _ N=>iG N fun G=>jB fun O P=>?_))));refine jkV E e2 (fun H=>F _ O P _ H.bl G) (xF (zC (fun _=>?_) (fun _=>?_)))
  ·
   refine xL (jA 2 rfl (vE (jrt (eX (jrj (a_R ?_))))));exact zB (rt rfl) ⟨j1,lv⟩
  refine vY (oQ M (jA 1 rfl (xF ?_)));exact jg ls
 refine qQ (jA 1 rfl (xP ?_));exact zB (rt rfl) ⟨(show xH (-1) by decide),lv⟩
def qA (c:List Int) (d:Int→Option Bool):Option Bool:=
 xK (qY c d) fun e=>
 some ((decide (0≤e)))
theorem iR {B:Nat→Prop} {p:List Int} {t:Int→Option Bool} (r:Bool) (A:qA p t=some r) {j:Value} {e:FuncId} {i:List Value} (d:World) (hN:∀ c,B c→c<d.heap.size) (C:Bo B d (Sl 1 xG) j p) (y:∀ args w,(callFunc e args).run Tryz.prog w= .ok (.enter e args) w) (z:∀ (f:Int) (r:Bool),t f=some r→∀ W,Below d.heap.size d W→xH f→Calls Tryz.prog e ([xI f]++i:List Value).toArray W (Gt (All W) W [] (.st (.bool r) fun D=>D))):Calls Tryz.prog 114 #[j,.func (.func e) #[] i.toArray] d (Gt B d [] (.st (.bool r) fun D=>D)):=by
 unfold qA at A
 revert r
 refine zI func114 [(0,j),(1,.func (.func e) #[] i.toArray)] (Sep.start hN) fun r=>?_;refine xL (jA 1 rfl (xN (jA 2 rfl (jB fun E F=>(jk (fun H=>lB E F _ aA (H.a C) y (fun f r h W G=>z f r h W (H.bl.trans (G.mono H.fr.size)))) fun I=>jA 2 rfl (xP ?_))))));exact zB (rt rfl) lv
def vS (d:Int) (c:List Int) (e:Int):Option Bool:=
 vC (σ:=Bool) (
  if ((c.length:Int)==e) then  xK (qA c (fun f=>bK f d)) fun h=>
   some (.nx (!h)) else  some (.nx false)) fun i=>
 some i
theorem fD {B:Nat→Prop} {d:Int} {j:List Int} {e:Int} (r:Bool) (y:vS d j e=some r) {i:Value} (f:World) (hN:∀ c,B c→c<f.heap.size) (t:xH d) (p:Bo B f (Sl 1 xG) i j) (F:xH e):Calls Tryz.prog 56 #[xI d,i,xI e] f (Gt B f [] (.st (.bool r) fun D=>D)):=by
 unfold vS at y
 revert r
 refine zI func56 [(0,xI d),(1,i),(2,xI e)] (Sep.start hN) fun r=>?_;refine xL (jX e2 fun _=>jA 1 rfl (xV (zX (fun z=>.st [(6,.bool z)] []) ?_ (fun _=>?_))))
 ·
  refine a_g (jA 1 rfl (jL p fun _=>jA 3 rfl (dP 11 (fun _=>?_) (fun _=>?_))))
  ·
   refine jA 1 rfl (sA e2 (jB fun A C=>(jk (fun H=>iR A C _ aA (H.a p) call115 (fun G r h W E f0=>yS r h W aA f0 ((c1I (H.g 0 rfl).bk t).w E))) (jA 3 rfl (xF (js [] rfl ?_))))));exact jf ls
  refine jA 6 rfl (xF (js [] rfl ?_));exact jf ls
 refine jY ?_;exact zB (rt rfl) lv
def jJ (c:Atom) (d e:Int):Option Bool:=
 xK (vS e c.args d) fun f=>
 some f
theorem wX {B:Nat→Prop} {i:Atom} {d e:Int} (r:Bool) (y:jJ i d e=some r) {h:Value} (f:World) (hN:∀ c,B c→c<f.heap.size) (z:Bo B f (qG 2 xM) h i) (j:xH d) (p:xH e):Calls Tryz.prog 144 #[h,xI d,xI e] f (Gt B f [] (.st (.bool r) fun D=>D)):=by
 unfold jJ at y
 revert r
 refine zI func144 [(0,h),(1,xI d),(2,xI e)] (Sep.start hN) fun r=>?_;refine xL ?_;obtain⟨E,rfl,F,A⟩:=xM.o z;refine jX e2 fun _=>jA 1 rfl (xN (jA 1 rfl (xY e2 (jb 0 e3 (jA 1 rfl (jB fun C t=>(jk (fun H=>fD C t _ aA p (H.a A) j) (jA 1 rfl (xP ?_)))))))));exact zB (rt rfl) lv
def iE (c:Atom) (e:Formula):Option Bool:=
 vC (σ:=Bool) (
  xK (kI c.rel (-1) 5) fun d=>
  if (!d) then  some (.nx true) else  xK (cQ (c.args.length:Int)) fun f=>
   if (!f) then  some (.nx true) else  xK (jJ (Atom.mk c.rel c.args) (c.args.length:Int) e.vars) fun h=>
    some (.nx (!h))) fun i=>
 some i
theorem yO {B:Nat→Prop} {i:Atom} {j:Formula} (r:Bool) (y:iE i j=some r) {e:Value} {f:Value} (d:World) (hN:∀ c,B c→c<d.heap.size) (z:Bo B d (qG 2 xM) e i) (A:Bo B d (Pt 3 xC) f j):Calls Tryz.prog 142 #[e,f] d (Gt B d [] (.st (.bool r) fun D=>D)):=by
 unfold iE at y
 revert r
 refine zI func142 [(0,e),(1,f)] (Sep.start hN) fun r=>?_;refine xL ?_;obtain⟨P,rfl,p,h⟩:=xM.o z;refine jX e2 fun _=>jA 1 rfl (xV (zX (fun C=>.st [(3,.bool C)] []) ?_ (fun _=>?_)))
 ·
  refine a_g (xY e2 (jb 0 e3 (jB fun t E=>(jk (fun H=>bN t E _ aA p (show xH (-1) by decide) (show xH (5) by decide)) (jA 2 rfl (dP 8 (fun _=>?_) (fun _=>?_)))))))
  ·
   refine jA 17 rfl (xF (js [] rfl ?_));exact jf ls
  refine xY e2 (jb 0 e3 (jL h fun F=>jB fun G I=>(jk (fun H=>pN G I _ aA F) (jA 3 rfl (dP 15 (fun _=>?_) (fun _=>?_))))))
  ·
   refine jA 10 rfl (xF (js [] rfl ?_));exact jf ls
  refine zY 0 e3 (xY e2 (jb 0 e3 (jL h fun K=>dH A xC.f1 fun _ L=>iG L fun M=>jB fun N O=>?_)));refine jk (fun H=>wX N O _ aA (xM.m p (H.a h)) K M) (jA 3 rfl (xF (js [] rfl ?_)));exact jf ls
 refine jY ?_;exact zB (rt rfl) lv
def zS (c:List Atom) (d:Atom→Option Bool):Option Int:=
 vC (σ:=Unit) (
  oM (σ:=Unit) (ρ:=Int) (fun (e:Nat) (f:Atom) (s:Unit)=>
    match s with
    | _=>
    xK (d f) fun h=>
    if h then
     some (.ret ((e:Int)))
    else
     some (.go ())) c 0 ()) fun _=>
 some ((-1))
theorem lZ {B:Nat→Prop} {j:List Atom} {t:Atom→Option Bool} (r:Int) (K:zS j t=some r) {h:Value} {d:FuncId} {f:List Value} (e:World) (hN:∀ c,B c→c<e.heap.size) (y:Bo B e (Sl 2 xM) h j) (F:∀ args w,(callFunc d args).run Tryz.prog w= .ok (.enter d args) w) (G:∀ (z:Atom) (r:Bool),t z=some r→∀ W,Below e.heap.size e W→∀ (A:Value),Bo (All W) W (qG 2 xM) A z→Calls Tryz.prog d ([A]++f:List Value).toArray W (Gt (All W) W [] (.st (.bool r) fun D=>D))):Calls Tryz.prog 187 #[h,.func (.func d) #[] f.toArray] e (Gt B e [] (.fa (xH r) <| .st (xI r) fun D=>D)):=by
 unfold zS at K
 revert r
 refine zI func187 [(0,h),(1,.func (.func d) #[] f.toArray)] (Sep.start hN) fun r=>?_;refine xL (jA 1 rfl (xO (jA 1 rfl (jL y fun C=>jA 1 rfl (xF (zX (fun _=>.st [] []) ?_ (fun _=>?_)))))))
 ·
  refine eD (jl (fun E _=>.st [(8,xI (E:Int)),(0,h),(1,.func (.func d) #[] f.toArray),(7,xI (j.length:Int))] []) ls (fun _ _ _ L=>?_) (fun E _ _ i M=>?_))
  ·
   have p:=qC L;refine xL (jA 1 rfl (xV (gR p (xS ?_))));exact jf ls
  have p:=xW i;refine xL (jA 1 rfl (xV (gN p (qD ?_))));have j1:=jZ (Nat.le_of_lt i) C;have N:=vK i C;refine kE (jA 2 rfl (xN (jA 3 rfl (jI y M fun _ I=>jlA I fun _ O=>jB fun P Q=>?_))));refine jkV F e2 (fun H=>G _ P Q _ H.bl _ (H.a O)) (xF (zC (fun _=>?_) (fun _=>?_)))
  ·
   refine xL (jA 2 rfl (vE (jrt (eX (jrj (a_R ?_))))));exact zB (rt rfl) ⟨j1,lv⟩
  refine vY (oQ N (jA 1 rfl (xF ?_)));exact jg ls
 refine qQ (jA 1 rfl (xP ?_));exact zB (rt rfl) ⟨(show xH (-1) by decide),lv⟩
def xX (c:List Atom) (d:Atom→Option Bool):Option Bool:=
 xK (zS c d) fun e=>
 some ((decide (0≤e)))
theorem aJ {B:Nat→Prop} {p:List Atom} {t:Atom→Option Bool} (r:Bool) (C:xX p t=some r) {j:Value} {e:FuncId} {i:List Value} (d:World) (hN:∀ c,B c→c<d.heap.size) (E:Bo B d (Sl 2 xM) j p) (z:∀ args w,(callFunc e args).run Tryz.prog w= .ok (.enter e args) w) (A:∀ (f:Atom) (r:Bool),t f=some r→∀ W,Below d.heap.size d W→∀ (y:Value),Bo (All W) W (qG 2 xM) y f→Calls Tryz.prog e ([y]++i:List Value).toArray W (Gt (All W) W [] (.st (.bool r) fun D=>D))):Calls Tryz.prog 141 #[j,.func (.func e) #[] i.toArray] d (Gt B d [] (.st (.bool r) fun D=>D)):=by
 unfold xX at C
 revert r
 refine zI func141 [(0,j),(1,.func (.func e) #[] i.toArray)] (Sep.start hN) fun r=>?_;refine xL (jA 1 rfl (xN (jA 2 rfl (jB fun F G=>(jk (fun H=>lZ F G _ aA (H.a E) z (fun f r h W I=>A f r h W (H.bl.trans (I.mono H.fr.size)))) fun K=>jA 2 rfl (xP ?_))))));exact zB (rt rfl) lv
def gV (c:Formula):Option Bool:=
 vC (σ:=Bool) (
  xK (fS (Formula.mk c.free c.vars c.atoms)) fun d=>
  if d then  xK (xX c.atoms (fun e=>iE e (Formula.mk c.free c.vars c.atoms))) fun f=>
   some (.nx (!f)) else  some (.nx false)) fun h=>
 some h
theorem xBr {B:Nat→Prop} {i:Formula} (r:Bool) (t:gV i=some r) {e:Value} (d:World) (hN:∀ c,B c→c<d.heap.size) (y:Bo B d (qG 3 xC) e i):Calls Tryz.prog 76 #[e] d (Gt B d [] (.st (.bool r) fun D=>D)):=by
 unfold gV at t
 revert r
 refine zI func76 [(0,e)] (Sep.start hN) fun r=>?_;refine xL ?_;obtain⟨I,rfl,j,p,f⟩:=xC.o y;refine jX e2 fun _=>jA 1 rfl (xV (zX (fun z=>.st [(2,.bool z)] []) ?_ (fun _=>?_)))
 ·
  refine a_g (zY 0 e3 (jB fun A C=>?_));refine jk (fun H=>tZ A C _ aA (xC.m j p (H.a f))) (jA 1 rfl (dP 5 (fun _=>?_) (fun _=>?_)))
  ·
   refine xY e2 (jb 0 e3 (sA e2 (jB fun E F=>(jk (fun H=>aJ E F _ aA (H.a f) call142 (fun K r h W G L f0=>yO r h W aA f0 ((xC.b (H.g 0 rfl).bk j p (H.a f)).w G))) (jA 3 rfl (xF (js [] rfl ?_)))))));exact jf ls
  refine jA 7 rfl (xF (js [] rfl ?_));exact jf ls
 refine jY ?_;exact zB (rt rfl) lv
def gW (c:Int):Option ByteArray:=
 xK (cB c 10) fun d=>
 some d
theorem pI {B:Nat→Prop} {d:Int} (r:ByteArray) (h:gW d=some r)  (e:World) (hN:∀ c,B c→c<e.heap.size) (hG:Glo e) (f:xH d):Calls Tryz.prog 77 #[xI d] e (Gt B e [] (.fa (r.size≤maxLen) <| .st (.string r) fun D=>D)):=by
 unfold gW at h
 revert r
 refine zI func77 [(0,xI d)] (Sep.start hN) fun r=>?_;refine xL (jA 1 rfl (xN (jA 1 rfl (jB fun i j=>(jk (fun H=>wH i j _ aA (hG.go H.bl) f (show xH (10) by decide)) fun p=>jA 1 rfl (xP ?_))))));exact j1 (rt rfl) ⟨p,lv⟩
def jM (c:List Int):Option ByteArray:=
 vC (σ:=ByteArray) (
  oM (σ:=ByteArray) (ρ:=ByteArray) (fun (j:Nat) (d:Int) (e:ByteArray)=>
   xK (gW d) fun f=>
   xK (sK e f) fun h=>
   some (.go h)) c 0 (oE [])) fun i=>
 some i
theorem xHd {B:Nat→Prop} {h:List Int} (r:ByteArray) (E:jM h=some r) {e:Value} (d:World) (hN:∀ c,B c→c<d.heap.size) (hG:Glo d) (p:Bo B d (Sl 1 xG) e h):Calls Tryz.prog 78 #[e] d (Gt B d [] (.fa (r.size≤maxLen) <| .st (.string r) fun D=>D)):=by
 unfold jM at E
 revert r
 refine zI func78 [(0,e)] (Sep.start hN) fun r=>?_;refine xL (jA 1 rfl (xN (jA 1 rfl (xO (jA 1 rfl (jL p fun t=>jA 1 rfl (xF (zX (fun y=>.fa (y.size≤maxLen) <| .st [(3,.string y)] []) ?_ (fun _ C=>?_)))))))))
 ·
  refine eD ?_;refine jl (fun z i=>.fa (i.size≤maxLen) <| .st [(8,xI (z:Int)),(3,.string i),(6,e),(7,xI (h.length:Int))] []) ⟨(by decide),ls⟩ (fun _ i _ F G=>?_) (fun z _ _ f I _=>?_)
  ·
   have j:=qC F;refine xL (jA 1 rfl (xV (gR j (xS ?_))));exact jf ⟨G,ls⟩
  have j:=xW f;refine xL (jA 1 rfl (xV (gN j (qD ?_))));have j2:=jZ (Nat.le_of_lt f) t;have K:=vK f t;refine kE (jI p I fun _ L=>iG L fun M=>jA 1 rfl (tH (jA 2 rfl (jB fun N O=>(jk (fun H=>pI N O _ aA (hG.go H.bl) M) fun _=>jB fun P A=>(xCf A (jA 1 rfl ?_)))))));refine zQ (oQ K (jA 1 rfl (xF ?_)));exact jg ⟨(xEe A),ls⟩
 refine qQ (jA 2 rfl (xP ?_));exact j1 (rt rfl) ⟨C,lv⟩
def bE (c:Formula):Option ByteArray:=
 xK (gV (Formula.mk c.free c.vars c.atoms)) fun e=>
 if (!e) then
  some ((oE []))
 else
  xK (gW c.free) fun f=>
  xK (gW c.vars) fun h=>
  vC (σ:=(List ByteArray)) (
   oM (σ:=(List ByteArray)) (ρ:=ByteArray) (fun (E:Nat) (d:Atom) (i:(List ByteArray))=>
    vC (σ:=ByteArray) (
     if (d.rel != (-1)) then
      xK (gW d.rel) fun j=>
      xK (sK (oE [82]) j) fun p=>
      some (.nx p)
     else
      some (.nx (oE [61]))) fun t=>
    xK (sK t (oE [58])) fun y=>
    xK (jM d.args) fun z=>
    xK (sK y z) fun A=>
    xK (ap i ([A])) fun B=>
    some (.go B)) c.atoms 0 [(oE [102,111,114,109,117,108,97]),f,h]) fun C=>
  xK (fQ C (oE [32])) fun D=>
  some D
theorem rI {B:Nat→Prop} {h:Formula} (r:ByteArray) (U:bE h=some r) {p:Value} (f:World) (hN:∀ c,B c→c<f.heap.size) (hG:Glo f) (V:Bo B f (qG 3 xC) p h):Calls Tryz.prog 35 #[p] f (Gt B f [] (.fa (r.size≤maxLen) <| .st (.string r) fun D=>D)):=by
 unfold bE at U
 revert r
 refine zI func35 [(0,p)] (Sep.start hN) fun r=>?_;refine xL ?_;obtain⟨A,rfl,C,E,t⟩:=xC.o V;refine jX e2 fun _=>jA 1 rfl (xO (zY 0 e3 (jB fun Q W=>?_)));refine jk (fun H=>xBr Q W _ aA (xC.m C E (H.a t))) (jA 1 rfl (xF (zC (fun _=>?_) (fun _=>?_))))
 ·
  refine xL (jA 1 rfl (xT (js [] rfl ?_)));exact j1 (rt rfl) ⟨(by decide),lv⟩
 refine qD (jB fun F X=>(jB fun G Y=>(lA fun w1 X1 N1 R Z S d _=>?_)));have K1:=Z.bk;refine jD (fZ 0 rfl e2 (jvb 1 rfl K1 e2 (fZ 3 rfl e2 (jvb 4 rfl K1 e2 (jE 2 rfl (jk (fun H=>pI F X _ aA (hG.go (d.1 H (Ns.all trivial)).bl) C) fun i3=>kK (jE 5 rfl (jk (fun H=>pI G Y _ aA (hG.go (d.1 H (Ns.all trivial)).bl) E) fun i4=>kK ?_))))))));refine jE 6 rfl ?_;refine jRE Value.string _ xZd (fun _=>rfl) [(oE [102,111,114,109,117,108,97]),F,G] (by simp only[List.forall_mem_cons,List.not_mem_nil,false_implies,implies_true,and_true];exact⟨(by decide),i3,i4⟩) fun v2=>kK (jvA [7] rfl (jbe (sQ (xY e2 (jbK K1 e2 (jL t fun I=>jA 1 rfl (xF (zX (fun s1=>.v fun K=>.st [(3,K)] [rl 1 rV 9 K s1]) ?_ (fun _ _=>?_)))))))))
 ·
  refine eD ?_;refine jl (fun y i=>.v fun e=>.st [(20,xI (y:Int)),(3,e),(18,A),(19,xI (h.atoms.length:Int))] [rl 1 rV 9 e i]) ⟨_,ls⟩ (fun _ i _ q1 e=>?_) (fun y x1 i j y1 e=>?_)
  ·
   have z:=qC q1;refine xL (jA 1 rfl (xV (gR z (xS ?_))));exact jf ⟨_,ls⟩
  have z:=xW j;refine xL (jA 1 rfl (xV (gN z (qD ?_))));have j2:=jZ (Nat.le_of_lt j) I;have m1:=vK j I;refine kE (jI t y1 fun _ h2=>jlA (s:=fun H=>(R.trans (Sm.mono H.sm d.2.2))) h2 fun _ h3=>dG rfl (fun L=>?_));obtain⟨v5,rfl,i6,M⟩:=xM.o (S h3);refine bC (hv:=(fun H=>oc rfl (oc (H.a M).one on))) e3 (xN (jA 1 rfl (xO (xY e2 (jb 0 e3 (jA 1 rfl (xF ?_)))))));refine zX (fun N=>.fa (N.size≤maxLen) <| .st [(3,e),(5,xU L),(6,.string N),(18,A),(19,xI (h.atoms.length:Int)),(20,xI (y:Int))] [bx L [xI x1.rel,v5] 120,rl 1 rV 9 e i]) ?_ (fun _ _=>?_)
  ·
   refine zC (fun _=>?_) (fun _=>?_)
   ·
    refine a_g (xY e2 (jb 0 e3 (jB fun z3 c4=>?_)));refine jk (fun H=>pI z3 c4 _ aA (hG.go (d.1 H (Ns.all ⟨n0,⟨n0,trivial⟩⟩)).bl) i6) fun _=>jB fun z4 O=>(xCf O (jA 1 rfl (xF ?_)));exact jf ⟨(xEe O),ls⟩
   refine xXd ?_;exact jf ⟨(by decide),ls⟩
  refine xQp (jA 2 rfl (jB fun z5 c6=>(xCf c6 (xY e2 (jb 0 e3 (jB fun z6 c7=>?_))))));refine jk (fun H=>xHd z6 c7 _ aA (hG.go (d.1 H (Ns.all ⟨n0,⟨n0,trivial⟩⟩)).bl) (H.a M)) fun _=>jB fun z7 P=>(xCf P (sL (fun H=>Eo.str (xEe P)) fun _=>jB fun z8 c9=>(js [2,0,1] rfl (jPL c9 fun v6=>jA 1 rfl (zQ (oQ m1 (jA 1 rfl ?_)))))));refine xF (js [0] rfl ?_);exact jg ⟨_,ls⟩
 refine qQ (jA 1 rfl (jB fun z9 T=>(jk (fun H=>xFx z9 T _ aA (H.l 0 rfl) (by decide)) fun i7=>jA 1 rfl (xP (dL d (js [] rfl ?_))))));exact j1 (rt rfl) ⟨i7,lv⟩
def aB (d:Gadgets):Option ByteArray:=
 if (decide (6<(d.formulas.length:Int))) then
  some ((oE []))
 else
  vC (σ:=ByteArray) (
   oM (σ:=ByteArray) (ρ:=ByteArray) (fun (p:Nat) (c:Formula) (f:ByteArray)=>
    xK (bE (Formula.mk c.free c.vars c.atoms)) fun e=>
    if (sEq e (oE [])) then
     some (.ret ((oE [])))
    else
     xK (sK e (oE [10])) fun h=>
     xK (sK f h) fun i=>
     some (.go i)) d.formulas 0 (oE [])) fun j=>
  some j
theorem pZ {B:Nat→Prop} {f:Gadgets} (r:ByteArray) (E:aB f=some r) {h:Value} (d:World) (hN:∀ c,B c→c<d.heap.size) (hG:Glo d) (F:Bo B d (qG 1 xJ) h f):Calls Tryz.prog 8 #[h] d (Gt B d [] (.fa (r.size≤maxLen) <| .st (.string r) fun D=>D)):=by
 unfold aB at E
 revert r
 refine zI func8 [(0,h)] (Sep.start hN) fun r=>?_;refine xL ?_;obtain⟨G,rfl,i⟩:=xJ.o F;refine jX e2 fun _=>jA 1 rfl (xO (xY e2 (jb 0 e3 (jL i fun _=>jA 1 rfl (xF (zC (fun _=>?_) (fun _=>?_)))))))
 ·
  refine xL (jA 1 rfl (xT (js [] rfl ?_)));exact j1 (rt rfl) ⟨(by decide),lv⟩
 refine oY (jA 1 rfl (xO (xY e2 (jb 0 e3 (jL i fun t=>jA 1 rfl (xF (zX (fun y=>.fa (y.size≤maxLen) <| .st [(3,.string y)] []) ?_ (fun _ I=>?_))))))))
 ·
  refine eD (js [] rfl ?_);refine jl (fun z j=>.fa (j.size≤maxLen) <| .st [(14,xI (z:Int)),(3,.string j),(12,G),(13,xI (f.formulas.length:Int))] []) ⟨(by decide),ls⟩ (fun _ j _ K L=>?_) (fun z V _ e M _=>?_)
  ·
   have p:=qC K;refine xL (jA 1 rfl (xV (gR p (xS ?_))));exact jf ⟨L,ls⟩
  have p:=xW e;refine xL (jA 1 rfl (xV (gN p (qD ?_))));have j2:=jZ (Nat.le_of_lt e) t;have N:=vK e t;refine kE (jI i M fun _ O=>jlA O fun _ P=>dG rfl (fun _=>?_));obtain⟨W,rfl,Q,R,A⟩:=xC.o P;refine bC (hv:=(fun H=>oc rfl (oc rfl (oc (H.a A).one on)))) e3 (xN (zY 0 e3 (jB fun S T=>?_)));refine jk (fun H=>rI S T _ aA (hG.go H.bl) (xC.m Q R (H.a A))) fun _=>jA 1 rfl (xO (jA 2 rfl (xF (zC (fun _=>?_) (fun _=>?_)))))
  ·
   refine xL (jA 1 rfl (pF (jrt (eX (jrj (a_R (js [] rfl ?_)))))));exact j1 (rt rfl) ⟨(by decide),lv⟩
  refine xLu (jA 2 rfl (jB fun X U=>(xCf U (jB fun Y C=>(xCf C (jA 1 rfl (zQ (oQ N (jA 1 rfl (xF ?_))))))))));refine js [] rfl ?_;exact jg ⟨(xEe C),ls⟩
 refine qQ (jA 2 rfl (xP ?_));exact j1 (rt rfl) ⟨I,lv⟩
def kN (c d:ByteArray):Option Bool:=
 vC (σ:=Bool) (
  if (decide ((d.size:Int)≤(c.size:Int))) then  xK (ck ((c.size:Int) - (d.size:Int))) fun e=>
   xK (ssl c e (c.size:Int)) fun f=>
   some (.nx (sEq f d)) else  some (.nx false)) fun h=>
 some h
theorem lI {B:Nat→Prop} {d e:ByteArray} (r:Bool) (h:kN d e=some r)  (f:World) (hN:∀ c,B c→c<f.heap.size) (t:d.size≤maxLen) (y:e.size≤maxLen):Calls Tryz.prog 135 #[.string d,.string e] f (Gt B f [] (.st (.bool r) fun D=>D)):=by
 unfold kN at h
 revert r
 refine zI func135 [(0,.string d),(1,.string e)] (Sep.start hN) fun r=>?_;refine xL (jA 1 rfl (xV (zX (fun i=>.st [(4,.bool i)] []) ?_ (fun _=>?_))))
 ·
  refine a_g (jA 1 rfl (fW rfl (jA 1 rfl (fW rfl (jA 2 rfl (dP 10 (fun _=>?_) (fun _=>?_)))))))
  ·
   refine jA 2 rfl (fW rfl (jA 1 rfl (fW rfl (jB fun z j=>(dA j (jB fun A p=>(xSv p (jA 4 rfl (xF ?_)))))))));exact jf ls
  refine jA 11 rfl (xF ?_);exact jf ls
 refine jY ?_;exact zB (rt rfl) lv
def kF (c d:ByteArray):Option ByteArray:=
 xK (kN c d) fun f=>
 if f then
  xK (ck ((c.size:Int) - (d.size:Int))) fun h=>
  xK (ssl c 0 h) fun e=>
  some e
 else
  some c
theorem jU {B:Nat→Prop} {d e:ByteArray} (r:ByteArray) (p:kF d e=some r)  (h:World) (hN:∀ c,B c→c<h.heap.size) (f:d.size≤maxLen) (j:e.size≤maxLen):Calls Tryz.prog 73 #[.string d,.string e] h (Gt B h [] (.fa (r.size≤maxLen) <| .st (.string r) fun D=>D)):=by
 unfold kF at p
 revert r
 refine zI func73 [(0,.string d),(1,.string e)] (Sep.start hN) fun r=>?_;refine xL (jA 1 rfl (xO (jA 2 rfl (jB fun t y=>(jk (fun H=>lI t y _ aA f j) (xF (zC (fun _=>?_) (fun _=>?_))))))))
 ·
  refine xL (jA 2 rfl (fW rfl (jA 1 rfl (fW rfl (jB fun C z=>(dA z (jB fun A i=>(xTt i (jA 1 rfl (xT ?_))))))))));exact j1 (rt rfl) ⟨(xSe i f),lv⟩
 refine oY (jA 2 rfl (xP ?_));exact j1 (rt rfl) ⟨f,lv⟩
def dK (c d:ByteArray):Option ByteArray:=
 xK (kF c d) fun e=>
 some e
theorem uI {B:Nat→Prop} {d e:ByteArray} (r:ByteArray) (j:dK d e=some r)  (f:World) (hN:∀ c,B c→c<f.heap.size) (h:d.size≤maxLen) (i:e.size≤maxLen):Calls Tryz.prog 33 #[.string d,.string e] f (Gt B f [] (.fa (r.size≤maxLen) <| .st (.string r) fun D=>D)):=by
 unfold dK at j
 revert r
 refine zI func33 [(0,.string d),(1,.string e)] (Sep.start hN) fun r=>?_;refine xL (jA 1 rfl (xN (jA 2 rfl (jB fun p t=>(jk (fun H=>jU p t _ aA h i) fun y=>jA 1 rfl (xP ?_))))));exact j1 (rt rfl) ⟨y,lv⟩
def zE (d:ByteArray):Option Int:=
 xK (bH d 10 64) fun c=>
 vC (σ:=Bool) (
  if (!c.2) then  some (.nx true) else  if (decide (c.1<0)) then  some (.nx true) else  xK (gW c.1) fun e=>
    some (.nx (!sEq e d))) fun f=>
 if f then
  some ((-2))
 else
  some c.1
theorem eG {B:Nat→Prop} {d:ByteArray} (r:Int) (j:zE d=some r)  (e:World) (hN:∀ c,B c→c<e.heap.size) (hG:GloE e) (i:d.size≤maxLen):Calls Tryz.prog 74 #[.string d] e (Gt B e [] (.fa (xH r) <| .st (xI r) fun D=>D)):=by
 unfold zE at j
 revert r
 refine zI func74 [(0,.string d)] (Sep.start hN) fun r=>?_;refine xL (jA 1 rfl (xN (jA 1 rfl (jB fun f p=>(jk (fun H=>yN f p _ aA (hG.go H.bl) i (show xH (10) by decide) (show xH (64) by decide)) fun _ h hE15=>jA 5 rfl (bS (zX (fun t=>.st [(3,xI f.1),(21,.bool t)] []) ?_ (fun _=>?_))))))))
 ·
  refine a_g (jA 1 rfl (xWn hE15 (jA 1 rfl (dP 12 (fun _=>?_) (fun _=>?_)))))
  ·
   refine jA 9 rfl (xF ?_);exact jf ls
  refine jA 4 rfl (dP 16 (fun _=>?_) (fun _=>?_))
  ·
   refine jA 5 rfl (xF ?_);exact jf ls
  refine jA 1 rfl (jB fun y z=>(jk (fun H=>pI y z _ aA (hG.go H.bl).toGlo h) fun _=>jA 3 rfl (xF ?_)));exact jf ls
 refine dI (zC (fun _=>?_) (fun _=>?_))
 ·
  refine xL (jA 1 rfl (xT ?_));exact zB (rt rfl) ⟨(show xH (-2) by decide),lv⟩
 refine oY (jA 2 rfl (xP ?_));exact zB (rt rfl) ⟨h,lv⟩
def gB (d:ByteArray):Option (List Int):=
 vC (σ:=(List Int)) (
  oM (σ:=(List Int)) (ρ:=(List Int)) (fun (j:Nat) (c:UInt8) (e:(List Int))=>
   vC (σ:=Bool) (
    if (decide ((c.toNat:Int)<((48:UInt8).toNat:Int))) then  some (.nx true) else  some (.nx (decide (((57:UInt8).toNat:Int)<(c.toNat:Int))))) fun f=>
   if f then
    some (.ret ([]))
   else
    xK (ap e ([((u8w ((c.toNat:Int) - ((48:UInt8).toNat:Int))).toNat:Int)])) fun h=>
    some (.go h)) d.data.toList 0 []) fun i=>
 some i
theorem xAm {B:Nat→Prop} {d:ByteArray} (r:(List Int)) (G:gB d=some r)  (i:World) (hN:∀ c,B c→c<i.heap.size) (F:d.size≤maxLen):Calls Tryz.prog 138 #[.string d] i (Gt B i [] (.v fun A=>.st (A) fun D=>rl 1 xG 2 A r::D)):=by
 unfold gB at G
 revert r
 refine zI func138 [(0,.string d)] (Sep.start hN) fun r=>?_;refine xL (jA 1 rfl (xN (jR0 xG fun U=>jA 1 rfl (xO (jA 1 rfl (jSB F fun p=>jLc (fun H=>H.ro 0 rfl) fun E=>jA 1 rfl (xF ?_)))))));refine zX (fun I=>.v fun t=>.st [(3,t)] [rl 1 xG 2 t I]) ?_ (fun _ t=>?_)
 ·
  refine eD ?_;refine jl (fun y f=>.v fun e=>.st [(10,xI (y:Int)),(3,e),(8,p),(9,xI (d.data.toList.length:Int))] [ro N0 (V:=(Sl 1 aW)) p d.data.toList,rl 1 xG 2 e f]) ⟨_,ls⟩ (fun _ f _ K e=>?_) (fun y L f h M e=>?_)
  ·
   have z:=qC K;refine xL (jA 1 rfl (xV (gR z (xS (js [1] rfl ?_)))));exact jf ⟨_,ls⟩
  have z:=xW h;refine xL (jA 1 rfl (xV (gN z (qD ?_))));have j2:=jZ (Nat.le_of_lt h) E;have N:=vK h E;refine kE (lA fun W T X _ O _ C _=>?_);have P:=O.rod;refine jI P M fun _ Q=>jlU Q (jA 1 rfl (bS (zX (fun R=>.st [(3,e),(5,.int .u8 (L).toNat),(8,p),(9,xI (d.data.toList.length:Int)),(10,xI (y:Int)),(19,.bool R)] [rl 1 xG 2 e f]) ?_ (fun _=>?_))))
  ·
   refine a_g (jA 1 rfl (xYf (j:=(48:UInt8)) e2 (jA 1 rfl (dP 16 (fun _=>?_) (fun _=>?_)))))
   ·
    refine jA 3 rfl (xF ?_);exact jf ls
   refine jA 1 rfl (xYq (j:=(57:UInt8)) e2 (jA 1 rfl (xF ?_)));exact jf ls
  refine dI (zC (fun _=>?_) (fun _=>?_))
  ·
   refine xL (jA 1 rfl (pF (jrt (eX (jrj (a_R (dL C (jh (fun H=>H.nl 1 xG 2) (js [0] rfl ?_)))))))));exact j1 (rt rfl) ⟨_,lv⟩
  refine xLu (jA 2 rfl (xZl (j:=(48:UInt8)) e2 (xWl rfl (sL (fun H=>Eo.int (xNa _)) fun _=>jB fun Y S=>(js [1,0] rfl (jPL S fun Z=>jA 1 rfl (zQ (oQ N ?_))))))));refine jA 1 rfl (xF (dL C ?_));exact jg ⟨_,ls⟩
 refine qQ (jA 2 rfl (xP ?_));exact j1 (rt rfl) ⟨_,lv⟩
def zH (d c:ByteArray):Option Bool:=
 vC (σ:=Bool) (
  if (decide ((c.size:Int)≤(d.size:Int))) then  xK (ssl d 0 (c.size:Int)) fun e=>
   some (.nx (sEq e c)) else  some (.nx false)) fun f=>
 some f
theorem lU {B:Nat→Prop} {d e:ByteArray} (r:Bool) (h:zH d e=some r)  (f:World) (hN:∀ c,B c→c<f.heap.size) (p:d.size≤maxLen) (t:e.size≤maxLen):Calls Tryz.prog 207 #[.string d,.string e] f (Gt B f [] (.st (.bool r) fun D=>D)):=by
 unfold zH at h
 revert r
 refine zI func207 [(0,.string d),(1,.string e)] (Sep.start hN) fun r=>?_;refine xL (jA 1 rfl (xV (zX (fun i=>.st [(4,.bool i)] []) ?_ (fun _=>?_))))
 ·
  refine a_g (jA 1 rfl (fW rfl (jA 1 rfl (fW rfl (jA 2 rfl (dP 10 (fun _=>?_) (fun _=>?_)))))))
  ·
   refine jA 2 rfl (fW rfl (jB fun y j=>(xTt j (jA 4 rfl (xF ?_)))));exact jf ls
  refine jA 8 rfl (xF ?_);exact jf ls
 refine jY ?_;exact zB (rt rfl) lv
def kM (c d:ByteArray):Option (ByteArray×Bool):=
 xK (zH c d) fun e=>
 if (!e) then
  some (c,false)
 else
  xK (ssl c (d.size:Int) (c.size:Int)) fun f=>
  some (f,true)
theorem lN {B:Nat→Prop} {d e:ByteArray} (r:ByteArray×Bool) (p:kM d e=some r)  (h:World) (hN:∀ c,B c→c<h.heap.size) (f:d.size≤maxLen) (j:e.size≤maxLen):Calls Tryz.prog 186 #[.string d,.string e] h (Gt B h [] (.fa (r.1.size≤maxLen) <| .st (.tuple #[.string r.1,.bool r.2]) fun D=>D)):=by
 unfold kM at p
 revert r
 refine zI func186 [(0,.string d),(1,.string e)] (Sep.start hN) fun r=>?_;refine xL (jA 2 rfl (xO (jA 2 rfl (jB fun t y=>(jk (fun H=>lU t y _ aA f j) (jA 1 rfl (xF (zC (fun _=>?_) (fun _=>?_)))))))))
 ·
  refine xL (jA 3 rfl (xT ?_));exact j2 (rt rfl) (rt rfl) ⟨f,lv⟩
 refine oY (jA 2 rfl (fW rfl (jB fun z i=>(xSv i (jA 2 rfl (xP ?_))))));exact j2 (rt rfl) (rt rfl) ⟨(xSe i f),lv⟩
def eC (d e:ByteArray):Option (ByteArray×Bool):=
 xK (kM d e) fun c=>
 some (c.1,c.2)
theorem wI {B:Nat→Prop} {d e:ByteArray} (r:ByteArray×Bool) (j:eC d e=some r)  (f:World) (hN:∀ c,B c→c<f.heap.size) (h:d.size≤maxLen) (i:e.size≤maxLen):Calls Tryz.prog 139 #[.string d,.string e] f (Gt B f [] (.fa (r.1.size≤maxLen) <| .st (.tuple #[.string r.1,.bool r.2]) fun D=>D)):=by
 unfold eC at j
 revert r
 refine zI func139 [(0,.string d),(1,.string e)] (Sep.start hN) fun r=>?_;refine xL (jA 2 rfl (xN (jA 2 rfl (jB fun p t=>(jk (fun H=>lN p t _ aA h i) fun y=>jA 4 rfl (xP ?_))))));exact j2 (rt rfl) (rt rfl) ⟨y,lv⟩
def aO (f:ByteArray):Option Atom:=
 xK (jO f (oE [58])) fun c=>
 xK (gB c.2.1) fun d=>
 xK (eC c.1 (oE [82])) fun e=>
 if e.2 then
  xK (zE e.1) fun h=>
  some ((Atom.mk h d))
 else
  some ((Atom.mk (-1) d))
theorem tI {B:Nat→Prop} {d:ByteArray} (r:Atom) (j:aO d=some r)  (e:World) (hN:∀ c,B c→c<e.heap.size) (hG:GloE e) (h:d.size≤maxLen):Calls Tryz.prog 75 #[.string d] e (Gt B e [] (.v fun f=>.fa (xH r.rel) <| .st (.agg #[xI r.rel,f]) fun D=>rl 1 xG 2 f r.args::D)):=by
 unfold aO at j
 revert r
 refine zI func75 [(0,.string d)] (Sep.start hN) fun r=>?_;refine xL (dG rfl fun _=>xN (jA 1 rfl (jB fun p t=>(jk (fun H=>xHf p t _ aA (hG.go H.bl).toGlo h (by decide)) fun y z=>jA 7 rfl (xN (jA 1 rfl (jB fun A C=>(jk (fun H=>xAm A C _ aA z) (fun L=>?_)))))))));refine qT (hone:=(fun H=>oc rfl (oc (H.l 0 rfl).one on))) e5 (dG rfl (fun _=>?_));refine bC (hv:=(fun H=>oc rfl (oc (H.l 1 rfl).one on))) e3 (xO (jA 1 rfl (jB fun E F=>(jk (fun H=>wI E F _ aA y (by decide)) fun G=>jA 5 rfl (xN (jA 1 rfl (xF (zC (fun _=>?_) (fun _=>?_)))))))))
 ·
  refine a_g (jA 1 rfl (jB fun I K=>(jk (fun H=>eG I K _ aA (hG.go H.bl) G) fun i=>xY e2 (jW e3 (xN (zY 0 e3 (js [2,0,1] rfl ?_)))))));refine bC (hv:=(fun H=>oc rfl (oc (H.l 2 rfl).one on))) e3 (xP ?_);exact j1m (fun H=>H.s [2] rfl rfl) (rcA 0 e2) ⟨_,i,lv⟩
 refine oY (zY 0 e3 (js [2,0,1] rfl ?_));refine bC (hv:=(fun H=>oc rfl (oc (H.l 2 rfl).one on))) e3 (xP ?_);exact j1m (fun H=>H.s [2] rfl rfl) (rcA 0 e2) ⟨_,(show xH (-1) by decide),lv⟩
def zU (d:ByteArray):Option (Formula×Int):=
 if (decide (20000<(d.size:Int))) then
  some ((Formula.mk 0 0 ([])),2)
 else
  xK (cX d (oE [32])) fun c=>
  if (decide ((c.length:Int)<3)) then
   some ((Formula.mk 0 0 ([])),5)
  else
   xK (ix c 1) fun j=>
   xK (ix c 2) fun p=>
   xK (zE j) fun e=>
   xK (zE p) fun f=>
   xK (sl c 3 (c.length:Int)) fun t=>
   vC (σ:=(List Atom)) (
    oM (σ:=(List Atom)) (ρ:=Formula×Int) (fun (C:Nat) (y:ByteArray) (z:(List Atom))=>
     xK (aO y) fun h=>
     xK (ap z ([(Atom.mk h.rel h.args)])) fun A=>
     some (.go A)) t 0 []) fun i=>
   xK (bE (Formula.mk e f i)) fun B=>
   if (!sEq B d) then
    some ((Formula.mk 0 0 ([])),5)
   else
    some ((Formula.mk e f i),0)
theorem yI {B:Nat→Prop} {h:ByteArray} (r:Formula×Int) (hR:zU h=some r)  (C:World) (hN:∀ c,B c→c<C.heap.size) (hG:GloE C) (aa:h.size≤maxLen):Calls Tryz.prog 34 #[.string h] C (Gt B C [] (.v fun R=>.fa (xH r.1.free) <| .fa (xH r.1.vars) <| .fa (xH r.2) <| .st (.tuple #[.agg #[xI r.1.free,xI r.1.vars,R],xI r.2]) fun D=>rl 2 xM 120 R r.1.atoms::D)):=by
 unfold zU at hR
 revert r
 refine zI func34 [(0,.string h)] (Sep.start hN) fun r=>?_;refine xL (dG rfl fun d=>jA 1 rfl (xO (jA 1 rfl (fW rfl (jA 1 rfl (xF (zC (fun _=>?_) (fun _=>?_))))))))
 ·
  refine xL (qT e5 (bC e3 (jA 1 rfl (xT ?_))));exact j2m (fun H=>(H.nl 2 xM 120).s [0] rfl rfl) (rcA 0 e2) (rt rfl) ⟨_,(show xH 0 by decide),(show xH 0 by decide),(show xH (2) by decide),lv⟩
 refine oY (jA 1 rfl (jB fun z1 c1=>(jk (fun H=>tT z1 c1 _ aA (hG.go H.bl).toGlo aa (by decide)) fun S=>jA 1 rfl (xO (jA 1 rfl (jLc (fun H=>H.l 0 rfl) fun _=>jA 1 rfl (xF (zC (fun _=>?_) (fun _=>?_)))))))))
 ·
  refine xL (qT e5 (js [1,0] rfl (bC e3 (jA 1 rfl (xT ?_)))));exact j2m (fun H=>(H.nl 2 xM 120).s [0] rfl rfl) (rcA 0 e2) (rt rfl) ⟨_,(show xH 0 by decide),(show xH 0 by decide),(show xH (5) by decide),lv⟩
 refine qD (jB fun z2 c2=>(jB fun U c3=>(jB fun i V=>(jB fun t W=>(lA fun w1 X1 N1 _ g1 _ p _=>?_)))));have L:=g1.ld;refine jD ?_;refine jdp (f:=1) (ls:=#[true,true,true,true,true,true,true,true,true,true,false]) (.n fun e=>.fa (xH 0) <| .fa (xH 0) <| .fa (xH 0) <| .fa (xH 0) <| .fa (xH i) <| .fa (xH t) <| .st [(0,.string h),(2,xU d),(4,S),(5,xU e),(26,(.agg #[xI i,xI t,cL]))] [bx e [xI 0,xI 0,cL] 72,bx d [xI 0,xI 0,cL] 72]) (fun e _ _ _ _ X Y=>?_) (fun Z=>?_)
 ·
  refine jE 10 rfl (bC e3 (kK (jbe (sQ (jA 1 rfl (jB fun M c6=>(jC rfl rfl L c6 fun N h2=>jL h2 fun i3=>jA 1 rfl (xF ?_))))))));refine zX (fun s1=>.v fun O=>.st [(0,.string h),(2,xU d),(5,xU e)] [rl 2 xM 120 O s1,bx e [xI i,xI t,O] 72,bx d [xI 0,xI 0,cL] 72]) ?_ (fun _ O=>?_)
  ·
   refine eD (jh (fun H=>H.nl 2 xM 120) ?_);refine jl (fun E z=>.v fun j=>.st [(30,xI (E:Int)),(0,.string h),(2,xU d),(5,xU e),(28,N),(29,xI (M.length:Int))] [rl 2 xM 120 j z,bx e [xI i,xI t,j] 72,bx d [xI 0,xI 0,cL] 72]) ⟨_,ls⟩ (fun _ z _ q1 j=>?_) (fun E _ z G y1 j=>?_)
   ·
    have P:=qC q1;refine xL (jA 1 rfl (xV (gR P (xS ?_))));exact jf ⟨_,ls⟩
   have P:=xW G;refine xL (jA 1 rfl (xV (gN P (qD ?_))));have j1:=jZ (Nat.le_of_lt G) i3;have m1:=vK G i3;refine kE (jI h2 y1 fun _ h3=>jlT h3 fun i4=>jA 1 rfl (xF (jB fun y c7=>(jB fun z8 c8=>(jD ?_)))));refine jdp (f:=3) (ls:=#[true,true,true,true,true,false,false,false]) (.v fun v4=>.st [(0,.string h),(2,xU d),(5,xU e),(28,N),(29,xI (M.length:Int)),(30,xI (E:Int)),(35,j),(38,v4)] [rl 2 xM 120 v4 ([(Atom.mk y.rel y.args)]),rl 2 xM 120 j z,bx e [xI i,xI t,j] 72,bx d [xI 0,xI 0,cL] 72]) (fun _=>?_) (fun H2=>?_)
   ·
    refine jE 5 rfl (js [1,0,2,3] rfl (jPL c8 fun v5=>kK (fZ 6 rfl e2 (jE 7 rfl (js [1,0,2] rfl (jW (hv:=(fun H=>(H.l 1 rfl).one)) e3 (kK (jbe (mU ?_)))))))));refine oQ m1 (jA 1 rfl (xF (js [1,0,2] rfl ?_)));exact jg ⟨_,ls⟩
   refine jdp (f:=4) (ls:=#[true,true,true,true,false,false,false,false]) (.v fun v6=>.fa (xH y.rel) <| .st [(0,.string h),(2,xU d),(5,xU e),(28,N),(29,xI (M.length:Int)),(30,xI (E:Int)),(35,j),(37,(.agg #[xI y.rel,v6]))] [rl 1 xG 2 v6 y.args,rl 2 xM 120 j z,bx e [xI i,xI t,j] 72,bx d [xI 0,xI 0,cL] 72]) (fun _ i5=>?_) (fun H3=>?_)
   ·
    refine jE 4 rfl (jh (fun H=>xM.w i5 H) (lC (fun H=>El.agg) fun v7=>kK ?_));exact H2 ⟨_,ls⟩
   refine fZ 0 rfl e2 (jvA [2] rfl (jV (fun H=>H) 1 3 rfl rfl ?_ ?_))
   ·
    refine jb 1 e3 (kK (jE 3 rfl ?_));refine jk (fun H=>tI y c7 _ aA (hG.go (p.1 H (Ns.all ⟨n0,⟨n0,⟨n0,trivial⟩⟩⟩)).bl) i4) fun v8 i6=>kK ?_;exact H3 ⟨_,i6,ls⟩
   refine jk (fun H=>tI y c7 _ aA (hG.go (p.1 H (Ns.all ⟨n0,⟨n0,⟨n0,trivial⟩⟩⟩)).bl) i4) fun v9 i7=>kK (jV (fun H=>H) 1 4 rfl rfl ?_ ?_)
   ·
    refine jb 2 e3 (kK ?_);exact H3 ⟨_,i7,ls⟩
   refine jh (fun H=>xM.w i7 H) (lC (fun H=>El.agg) fun b2=>kK (jE 1 rfl (jb 2 e3 (kK ?_))));exact H2 ⟨_,ls⟩
  refine sQ (zY 1 e3 (jB fun z9 c9=>?_));refine jk (fun H=>rI z9 c9 _ aA (hG.go (p.1 H (Ns.all ⟨n0,⟨n0,⟨n0,trivial⟩⟩⟩)).bl).toGlo (xC.m X Y (H.l 0 rfl))) fun _=>jA 2 rfl (xF (zC (fun _=>?_) (fun _=>?_)))
  ·
   refine xL (qT e5 (js [2,0,1] rfl (bC e3 (jA 1 rfl (xT (dL p ?_))))));exact j2m (fun H=>(H.nl 2 xM 120).s [0] rfl rfl) (rcA 1 e2) (rt rfl) ⟨_,(show xH 0 by decide),(show xH 0 by decide),(show xH (5) by decide),lv⟩
  refine oY (zY 1 e3 (js [2,0,1] rfl ?_));refine bC (hv:=(fun H=>oc rfl (oc rfl (oc (H.l 1 rfl).one on)))) e3 (jA 1 rfl (xP (dL p ?_)));exact j2m (fun H=>H.s [2] rfl rfl) (rcA 1 e2) (rt rfl) ⟨_,X,Y,(show xH (0) by decide),lv⟩
 refine jdp (f:=3) (ls:=#[true,true,true,true,true,true,true,false,false,true,false]) (.n fun Q=>.fa (xH 0) <| .fa (xH 0) <| .fa (xH 0) <| .fa (xH 0) <| .fa (xH i) <| .fa (U.size≤maxLen) <| .st [(0,.string h),(2,xU d),(4,S),(5,xU Q),(21,xI i),(24,.string U)] [bx Q [xI 0,xI 0,cL] 72,bx d [xI 0,xI 0,cL] 72]) (fun Q i64 i8 i9 ab ac ad=>?_) (fun H4=>?_)
 ·
  refine jE 7 rfl ?_;refine jk (fun H=>eG t W _ aA (hG.go (p.1 H (Ns.all ⟨n0,⟨n0,trivial⟩⟩)).bl) ad) fun I=>kK ?_;refine jvv 8 rfl (fun F H w l=>xIy underlying72 zeroValue72 (fun w=>by simp [sizeOf2,pP];rfl) F rfl rfl rfl rfl (oc rfl (oc rfl on)) rfl rfl) ?_;exact Z ⟨_,i64,i8,i9,ab,ac,I,ls⟩
 refine jvA [0] rfl (jvI 1 rfl L c2 fun _ h4=>oBa 2 rfl h4 fun T=>jvA [4] rfl (jvI 5 rfl L c3 fun _ h5=>oBa 6 rfl h5 fun K=>jV (fun H=>H) 3 9 rfl rfl ?_ ?_))
 ·
  refine jk (fun H=>eG i V _ aA (hG.go (p.1 H (Ns.all ⟨n0,trivial⟩)).bl) T) fun A=>kK (jV (fun H=>H) 7 9 rfl rfl ?_ ?_)
  ·
   refine jk (fun H=>eG t W _ aA (hG.go (p.1 H (Ns.all ⟨n0,trivial⟩)).bl) K) fun I=>kK ?_;refine jvv 8 rfl (fun F H w l=>xIy underlying72 zeroValue72 (fun w=>by simp [sizeOf2,pP];rfl) F rfl rfl rfl rfl (oc rfl (oc rfl on)) rfl rfl) (jE 9 rfl (dG rfl fun b4=>kK ?_));exact Z ⟨_,(show xH 0 by decide),(show xH 0 by decide),(show xH 0 by decide),(show xH 0 by decide),A,I,ls⟩
  refine dG rfl fun b5=>kK ?_;exact H4 ⟨_,(show xH 0 by decide),(show xH 0 by decide),(show xH 0 by decide),(show xH 0 by decide),A,K,ls⟩
 refine dG rfl fun b6=>kK (jE 3 rfl ?_);refine jk (fun H=>eG i V _ aA (hG.go (p.1 H (Ns.all ⟨n0,⟨n0,trivial⟩⟩)).bl) T) fun A=>kK ?_;exact H4 ⟨_,(show xH 0 by decide),(show xH 0 by decide),(show xH 0 by decide),(show xH 0 by decide),A,K,ls⟩
def bL (c:ByteArray):Option (Gadgets×Int):=
 if (decide (20000<(c.size:Int))) then
  some ((Gadgets.mk ([])),2)
 else
  if (sEq c (oE [])) then
   some ((Gadgets.mk ([])),0)
  else
   xK (dK c (oE [10])) fun f=>
   xK (cX f (oE [10])) fun h=>
   vC (σ:=(List Formula)) (
    oM (σ:=(List Formula)) (ρ:=Gadgets×Int) (fun (y:Nat) (i:ByteArray) (j:(List Formula))=>
     xK (zU i) fun d=>
     if (d.2 != 0) then
      some (.ret ((Gadgets.mk ([])),5))
     else
      xK (ap j ([(Formula.mk d.1.free d.1.vars d.1.atoms)])) fun p=>
      some (.go p)) h 0 []) fun e=>
   xK (aB (Gadgets.mk e)) fun t=>
   if (!sEq t c) then
    some ((Gadgets.mk ([])),5)
   else
    some ((Gadgets.mk e),0)
theorem yK {B:Nat→Prop} {d:ByteArray} (r:Gadgets×Int) (K:bL d=some r)  (e:World) (hN:∀ c,B c→c<e.heap.size) (hG:GloE e) (I:d.size≤maxLen):Calls Tryz.prog 7 #[.string d] e (Gt B e [] (.v fun A=>.fa (xH r.2) <| .st (.tuple #[.agg #[A],xI r.2]) fun D=>rl 3 xC 72 A r.1.formulas::D)):=by
 unfold bL at K
 revert r
 refine zI func7 [(0,.string d)] (Sep.start hN) fun r=>?_;refine xL (dG rfl fun f=>jA 1 rfl (xO (jA 1 rfl (fW rfl (jA 1 rfl (xF (zC (fun _=>?_) (fun _=>?_))))))))
 ·
  refine xL (qT e5 (bC e3 (jA 1 rfl (xT ?_))));exact j2m (fun H=>(H.nl 3 xC 72).s [0] rfl rfl) (rcA 0 e2) (rt rfl) ⟨_,(show xH (2) by decide),lv⟩
 refine oY (qT e5 (dG rfl fun h=>bC e3 (xO (jA 2 rfl (xF (zC (fun _=>?_) (fun _=>?_)))))))
 ·
  refine xL (zY 0 e3 (js [1,0] rfl (bC e3 (jA 1 rfl (xT ?_)))));exact j2m (fun H=>(H.nl 3 xC 72).s [0] rfl rfl) (rcA 0 e2) (rt rfl) ⟨_,(show xH (0) by decide),lv⟩
 refine kZ (jA 1 rfl (jB fun L M=>(jk (fun H=>uI L M _ aA I (by decide)) fun N=>jB fun p O=>(jk (fun H=>tT p O _ aA (hG.go H.bl).toGlo N (by decide)) fun C=>jLc (fun H=>H.l 0 rfl) fun E=>jA 1 rfl (xF ?_)))));refine zX (fun P=>.v fun t=>.st [(0,.string d),(2,xU f),(4,xU h)] [rl 3 xC 72 t P,bx h [t] 30,bx f [cL] 30]) ?_ (fun _ t=>?_)
 ·
  refine eD (jh (fun H=>H.nl 3 xC 72) ?_);refine jl (fun F G=>.v fun y=>.st [(21,xI (F:Int)),(0,.string d),(2,xU f),(4,xU h),(19,C),(20,xI (p.length:Int))] [rl 3 xC 72 y G,rl 1 rV 9 C p,bx h [y] 30,bx f [cL] 30]) ⟨_,ls⟩ (fun _ G _ Q y=>?_) (fun F _ _ i R _=>?_)
  ·
   have z:=qC Q;refine xL (jA 1 rfl (xV (gR z (xS (js [0,2,3] rfl ?_)))));exact jf ⟨_,ls⟩
  have z:=xW i;refine xL (jA 1 rfl (xV (gN z (qD ?_))));have j1:=jZ (Nat.le_of_lt i) E;have S:=vK i E;refine kE (js [1,0,2,3] rfl (lA fun _ _ _ _ T _ j _=>?_));have U:=T.ld;refine jI U R fun _ V=>jlT V fun W=>jA 1 rfl (xN (jA 1 rfl (jB fun X Y=>?_)));refine jk (fun H=>yI X Y _ aA (hG.go (j.1 H (Ns.all ⟨n0,⟨n0,⟨n0,trivial⟩⟩⟩)).bl) W) fun v4 Z i5 _=>jA 3 rfl (dG rfl (fun _=>?_));refine bC (hv:=(fun H=>oc rfl (oc rfl (oc (H.l 1 rfl).one on)))) e3 (jA 1 rfl (xO (jA 2 rfl (xF (zC (fun _=>?_) (fun _=>?_))))))
  ·
   refine xL (qT e5 (js [4,0,1,2,3] rfl (bC e3 (jA 1 rfl (pF (jrt (eX (jrj (a_R (dL j ?_))))))))));exact j2m (fun H=>(H.nl 3 xC 72).s [0] rfl rfl) (rcA 1 e2) (rt rfl) ⟨_,(show xH (5) by decide),lv⟩
  refine xLu (xY e2 (jb 3 e3 (zY 0 e3 (js [1,0,2,3,4] rfl (jh (fun H=>xC.w Z i5 H) (lC (fun H=>El.agg) fun _=>jB fun z4 c4=>(js [2,0,1,3,4] rfl (jPL c4 fun v5=>xY e2 ?_))))))));refine js [2,0,1,3] rfl (jW (hv:=(fun H=>(H.l 1 rfl).one)) e3 (zQ (oQ S (jA 1 rfl (xF (js [0,1,3] rfl (dL j (js [2,0,1,3] rfl ?_))))))));exact jg ⟨_,ls⟩
 refine sQ (zY 1 e3 (jB fun z5 c5=>?_));refine jk (fun H=>pZ z5 c5 _ aA (hG.go H.bl).toGlo (xJ.m (H.l 0 rfl))) fun _=>jA 2 rfl (xF (zC (fun _=>?_) (fun _=>?_)))
 ·
  refine xL (qT e5 (js [2,0,1] rfl (bC e3 (jA 1 rfl (xT ?_)))));exact j2m (fun H=>(H.nl 3 xC 72).s [0] rfl rfl) (rcA 0 e2) (rt rfl) ⟨_,(show xH (5) by decide),lv⟩
 refine oY (zY 1 e3 (js [2,0,1] rfl ?_));refine bC (hv:=(fun H=>oc (H.l 1 rfl).one on)) e3 (jA 1 rfl (xP ?_));exact j2m (fun H=>H.s [1] rfl rfl) (rcA 0 e2) (rt rfl) ⟨_,(show xH (0) by decide),lv⟩
end Go.Proofs.YtlommebgedmjdaaGreatDoor
