import Derived.Test.YtlommebgedmjdaaGreatDoorNA
import Derived.Test.YtlommebgedmjdaaGreatDoorTS
import Derived.Test.YtlommebgedmjdaaGreatDoorNL
namespace Go.Proofs.YtlommebgedmjdaaGreatDoor
set_option linter.unusedVariables false
set_option linter.unusedSimpArgs false
open Go.RowKit
def pv (L:List (Nat×Value)):Go.Op→Option Value
  | .move x=>ev L x
  | .assign x=>ev L x
  | .binOp .lss _ x y _=>match ev L x,ev L y with | some (.int .i64 i),some (.int .i64 j)=>some (.bool (decide (i<j))) | _,_=>none
  | .binOp .leq _ x y _=>match ev L x,ev L y with | some (.int .i64 i),some (.int .i64 j)=>some (.bool (decide (i≤j))) | _,_=>none
  | .binOp .gtr _ x y _=>match ev L x,ev L y with | some (.int .i64 i),some (.int .i64 j)=>some (.bool (decide (j<i))) | _,_=>none
  | .binOp .geq _ x y _=>match ev L x,ev L y with | some (.int .i64 i),some (.int .i64 j)=>some (.bool (decide (j≤i))) | _,_=>none
  | .binOp .eql _ x y _=>match ev L x,ev L y with | some (.int .i64 i),some (.int .i64 j)=>some (.bool (i==j)) | some (.string i),some (.string j)=>some (.bool (sEq i j)) | _,_=>none
  | .binOp .neq _ x y _=>match ev L x,ev L y with | some (.int .i64 i),some (.int .i64 j)=>some (.bool (i != j)) | some (.string i),some (.string j)=>some (.bool (!sEq i j)) | _,_=>none
  | .nilCheck x=>match ev L x with | some (.pointer (some p))=>some (.pointer (some p)) | _=>none
  | .unOp .not _ x=>match ev L x with | some (.bool b)=>some (.bool (!b)) | _=>none
  | .pick x y z=>match ev L x with | some (.bool true)=>ev L y | some (.bool false)=>ev L z | _=>none
  | .extract x i=>match ev L x with | some (.tuple vs)=>vs[i]? | _=>none
  | _=>none
section
variable {P:Program} {ops:Array Oper} {Q Q':Exit→Act→World→Prop} {K:Act→World→Prop} {a:Act} {w:World} {n:Nat} {L L':List (Nat×Value)} {l l':List Oper} {dd:Option Tmp} {ty:TypeId} {pos:String} {af:Array Edge} {g:Option (Nat×Bool)}
theorem ev2 {x y:Operand} {v:Value} {f:Int→Int→Value} (h:(match ev L x,ev L y with | some (.int .i64 i),some (.int .i64 j)=>some (f i j) | _,_=>none)=some v):∃ i j,ev L x=some (.int .i64 i)∧ev L y=some (.int .i64 j)∧v=f i j:=by
  split at h
  · rename_i i j h1 h2
    exact⟨i,j,h1,h2,(Option.some.inj h).symm⟩
  · cases h
theorem xZh {op:Go.Op} {v:Value} (F:Sk a n L) (h:pv L op=some v) {w':World}:(execOp a.eval ⟨dd,op,ty,pos,af,g⟩).run P w'= .ok (.value v) w':=by
  cases op with
  | move x=>exact sZ F h
  | assign x=>exact xBb F h
  | binOp o t x y t'=>
    cases o with
    | lss=>obtain⟨i,j,h1,h2,rfl⟩:=ev2 (f:=fun i j=>.bool (decide (i<j))) h;exact xXr F h1 h2
    | leq=>obtain⟨i,j,h1,h2,rfl⟩:=ev2 (f:=fun i j=>.bool (decide (i≤j))) h;exact oBt F h1 h2
    | gtr=>obtain⟨i,j,h1,h2,rfl⟩:=ev2 (f:=fun i j=>.bool (decide (j<i))) h;exact oCx F h1 h2
    | geq=>obtain⟨i,j,h1,h2,rfl⟩:=ev2 (f:=fun i j=>.bool (decide (j≤i))) h;exact oBy F h1 h2
    | eql=>
      change (match ev L x,ev L y with | some (.int .i64 i),some (.int .i64 j)=>some (Value.bool (i==j)) | some (.string i),some (.string j)=>some (.bool (sEq i j)) | _,_=>none)=some v at h
      split at h
      · rename_i h1 h2;obtain rfl:=Option.some.inj h;exact xXw F h1 h2
      · rename_i h1 h2;obtain rfl:=Option.some.inj h;exact oAl F h1 h2
      · cases h
    | neq=>
      change (match ev L x,ev L y with | some (.int .i64 i),some (.int .i64 j)=>some (Value.bool (i != j)) | some (.string i),some (.string j)=>some (.bool (!sEq i j)) | _,_=>none)=some v at h
      split at h
      · rename_i h1 h2;obtain rfl:=Option.some.inj h;exact oBh F h1 h2
      · rename_i h1 h2;obtain rfl:=Option.some.inj h;exact xZc F h1 h2
      · cases h
    | _=>cases h
  | unOp o t x=>
    cases o with
    | not=>
      change (match ev L x with | some (.bool b)=>some (Value.bool (!b)) | _=>none)=some v at h
      split at h
      · rename_i b h1
        obtain rfl:=Option.some.inj h;exact xSj F h1
      · cases h
    | _=>cases h
  | nilCheck x=>
    change (match ev L x with | some (.pointer (some p))=>some (Value.pointer (some p)) | _=>none)=some v at h
    split at h
    · rename_i p h1
      obtain rfl:=Option.some.inj h;exact sR F h1
    · cases h
  | pick x y z=>
    change (match ev L x with | some (.bool true)=>ev L y | some (.bool false)=>ev L z | _=>none)=some v at h
    split at h
    · rename_i h1;exact xJk F h1 h
    · rename_i h1;exact xIs F h1 h
    · cases h
  | extract x i=>
    change (match ev L x with | some (.tuple vs)=>vs[i]? | _=>none)=some v at h
    split at h
    · rename_i vs h1;exact xIo F h1 h
    · cases h
  | _=>cases h
def xBq (ops:Array Oper) (n:Nat):Nat→List (Nat×Value)→List Oper→Option (List (Nat×Value)×List Oper)
  | 0,L,l=>some (L,l)
  | k+1,L,l=>match l with
    | []=>none
    | ⟨some d,op,_,_,_,g⟩::l=>match qH ops n L g d with
      | true=>match pv L op with
        | some v=>xBq ops n k ((d,v)::L) l
        | none=>none
      | false=>match gno ops L g && Nat.blt d n with
        | true=>xBq ops n k ((d,undef)::L) l
        | false=>none
    | ⟨none,_,_,_,_,g⟩::l=>match gno ops L g with
      | true=>xBq ops n k L l
      | false=>none
theorem xWu:∀ (k:Nat) {a:Act} {L:List (Nat×Value)} {l:List Oper} (F:Sk a n L) (h:xBq ops n k L l=some (L',l')) (c:∀ a',Sk a' n L'→wpList P ops Q l' a' w),wpList P ops Q l a w
  | 0,a,L,l,F,h,c=>by
    obtain⟨rfl,rfl⟩:=Prod.mk.inj (Option.some.inj h);exact c a F
  | k+1,a,L,[],F,h,c=>by cases h
  | k+1,a,L,⟨some d,op,ty,pos,af,g⟩::l,F,h,c=>by
    change (match qH ops n L g d with | true=>(match pv L op with | some v=>xBq ops n k ((d,v)::L) l | none=>none) | false=>(match gno ops L g && Nat.blt d n with | true=>xBq ops n k ((d,undef)::L) l | false=>none))=_ at h
    split at h
    · rename_i h1
      split at h
      · rename_i v h2
        exact qX F h1 (xZh F h2) (fun a F=>xWu k F h c)
      · cases h
    · split at h
      · rename_i h2
        rw[Bool.and_eq_true] at h2;exact xPx F h2.1 h2.2 (fun a F=>xWu k F h c)
      · cases h
  | k+1,a,L,⟨none,op,ty,pos,af,g⟩::l,F,h,c=>by
    change (match gno ops L g with | true=>xBq ops n k L l | false=>none)=_ at h
    split at h
    · rename_i h1
      exact oAz F h1 (xWu k F h c)
    · cases h
theorem x_E (h:K a w):wpList P ops (Exit.then K Q) [] a w:=h
theorem x_R {id:Nat} {y:Code} (h:wpList P l.toArray (Exit.then (y.wp P Q) Q) l a w):(Code.seq (.region id l.toArray false) y).wp P Q a w:=oO (vL h)
theorem x_ER {id:Nat} {y:Code} (h:wpList P l.toArray (Exit.then (y.wp P Q) Q) l a w):wpList P ops (Exit.then ((Code.seq (.region id l.toArray false) y).wp P Q) Q') [] a w:=x_R h
theorem Sk.su {M:List (Nat×Value)} (F:Sk a n L) (h:Go.Proofs.YtlommebgedmjdaaGreatDoor.sub L M:=by repeat (first | exact sn | refine sc rfl ?_)):Sk a n M:=F.sub h
end
end Go.Proofs.YtlommebgedmjdaaGreatDoor
namespace Go.Proofs.YtlommebgedmjdaaGreatDoor
set_option linter.unusedVariables false
set_option linter.unusedSimpArgs false
open Go.RowKit
inductive Tl (α β:Type):Type 1
  | ex {γ:Type} (f:γ→Tl α β)
  | fa (p:Prop) (i:Tl α β)
  | st (x:α) (y:β)
def Tl.all {α β:Type} (K:α→β→Prop):Tl α β→Prop
  | .ex f=>∀ b,(f b).all K
  | .fa p i=>p→i.all K
  | .st x y=>K x y
def Tl.any {α β:Type} (K:α→β→Prop):Tl α β→Prop
  | .ex f=>∃ b,(f b).any K
  | .fa p i=>p∧i.any K
  | .st x y=>K x y
abbrev Tl.v {α β:Type} (f:Value→Tl α β):Tl α β:=.ex f
abbrev Tl.n {α β:Type} (f:Nat→Tl α β):Tl α β:=.ex f
abbrev Tl.o {α β:Type} (f:Option Addr→Tl α β):Tl α β:=.ex f
theorem Tl.any.go {α β:Type} {K K':α→β→Prop} {G:Prop}:∀ {i:Tl α β},i.any K→i.all K'→(∀ x y,K x y→K' x y→G)→G
  | .ex _,⟨b,h⟩,k,f=>Tl.any.go h (k b) f
  | .fa _ _,⟨p,h⟩,k,f=>Tl.any.go h (k p) f
  | .st x y,h,k,f=>f x y h k
theorem Tl.any.map {α β:Type} {K K':α→β→Prop}:∀ {i:Tl α β},i.any K→(∀ x y,K x y→K' x y)→i.any K'
  | .ex _,⟨b,h⟩,f=>⟨b,Tl.any.map h f⟩
  | .fa _ _,⟨p,h⟩,f=>⟨p,Tl.any.map h f⟩
  | .st x y,h,f=>f x y h
theorem Tl.any.some {α β:Type} {K:α→β→Prop}:∀ {i:Tl α β},i.any K→∃ x y,K x y
  | .ex _,⟨_,h⟩=>Tl.any.some h
  | .fa _ _,⟨_,h⟩=>Tl.any.some h
  | .st x y,h=>⟨x,y,h⟩
theorem Tl.all.and {α β:Type} {K K':α→β→Prop}:∀ {i:Tl α β},i.all K→i.all K'→i.all (fun x y=>K x y∧K' x y)
  | .ex _,h,k=>fun b=>Tl.all.and (h b) (k b)
  | .fa _ _,h,k=>fun p=>Tl.all.and (h p) (k p)
  | .st _ _,h,k=>⟨h,k⟩
structure J {ρ:Type} (n:Nat) (X:List Nat) (N:Nat→Prop) (w0:World) (L:List (Nat×Value)) (D:List As) (t:Option ρ) (C:ρ→Prop) (G:Act→World→Prop):Prop where
  h:∀ a w,Sk a n L→Sep X N w0 w D→∀ x,t=some x→C x→G a w
def Gt (M:Nat→Prop) (w:World) (X:List Nat) (i:Tl Value (List As→List As)) (e:Ending) (w':World):Prop:=
  i.any fun v f=>e= .returned v∧Sep X M w w' (f [])∧∀ D,f D=f []++D
def Cq {ρ:Type} (I:ρ→Tl Value (List As→List As)) (M:Nat→Prop) (w:World) (X:List Nat) (R:Ending→World→Prop) (x:ρ):Prop:=∀ e w',Gt M w X (I x) e w'→R e w'
def Th {σ ρ:Type} (next:σ→Option ρ) (C:ρ→Prop) (o:Out σ ρ):Prop:=∃ y,xTi next y o∧C y
def Lx {σ ρ:Type} (next:σ→Option (Out σ ρ)) (C:Out σ ρ→Prop) (c:Ctl σ ρ):Prop:=∃ y,Nxt next y c∧C y
def Lp {σ τ:Type} (next:σ→Option τ) (C:τ→Prop) (n:Nat) (X:List Nat) (N:Nat→Prop) (w0:World) (I:σ→Tl (List (Nat×Value)) (List As)) (a:Act) (w:World):Prop:=
  ∃ s,(∃ y,next s=some y∧C y)∧(I s).any fun S D=>Sk a n S∧Sep X N w0 w D
def Rs (P:Program) (n:Nat) (X:List Nat) (N:Nat→Prop) (w0:World) (L:List (Nat×Value)) (D:List As) (r:ResultVar) (v:Value):Prop:=∀ a w,Sk a n L→Sep X N w0 w D→(tF a.tmps r).run P w= .ok v w
def Lv (v v1:Value) (f:List As→List As) (D:List As):Prop:=v=v1∧∀ E,f E=D++E
theorem lv {v:Value} {f:List As→List As} {D:List As} (h:∀ E,f E=D++E:=by intro;rfl):Lv v v f D:=⟨rfl,h⟩
def Ls (L S:List (Nat×Value)) (D E:List As):Prop:=D=E∧sub L S
theorem ls {L S:List (Nat×Value)} {D:List As} (h:sub L S:=by repeat (first | exact sn | refine sc rfl ?_)):Ls L S D D:=⟨rfl,h⟩
section
variable {P:Program} {ops:Array Oper} {Q Q':Exit→Act→World→Prop} {fn:Func} {n:Nat} {X:List Nat} {N M:Nat→Prop} {w0 w:World} {L L':List (Nat×Value)} {D D':List As} {ρ σ τ α:Type} {t:Option ρ} {C:ρ→Prop} {G G' K:Act→World→Prop} {R:Ending→World→Prop} {l l':List Oper} {rest:List Oper} {d:Nat} {ty:TypeId} {pos:String} {af:Array Edge} {g:Option (Nat×Bool)}
theorem zI {f:FuncId} {c:Code} {vs:List Value} {I:ρ→Tl Value (List As→List As)} (hf:P.funcs[f]?=some fn) (L:List (Nat×Value)) (H:Sep X N w w D) (k:∀ r,J n X N w L D t (Cq I N w X (Gt N w X (I r))) (c.wp P (bodyPost P fn (Gt N w X (I r)))))
    (hb:fn.body=some c:=by rfl) (hn:fn.ntmps=n:=by rfl) (hl:Nat.ble vs.length n=true:=by rfl) (hL:sub (((List.range vs.length).zip vs)) L:=by repeat (first | exact sn | refine sc rfl ?_)):∀ r,t=some r→Calls P f vs.toArray w (Gt N w X (I r)):=fun r hR=>
  uW hf hb hn hl hL (fun a F=>(k r).h a w F H r hR (fun _ _ h=>h))
theorem jB {e:Option α} {f:α→Option ρ} (k:∀ z,e=some z→J n X N w0 L D (f z) C G):J n X N w0 L D (xK e f) C G:=⟨fun a w F H x h1 h2=>
  let ⟨z,h3,h4⟩:=fE h1;(k z h3).h a w F H x h4 h2⟩
theorem jbs {b:Bool} {t1 t2:Option ρ} (h1:b=true→J n X N w0 L D t1 C G) (h2:b=false→J n X N w0 L D t2 C G):J n X N w0 L D (if b then t1 else t2) C G:=⟨fun a w F H x h3 h4=>by
  cases b with
  | true=>exact(h1 rfl).h a w F H x (by simpa using h3) h4
  | false=>exact(h2 rfl).h a w F H x (by simpa using h3) h4⟩
theorem jeq (i:Nat) {b c:Bool} (hb:b=c) (h:J n X N w0 ((i,.bool c)::L) D t C G) (e:nZ L i=some (.bool b):=by rfl):J n X N w0 L D t C G:=⟨fun a w F=>h.h a w (F.eq e (congrArg Value.bool hb))⟩
theorem dP (i:Nat) {b:Bool} {t1 t2:Option ρ} (h1:b=true→J n X N w0 ((i,.bool true)::L) D t1 C G) (h2:b=false→J n X N w0 ((i,.bool false)::L) D t2 C G) (e:nZ L i=some (.bool b):=by rfl):J n X N w0 L D (if b then t1 else t2) C G:=
  jbs (fun h=>jeq i h (h1 h) e) (fun h=>jeq i h (h2 h) e)
theorem jbk {next:σ→Option (Out σ ρ)} {C:Out σ ρ→Prop} {s:σ} (h:J n X N w0 L D (some (Out.nx s)) C G):J n X N w0 L D (some (Ctl.brk s)) (Lx next C) G:=⟨fun a w F H x h1 ⟨y,h2,h3⟩=>h.h a w F H y (by cases h1;exact h2 ▸ rfl) h3⟩
theorem jrt {next:σ→Option (Out σ ρ)} {C:Out σ ρ→Prop} {v:ρ} (h:J n X N w0 L D (some (Out.ret (σ:=σ) v)) C G):J n X N w0 L D (some (Ctl.ret v)) (Lx next C) G:=⟨fun a w F H x h1 ⟨y,h2,h3⟩=>h.h a w F H y (by cases h1;exact h2 ▸ rfl) h3⟩
theorem jrj {next:σ→Option ρ} {v:ρ} (h:J n X N w0 L D (some v) C G):J n X N w0 L D (some (Out.ret v)) (Th next C) G:=⟨fun a w F H x h1 ⟨y,h2,h3⟩=>h.h a w F H y (by cases h1;exact congrArg some h2) h3⟩
theorem zC {cc:Operand} {b:Bool} {x y:Code} {t1 t2:Option ρ} (ht:b=true→J n X N w0 L D t1 C (x.wp P Q)) (hf:b=false→J n X N w0 L D t2 C (y.wp P Q)) (e:ev L cc=some (.bool b):=by rfl):J n X N w0 L D (if b then t1 else t2) C ((Code.cond cc x y).wp P Q):=⟨fun a w F H r h1 h2=>by
  cases b with
  | true=>exact xTg F e ((ht rfl).h a w F H r (by simpa using h1) h2)
  | false=>exact xTm F e ((hf rfl).h a w F H r (by simpa using h1) h2)⟩
theorem gN {cc:Operand} {b:Bool} {x y:Code} (hb:b=true) (h:J n X N w0 L D t C (x.wp P Q)) (e:ev L cc=some (.bool b):=by rfl):J n X N w0 L D t C ((Code.cond cc x y).wp P Q):=⟨fun a w F H r h1 h2=>xOl F e hb (h.h a w F H r h1 h2)⟩
theorem gR {cc:Operand} {b:Bool} {x y:Code} (hb:b=false) (h:J n X N w0 L D t C (y.wp P Q)) (e:ev L cc=some (.bool b):=by rfl):J n X N w0 L D t C ((Code.cond cc x y).wp P Q):=⟨fun a w F H r h1 h2=>xIn F e hb (h.h a w F H r h1 h2)⟩
theorem zX {t1:Option (Out σ ρ)} {next:σ→Option ρ} {c:Code} (I:σ→Tl (List (Nat×Value)) (List As)) (h:J n X N w0 L D t1 (Th next C) (c.wp P (Exit.then (Lp next C n X N w0 I) Q)))
    (k:∀ s,(I s).all fun S E=>J n X N w0 S E (next s) C (Q .normal)):J n X N w0 L D (vC t1 next) C (c.wp P Q):=⟨fun a w F H y h1 h2=>by
  obtain⟨o,ho,hk⟩:=uC h1
  exact xBm (Lp next C n X N w0 I) (h.h a w F H o ho ⟨y,hk,h2⟩) (fun a w ⟨s,⟨y,e,hc⟩,hi⟩=>hi.go (k s) (fun S E hSE hJ=>hJ.h a w hSE.1 hSE.2 y e hc))⟩
theorem Lp.mk {next:σ→Option τ} {C:τ→Prop} {I:σ→Tl (List (Nat×Value)) (List As)} {a:Act} {w:World} {s:σ} {y:τ} (F:Sk a n L) (H:Sep X N w0 w D) (e:next s=some y) (hc:C y) (h:(I s).any fun S E=>Ls L S E D):Lp next C n X N w0 I a w:=
  ⟨s,⟨y,e,hc⟩,h.map (fun S E h=>⟨F.sub h.2,h.1 ▸ H⟩)⟩
theorem jf {s:σ} {next:σ→Option ρ} {I:σ→Tl (List (Nat×Value)) (List As)} (h:(I s).any fun S E=>Ls L S E D):J n X N w0 L D (some (.nx s)) (Th next C) (Lp next C n X N w0 I):=⟨fun a w F H o h1 ⟨y,h2,h3⟩=>
  Lp.mk F H (by cases h1;exact h2) h3 h⟩
theorem jg {s:σ} {next:σ→Option (Out σ ρ)} {C:Out σ ρ→Prop} {I:σ→Tl (List (Nat×Value)) (List As)} (h:(I s).any fun S E=>Ls L S E D):J n X N w0 L D (some (.go s)) (Lx next C) (Lp next C n X N w0 I):=⟨fun a w F H o h1 ⟨y,h2,h3⟩=>
  Lp.mk F H (by cases h1;exact h2) h3 h⟩
theorem jl {body:Nat→α→σ→Option (Ctl σ ρ)} {l:List α} {s0:σ} {C:Out σ ρ→Prop} {c:Code} (I:Nat→σ→Tl (List (Nat×Value)) (List As)) (h0:(I 0 s0).any fun S E=>Ls L S E D)
    (hn:∀ (k:Nat) s K,(k:Int)=l.length→(I k s).all fun S E=>J n X N w0 S E (some (.nx s)) C (c.wp P (Exit.then K Q)))
    (hc:∀ (k:Nat) x s,k<l.length→ix l (k:Int)=some x→(I k s).all fun S E=>J n X N w0 S E (body k x s) (Lx (oM body (l.drop (k+1)) (k+1)) C) (c.wp P (Exit.then (Lp (oM body (l.drop (k+1)) (k+1)) C n X N w0 (I (k+1))) Q))) :
    J n X N w0 L D (oM body l 0 s0) C ((Code.loop c).wp P Q):=⟨fun a w F H y h1 h2=>by
  refine xBs (fun g a w=>∃ k,k+g=l.length∧Lp (oM body (l.drop k) k) C n X N w0 (I k) a w) l.length ⟨0,Nat.zero_add _,Lp.mk F H (by simpa using h1) h2 h0⟩ ?_
  rintro g a w ⟨k,hk,s,⟨y,e,hC⟩,hi⟩
  cases g with
  | zero=>
    have hd:l.drop k=[]:=List.drop_eq_nil_of_le (by omega);rw[hd] at e;exact hi.go (hn k s _ (by omega)) (fun S E hSE hJ=>hJ.h a w hSE.1 hSE.2 y e hC)
  | succ g=>
    have hlt:k<l.length:=by omega
    rw[List.drop_eq_getElem_cons hlt] at e;obtain⟨c1,e1,e2⟩:=xHs e;refine Code.wp_mono (fun ex a w q=>?_) (hi.go (hc k l[k] s hlt (zO (List.getElem?_eq_getElem hlt))) (fun S E hSE hJ=>hJ.h a w hSE.1 hSE.2 c1 e1 ⟨y,e2,hC⟩))
    cases ex with
    | normal=>exact⟨g,Nat.lt_succ_self _,k+1,by omega,q⟩
    | _=>exact q⟩
theorem jc {body:Nat→σ→Option (Ctl σ ρ)} {m:Nat} {s0:σ} {C:Out σ ρ→Prop} {c:Code} (I:Nat→σ→Tl (List (Nat×Value)) (List As)) (h0:(I 0 s0).any fun S E=>Ls L S E D)
    (hn:∀ k s K,k+0=m→(I k s).all fun S E=>J n X N w0 S E (some (.nx s)) C (c.wp P (Exit.then K Q)))
    (hc:∀ g k s,k+(g+1)=m→(I k s).all fun S E=>J n X N w0 S E (body k s) (Lx (aY body g (k+1)) C) (c.wp P (Exit.then (Lp (aY body g (k+1)) C n X N w0 (I (k+1))) Q))) :
    J n X N w0 L D (aY body m 0 s0) C ((Code.loop c).wp P Q):=⟨fun a w F H y h1 h2=>by
  refine xBs (fun g a w=>∃ k,k+g=m∧Lp (aY body g k) C n X N w0 (I k) a w) m ⟨0,Nat.zero_add _,Lp.mk F H h1 h2 h0⟩ ?_
  rintro g a w ⟨k,hk,s,⟨y,e,hC⟩,hi⟩
  cases g with
  | zero=>exact hi.go (hn k s _ hk) (fun S E hSE hJ=>hJ.h a w hSE.1 hSE.2 y e hC)
  | succ g=>
    obtain⟨c1,e1,e2⟩:=xHx e;refine Code.wp_mono (fun ex a w q=>?_) (hi.go (hc g k s hk) (fun S E hSE hJ=>hJ.h a w hSE.1 hSE.2 c1 e1 ⟨y,e2,hC⟩))
    cases ex with
    | normal=>exact⟨g,Nat.lt_succ_self _,k+1,by omega,q⟩
    | _=>exact q⟩
theorem jw {body:σ→Option (Ctl σ ρ)} {m:Nat} {s0:σ} {C:Out σ ρ→Prop} {c:Code} (I:σ→Tl (List (Nat×Value)) (List As)) (h0:(I s0).any fun S E=>Ls L S E D)
    (hc:∀ g s,(I s).all fun S E=>J n X N w0 S E (body s) (Lx (whl body g) C) (c.wp P (Exit.then (Lp (whl body g) C n X N w0 I) Q))) :
    J n X N w0 L D (whl body m s0) C ((Code.loop c).wp P Q):=⟨fun a w F H y h1 h2=>by
  refine xBs (fun g a w=>Lp (whl body g) C n X N w0 I a w) m (Lp.mk F H h1 h2 h0) ?_
  rintro g a w ⟨s,⟨y,e,hC⟩,hi⟩
  obtain⟨c1,m',rfl,e1,e2⟩:=xQq e;refine Code.wp_mono (fun ex a w q=>?_) (hi.go (hc m' s) (fun S E hSE hJ=>hJ.h a w hSE.1 hSE.2 c1 e1 ⟨y,e2,hC⟩))
  cases ex with
  | normal=>exact⟨m',Nat.lt_succ_self _,q⟩
  | _=>exact q⟩
theorem rt {i:Nat} {v:Value} (e:nZ L i=some v):Rs P n X N w0 L D (.tmp i) v:=fun _ _ F _=>xMj F e
theorem j0 {e:ρ} {I:ρ→Tl Value (List As→List As)} (h:(I e).any fun v f=>Lv v (.tuple #[]) f D) (hr:fn.results = #[]:=by rfl):J n X N w0 L D (some e) (Cq I N w0 X R) (bodyPost P fn R .ret):=⟨fun a w F H x hx hc=>by
  cases hx
  exact bodyPost_ret (results_none hr _ _ _) F.d (hc _ _ (h.map (fun v f h=>⟨congrArg _ h.1.symm,by rw[h.2,List.append_nil];exact H,fun E=>by rw[h.2,h.2,List.append_nil]⟩)))⟩
theorem j1 {e:ρ} {I:ρ→Tl Value (List As→List As)} {r1:ResultVar} {v1:Value} (h1:Rs P n X N w0 L D r1 v1) (h:(I e).any fun v f=>Lv v v1 f D) (hr:fn.results = #[r1]:=by rfl):J n X N w0 L D (some e) (Cq I N w0 X R) (bodyPost P fn R .ret):=⟨fun a w F H x hx hc=>by
  cases hx
  exact tB F hr (h1 a w F H) (hc _ _ (h.map (fun v f h=>⟨congrArg _ h.1.symm,by rw[h.2,List.append_nil];exact H,fun E=>by rw[h.2,h.2,List.append_nil]⟩)))⟩
theorem j2 {e:ρ} {I:ρ→Tl Value (List As→List As)} {r1 r2:ResultVar} {v1 v2:Value} (h1:Rs P n X N w0 L D r1 v1) (h2:Rs P n X N w0 L D r2 v2) (h:(I e).any fun v f=>Lv v (.tuple #[v1,v2]) f D) (hr:fn.results = #[r1,r2]:=by rfl):J n X N w0 L D (some e) (Cq I N w0 X R) (bodyPost P fn R .ret):=⟨fun a w F H x hx hc=>by
  cases hx
  exact xUc F hr (h1 a w F H) (h2 a w F H) (hc _ _ (h.map (fun v f h=>⟨congrArg _ h.1.symm,by rw[h.2,List.append_nil];exact H,fun E=>by rw[h.2,h.2,List.append_nil]⟩)))⟩
theorem j3 {e:ρ} {I:ρ→Tl Value (List As→List As)} {r1 r2 r3:ResultVar} {v1 v2 v3:Value} (h1:Rs P n X N w0 L D r1 v1) (h2:Rs P n X N w0 L D r2 v2) (h3:Rs P n X N w0 L D r3 v3) (h:(I e).any fun v f=>Lv v (.tuple #[v1,v2,v3]) f D) (hr:fn.results = #[r1,r2,r3]:=by rfl):J n X N w0 L D (some e) (Cq I N w0 X R) (bodyPost P fn R .ret):=⟨fun a w F H x hx hc=>by
  cases hx
  exact xTn F hr (h1 a w F H) (h2 a w F H) (h3 a w F H) (hc _ _ (h.map (fun v f h=>⟨congrArg _ h.1.symm,by rw[h.2,List.append_nil];exact H,fun E=>by rw[h.2,h.2,List.append_nil]⟩)))⟩
theorem jh {X':List Nat} {N':Nat→Prop} {w1:World} (f:∀ {w},Sep X N w0 w D→Sep X' N' w1 w D') (h:J n X' N' w1 L D' t C G):J n X N w0 L D t C G:=⟨fun a w F H=>h.h a w F (f H)⟩
theorem js (is:List Nat) (e:sel D is=some D') (h:J n X N w0 L D' t C G) (hn:xGh is=true:=by rfl):J n X N w0 L D t C G:=⟨fun a w F H=>h.h a w F (H.s is e hn)⟩
theorem jA (k:Nat) (e:xBq ops n k L l=some (L',l')) (h:J n X N w0 L' D t C (wpList P ops Q l')):J n X N w0 L D t C (wpList P ops Q l):=⟨fun a w F H x h1 h2=>xWu k F e (fun a F=>h.h a w F H x h1 h2)⟩
end
end Go.Proofs.YtlommebgedmjdaaGreatDoor
