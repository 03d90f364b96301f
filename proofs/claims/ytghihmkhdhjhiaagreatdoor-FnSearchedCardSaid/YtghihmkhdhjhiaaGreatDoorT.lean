import Derived.Test.YtghihmkhdhjhiaaGreatDoorB
namespace Go.Proofs.YtghihmkhdhjhiaaGreatDoor
set_option linter.unusedVariables false
set_option linter.unusedSimpArgs false
open Go.RowKit
structure Rel where
  arity:Int
  tuples:List (List Int)
instance:Inhabited Rel:=⟨⟨0,[]⟩⟩
def qG:ER Rel:=fun w f x bs=>∃ v1:Value,∃ b1:List Nat,f 0=some (.int .i64 x.arity)∧xO x.arity∧f 1=some v1∧Sl 1 gH w v1 x.tuples b1∧bs=b1
theorem qG.fr:Fr 2 qG:=by
  intro w w' f g x bs h hs hg;obtain⟨v1,b1,h0,k0,h1,k1,rfl⟩:=h;exact⟨v1,_,(hg 0 (by omega)).trans h0,k0,(hg 1 (by omega)).trans h1,k1.same gH.fr (fun c hc=>hs c (by simp [hc])),rfl⟩
theorem qG.open {w:World} {v:Value} {x:Rel} {bs:List Nat} (h:kJ 2 qG w v x bs):∃ v1:Value,∃ b1:List Nat,v= .agg #[.int .i64 x.arity,v1]∧xO x.arity∧Sl 1 gH w v1 x.tuples b1∧bs=b1:=by
  obtain⟨cs,hl,rfl,v1,b1,h0,k0,h1,k1,rfl⟩:=h
  match cs,hl with
  | [c0,c1],_=>
    obtain rfl:=Option.some.inj h0;obtain rfl:=Option.some.inj h1;exact⟨_,_,rfl,k0,k1,rfl⟩
theorem qG.mk' {w:World} {x:Rel} {v1:Value} {b1:List Nat} (h0:xO x.arity) (h1:Sl 1 gH w v1 x.tuples b1):kJ 2 qG w (.agg #[.int .i64 x.arity,v1]) x (b1):=
  ⟨[.int .i64 x.arity,v1],rfl,rfl,_,_,rfl,h0,rfl,h1,rfl⟩
structure Template where
  size:Int
  rels:List Rel
instance:Inhabited Template:=⟨⟨0,[]⟩⟩
def xJ:ER Template:=fun w f x bs=>∃ v1:Value,∃ b1:List Nat,f 0=some (.int .i64 x.size)∧xO x.size∧f 1=some v1∧Sl 2 qG w v1 x.rels b1∧bs=b1
theorem xJ.fr:Fr 2 xJ:=by
  intro w w' f g x bs h hs hg;obtain⟨v1,b1,h0,k0,h1,k1,rfl⟩:=h;exact⟨v1,_,(hg 0 (by omega)).trans h0,k0,(hg 1 (by omega)).trans h1,k1.same qG.fr (fun c hc=>hs c (by simp [hc])),rfl⟩
theorem xJ.open {w:World} {v:Value} {x:Template} {bs:List Nat} (h:kJ 2 xJ w v x bs):∃ v1:Value,∃ b1:List Nat,v= .agg #[.int .i64 x.size,v1]∧xO x.size∧Sl 2 qG w v1 x.rels b1∧bs=b1:=by
  obtain⟨cs,hl,rfl,v1,b1,h0,k0,h1,k1,rfl⟩:=h
  match cs,hl with
  | [c0,c1],_=>
    obtain rfl:=Option.some.inj h0;obtain rfl:=Option.some.inj h1;exact⟨_,_,rfl,k0,k1,rfl⟩
theorem xJ.mk' {w:World} {x:Template} {v1:Value} {b1:List Nat} (h0:xO x.size) (h1:Sl 2 qG w v1 x.rels b1):kJ 2 xJ w (.agg #[.int .i64 x.size,v1]) x (b1):=
  ⟨[.int .i64 x.size,v1],rfl,rfl,_,_,rfl,h0,rfl,h1,rfl⟩
structure Op where
  arity:Int
  table:List Int
instance:Inhabited Op:=⟨⟨0,[]⟩⟩
def ROp:ER Op:=fun w f x bs=>∃ v1:Value,∃ b1:List Nat,f 0=some (.int .i64 x.arity)∧xO x.arity∧f 1=some v1∧Sl 1 xI w v1 x.table b1∧bs=b1
theorem ROp.fr:Fr 2 ROp:=by
  intro w w' f g x bs h hs hg;obtain⟨v1,b1,h0,k0,h1,k1,rfl⟩:=h;exact⟨v1,_,(hg 0 (by omega)).trans h0,k0,(hg 1 (by omega)).trans h1,k1.same xI.fr (fun c hc=>hs c (by simp [hc])),rfl⟩
theorem ROp.mk' {w:World} {x:Op} {v1:Value} {b1:List Nat} (h0:xO x.arity) (h1:Sl 1 xI w v1 x.table b1):kJ 2 ROp w (.agg #[.int .i64 x.arity,v1]) x (b1):=
  ⟨[.int .i64 x.arity,v1],rfl,rfl,_,_,rfl,h0,rfl,h1,rfl⟩
structure Atom where
  rel:Int
  args:List Int
instance:Inhabited Atom:=⟨⟨0,[]⟩⟩
def cL:ER Atom:=fun w f x bs=>∃ v1:Value,∃ b1:List Nat,f 0=some (.int .i64 x.rel)∧xO x.rel∧f 1=some v1∧Sl 1 xI w v1 x.args b1∧bs=b1
theorem cL.fr:Fr 2 cL:=by
  intro w w' f g x bs h hs hg;obtain⟨v1,b1,h0,k0,h1,k1,rfl⟩:=h;exact⟨v1,_,(hg 0 (by omega)).trans h0,k0,(hg 1 (by omega)).trans h1,k1.same xI.fr (fun c hc=>hs c (by simp [hc])),rfl⟩
theorem cL.mk' {w:World} {x:Atom} {v1:Value} {b1:List Nat} (h0:xO x.rel) (h1:Sl 1 xI w v1 x.args b1):kJ 2 cL w (.agg #[.int .i64 x.rel,v1]) x (b1):=
  ⟨[.int .i64 x.rel,v1],rfl,rfl,_,_,rfl,h0,rfl,h1,rfl⟩
structure Formula where
  free:Int
  vars:Int
  atoms:List Atom
instance:Inhabited Formula:=⟨⟨0,0,[]⟩⟩
def kE:ER Formula:=fun w f x bs=>∃ v2:Value,∃ b2:List Nat,f 0=some (.int .i64 x.free)∧xO x.free∧f 1=some (.int .i64 x.vars)∧xO x.vars∧f 2=some v2∧Sl 2 cL w v2 x.atoms b2∧bs=b2
theorem kE.fr:Fr 3 kE:=by
  intro w w' f g x bs h hs hg;obtain⟨v2,b2,h0,k0,h1,k1,h2,k2,rfl⟩:=h;exact⟨v2,_,(hg 0 (by omega)).trans h0,k0,(hg 1 (by omega)).trans h1,k1,(hg 2 (by omega)).trans h2,k2.same cL.fr (fun c hc=>hs c (by simp [hc])),rfl⟩
theorem kE.mk' {w:World} {x:Formula} {v2:Value} {b2:List Nat} (h0:xO x.free) (h1:xO x.vars) (h2:Sl 2 cL w v2 x.atoms b2):kJ 3 kE w (.agg #[.int .i64 x.free,.int .i64 x.vars,v2]) x (b2):=
  ⟨[.int .i64 x.free,.int .i64 x.vars,v2],rfl,rfl,_,_,rfl,h0,rfl,h1,rfl,h2,rfl⟩
structure Con where
  rel:Int
  scope:List Int
instance:Inhabited Con:=⟨⟨0,[]⟩⟩
def qH:ER Con:=fun w f x bs=>∃ v1:Value,∃ b1:List Nat,f 0=some (.int .i64 x.rel)∧xO x.rel∧f 1=some v1∧Sl 1 xI w v1 x.scope b1∧bs=b1
theorem qH.fr:Fr 2 qH:=by
  intro w w' f g x bs h hs hg;obtain⟨v1,b1,h0,k0,h1,k1,rfl⟩:=h;exact⟨v1,_,(hg 0 (by omega)).trans h0,k0,(hg 1 (by omega)).trans h1,k1.same xI.fr (fun c hc=>hs c (by simp [hc])),rfl⟩
theorem qH.open {w:World} {v:Value} {x:Con} {bs:List Nat} (h:kJ 2 qH w v x bs):∃ v1:Value,∃ b1:List Nat,v= .agg #[.int .i64 x.rel,v1]∧xO x.rel∧Sl 1 xI w v1 x.scope b1∧bs=b1:=by
  obtain⟨cs,hl,rfl,v1,b1,h0,k0,h1,k1,rfl⟩:=h
  match cs,hl with
  | [c0,c1],_=>
    obtain rfl:=Option.some.inj h0;obtain rfl:=Option.some.inj h1;exact⟨_,_,rfl,k0,k1,rfl⟩
theorem qH.mk' {w:World} {x:Con} {v1:Value} {b1:List Nat} (h0:xO x.rel) (h1:Sl 1 xI w v1 x.scope b1):kJ 2 qH w (.agg #[.int .i64 x.rel,v1]) x (b1):=
  ⟨[.int .i64 x.rel,v1],rfl,rfl,_,_,rfl,h0,rfl,h1,rfl⟩
structure Instance where
  vars:Int
  cons:List Con
instance:Inhabited Instance:=⟨⟨0,[]⟩⟩
def xK:ER Instance:=fun w f x bs=>∃ v1:Value,∃ b1:List Nat,f 0=some (.int .i64 x.vars)∧xO x.vars∧f 1=some v1∧Sl 2 qH w v1 x.cons b1∧bs=b1
theorem xK.fr:Fr 2 xK:=by
  intro w w' f g x bs h hs hg;obtain⟨v1,b1,h0,k0,h1,k1,rfl⟩:=h;exact⟨v1,_,(hg 0 (by omega)).trans h0,k0,(hg 1 (by omega)).trans h1,k1.same qH.fr (fun c hc=>hs c (by simp [hc])),rfl⟩
theorem xK.open {w:World} {v:Value} {x:Instance} {bs:List Nat} (h:kJ 2 xK w v x bs):∃ v1:Value,∃ b1:List Nat,v= .agg #[.int .i64 x.vars,v1]∧xO x.vars∧Sl 2 qH w v1 x.cons b1∧bs=b1:=by
  obtain⟨cs,hl,rfl,v1,b1,h0,k0,h1,k1,rfl⟩:=h
  match cs,hl with
  | [c0,c1],_=>
    obtain rfl:=Option.some.inj h0;obtain rfl:=Option.some.inj h1;exact⟨_,_,rfl,k0,k1,rfl⟩
theorem xK.mk' {w:World} {x:Instance} {v1:Value} {b1:List Nat} (h0:xO x.vars) (h1:Sl 2 qH w v1 x.cons b1):kJ 2 xK w (.agg #[.int .i64 x.vars,v1]) x (b1):=
  ⟨[.int .i64 x.vars,v1],rfl,rfl,_,_,rfl,h0,rfl,h1,rfl⟩
structure ArcStep where
  var:Int
  value:Int
  con:Int
instance:Inhabited ArcStep:=⟨⟨0,0,0⟩⟩
def oU:ER ArcStep:=fun w f x bs=>f 0=some (.int .i64 x.var)∧xO x.var∧f 1=some (.int .i64 x.value)∧xO x.value∧f 2=some (.int .i64 x.con)∧xO x.con∧bs=[]
theorem oU.fr:Fr 3 oU:=by
  intro w w' f g x bs h _ hg;obtain⟨h0,k0,h1,k1,h2,k2,rfl⟩:=h;exact⟨(hg 0 (by omega)).trans h0,k0,(hg 1 (by omega)).trans h1,k1,(hg 2 (by omega)).trans h2,k2,rfl⟩
theorem oU.open {w:World} {v:Value} {x:ArcStep} {bs:List Nat} (h:kJ 3 oU w v x bs):v= .agg #[.int .i64 x.var,.int .i64 x.value,.int .i64 x.con]∧xO x.var∧xO x.value∧xO x.con∧bs=[]:=by
  obtain⟨cs,hl,rfl,h0,k0,h1,k1,h2,k2,rfl⟩:=h
  match cs,hl with
  | [c0,c1,c2],_=>
    obtain rfl:=Option.some.inj h0;obtain rfl:=Option.some.inj h1;obtain rfl:=Option.some.inj h2;exact⟨rfl,k0,k1,k2,rfl⟩
theorem oU.mk' {w:World} {x:ArcStep}  (h0:xO x.var) (h1:xO x.value) (h2:xO x.con):kJ 3 oU w (.agg #[.int .i64 x.var,.int .i64 x.value,.int .i64 x.con]) x ([]):=
  ⟨[.int .i64 x.var,.int .i64 x.value,.int .i64 x.con],rfl,rfl,rfl,h0,rfl,h1,rfl,h2,rfl⟩
structure PairStep where
  i:Int
  j:Int
  through:Int
instance:Inhabited PairStep:=⟨⟨0,0,0⟩⟩
def zN:ER PairStep:=fun w f x bs=>f 0=some (.int .i64 x.i)∧xO x.i∧f 1=some (.int .i64 x.j)∧xO x.j∧f 2=some (.int .i64 x.through)∧xO x.through∧bs=[]
theorem zN.fr:Fr 3 zN:=by
  intro w w' f g x bs h _ hg;obtain⟨h0,k0,h1,k1,h2,k2,rfl⟩:=h;exact⟨(hg 0 (by omega)).trans h0,k0,(hg 1 (by omega)).trans h1,k1,(hg 2 (by omega)).trans h2,k2,rfl⟩
theorem zN.mk' {w:World} {x:PairStep}  (h0:xO x.i) (h1:xO x.j) (h2:xO x.through):kJ 3 zN w (.agg #[.int .i64 x.i,.int .i64 x.j,.int .i64 x.through]) x ([]):=
  ⟨[.int .i64 x.i,.int .i64 x.j,.int .i64 x.through],rfl,rfl,rfl,h0,rfl,h1,rfl,h2,rfl⟩
structure Verdict where
  kind:Int
  values:List Int
  arcs:List ArcStep
  pairs:List PairStep
  numbers:List Int
instance:Inhabited Verdict:=⟨⟨0,[],[],[],[]⟩⟩
def aZ:ER Verdict:=fun w f x bs=>∃ v1 v2 v3 v4:Value,∃ b1 b2 b3 b4:List Nat,f 0=some (.int .i64 x.kind)∧xO x.kind∧f 1=some v1∧Sl 1 xI w v1 x.values b1∧f 2=some v2∧Sl 3 oU w v2 x.arcs b2∧f 3=some v3∧Sl 3 zN w v3 x.pairs b3∧f 4=some v4∧Sl 1 xI w v4 x.numbers b4∧bs=b1++b2++b3++b4
theorem aZ.fr:Fr 5 aZ:=by
  intro w w' f g x bs h hs hg;obtain⟨v1,v2,v3,v4,b1,b2,b3,b4,h0,k0,h1,k1,h2,k2,h3,k3,h4,k4,rfl⟩:=h;exact⟨v1,v2,v3,v4,_,_,_,_,(hg 0 (by omega)).trans h0,k0,(hg 1 (by omega)).trans h1,k1.same xI.fr (fun c hc=>hs c (by simp [hc])),(hg 2 (by omega)).trans h2,k2.same oU.fr (fun c hc=>hs c (by simp [hc])),(hg 3 (by omega)).trans h3,k3.same zN.fr (fun c hc=>hs c (by simp [hc])),(hg 4 (by omega)).trans h4,k4.same xI.fr (fun c hc=>hs c (by simp [hc])),rfl⟩
theorem aZ.mk' {w:World} {x:Verdict} {v1:Value} {b1:List Nat} {v2:Value} {b2:List Nat} {v3:Value} {b3:List Nat} {v4:Value} {b4:List Nat} (h0:xO x.kind) (h1:Sl 1 xI w v1 x.values b1) (h2:Sl 3 oU w v2 x.arcs b2) (h3:Sl 3 zN w v3 x.pairs b3) (h4:Sl 1 xI w v4 x.numbers b4):kJ 5 aZ w (.agg #[.int .i64 x.kind,v1,v2,v3,v4]) x (b1++b2++b3++b4):=
  ⟨[.int .i64 x.kind,v1,v2,v3,v4],rfl,rfl,_,_,_,_,_,_,_,_,rfl,h0,rfl,h1,rfl,h2,rfl,h3,rfl,h4,rfl⟩
structure Equation where
  left:List Int
  right:Int
instance:Inhabited Equation:=⟨⟨[],0⟩⟩
def aH:ER Equation:=fun w f x bs=>∃ v0:Value,∃ b0:List Nat,f 0=some v0∧Sl 1 xI w v0 x.left b0∧f 1=some (.int .i64 x.right)∧xO x.right∧bs=b0
theorem aH.fr:Fr 2 aH:=by
  intro w w' f g x bs h hs hg;obtain⟨v0,b0,h0,k0,h1,k1,rfl⟩:=h;exact⟨v0,_,(hg 0 (by omega)).trans h0,k0.same xI.fr (fun c hc=>hs c (by simp [hc])),(hg 1 (by omega)).trans h1,k1,rfl⟩
theorem aH.mk' {w:World} {x:Equation} {v0:Value} {b0:List Nat} (h0:Sl 1 xI w v0 x.left b0) (h1:xO x.right):kJ 2 aH w (.agg #[v0,.int .i64 x.right]) x (b0):=
  ⟨[v0,.int .i64 x.right],rfl,rfl,_,_,rfl,h0,rfl,h1,rfl⟩
structure Line where
  kind:Int
  var:Int
  value:Int
  con:Int
instance:Inhabited Line:=⟨⟨0,0,0,0⟩⟩
def oP:ER Line:=fun w f x bs=>f 0=some (.int .i64 x.kind)∧xO x.kind∧f 1=some (.int .i64 x.var)∧xO x.var∧f 2=some (.int .i64 x.value)∧xO x.value∧f 3=some (.int .i64 x.con)∧xO x.con∧bs=[]
theorem oP.fr:Fr 4 oP:=by
  intro w w' f g x bs h _ hg;obtain⟨h0,k0,h1,k1,h2,k2,h3,k3,rfl⟩:=h;exact⟨(hg 0 (by omega)).trans h0,k0,(hg 1 (by omega)).trans h1,k1,(hg 2 (by omega)).trans h2,k2,(hg 3 (by omega)).trans h3,k3,rfl⟩
theorem oP.open {w:World} {v:Value} {x:Line} {bs:List Nat} (h:kJ 4 oP w v x bs):v= .agg #[.int .i64 x.kind,.int .i64 x.var,.int .i64 x.value,.int .i64 x.con]∧xO x.kind∧xO x.var∧xO x.value∧xO x.con∧bs=[]:=by
  obtain⟨cs,hl,rfl,h0,k0,h1,k1,h2,k2,h3,k3,rfl⟩:=h
  match cs,hl with
  | [c0,c1,c2,c3],_=>
    obtain rfl:=Option.some.inj h0;obtain rfl:=Option.some.inj h1;obtain rfl:=Option.some.inj h2;obtain rfl:=Option.some.inj h3;exact⟨rfl,k0,k1,k2,k3,rfl⟩
theorem oP.mk' {w:World} {x:Line}  (h0:xO x.kind) (h1:xO x.var) (h2:xO x.value) (h3:xO x.con):kJ 4 oP w (.agg #[.int .i64 x.kind,.int .i64 x.var,.int .i64 x.value,.int .i64 x.con]) x ([]):=
  ⟨[.int .i64 x.kind,.int .i64 x.var,.int .i64 x.value,.int .i64 x.con],rfl,rfl,rfl,h0,rfl,h1,rfl,h2,rfl,h3,rfl⟩
structure Literal where
  var:Int
  value:Int
instance:Inhabited Literal:=⟨⟨0,0⟩⟩
def oE:ER Literal:=fun w f x bs=>f 0=some (.int .i64 x.var)∧xO x.var∧f 1=some (.int .i64 x.value)∧xO x.value∧bs=[]
theorem oE.fr:Fr 2 oE:=by
  intro w w' f g x bs h _ hg;obtain⟨h0,k0,h1,k1,rfl⟩:=h;exact⟨(hg 0 (by omega)).trans h0,k0,(hg 1 (by omega)).trans h1,k1,rfl⟩
theorem oE.open {w:World} {v:Value} {x:Literal} {bs:List Nat} (h:kJ 2 oE w v x bs):v= .agg #[.int .i64 x.var,.int .i64 x.value]∧xO x.var∧xO x.value∧bs=[]:=by
  obtain⟨cs,hl,rfl,h0,k0,h1,k1,rfl⟩:=h
  match cs,hl with
  | [c0,c1],_=>
    obtain rfl:=Option.some.inj h0;obtain rfl:=Option.some.inj h1;exact⟨rfl,k0,k1,rfl⟩
theorem oE.mk' {w:World} {x:Literal}  (h0:xO x.var) (h1:xO x.value):kJ 2 oE w (.agg #[.int .i64 x.var,.int .i64 x.value]) x ([]):=
  ⟨[.int .i64 x.var,.int .i64 x.value],rfl,rfl,rfl,h0,rfl,h1,rfl⟩
structure Gadgets where
  formulas:List Formula
instance:Inhabited Gadgets:=⟨⟨[]⟩⟩
def bA:ER Gadgets:=fun w f x bs=>∃ v0:Value,∃ b0:List Nat,f 0=some v0∧Sl 3 kE w v0 x.formulas b0∧bs=b0
theorem bA.fr:Fr 1 bA:=by
  intro w w' f g x bs h hs hg;obtain⟨v0,b0,h0,k0,rfl⟩:=h;exact⟨v0,_,(hg 0 (by omega)).trans h0,k0.same kE.fr (fun c hc=>hs c (by simp [hc])),rfl⟩
theorem bA.mk' {w:World} {x:Gadgets} {v0:Value} {b0:List Nat} (h0:Sl 3 kE w v0 x.formulas b0):kJ 1 bA w (.agg #[v0]) x (b0):=
  ⟨[v0],rfl,rfl,_,_,rfl,h0,rfl⟩
structure Deed where
  kind:Int
  a:Int
  b:Int
instance:Inhabited Deed:=⟨⟨0,0,0⟩⟩
def iB:ER Deed:=fun w f x bs=>f 0=some (.int .i64 x.kind)∧xO x.kind∧f 1=some (.int .i64 x.a)∧xO x.a∧f 2=some (.int .i64 x.b)∧xO x.b∧bs=[]
theorem iB.fr:Fr 3 iB:=by
  intro w w' f g x bs h _ hg;obtain⟨h0,k0,h1,k1,h2,k2,rfl⟩:=h;exact⟨(hg 0 (by omega)).trans h0,k0,(hg 1 (by omega)).trans h1,k1,(hg 2 (by omega)).trans h2,k2,rfl⟩
theorem iB.mk' {w:World} {x:Deed}  (h0:xO x.kind) (h1:xO x.a) (h2:xO x.b):kJ 3 iB w (.agg #[.int .i64 x.kind,.int .i64 x.a,.int .i64 x.b]) x ([]):=
  ⟨[.int .i64 x.kind,.int .i64 x.a,.int .i64 x.b],rfl,rfl,rfl,h0,rfl,h1,rfl,h2,rfl⟩
end Go.Proofs.YtghihmkhdhjhiaaGreatDoor
