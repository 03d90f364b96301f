import Derived.Test.YtfmnjkpddljdcaaGreatDoorB
namespace Go.Proofs.YtfmnjkpddljdcaaGreatDoor
set_option linter.unusedVariables false
set_option linter.unusedSimpArgs false
open Go.RowKit
structure Rel where
  arity:Int
  tuples:List (List Int)
instance:Inhabited Rel:=⟨⟨0,[]⟩⟩
def vG:ER Rel:=fun w f x bs=>∃ v1:Value,∃ b1:List Nat,f 0=some (.int .i64 x.arity)∧xS x.arity∧f 1=some v1∧Sl 1 eG w v1 x.tuples b1∧bs=b1
theorem vG.fr:Fr 2 vG:=by
  intro w w' f g x bs h hs hg;obtain⟨v1,b1,h0,k0,h1,k1,rfl⟩:=h;exact⟨v1,_,(hg 0 (by omega)).trans h0,k0,(hg 1 (by omega)).trans h1,k1.same eG.fr (fun c hc=>hs c (by simp [hc])),rfl⟩
theorem vG.open {w:World} {v:Value} {x:Rel} {bs:List Nat} (h:aY 2 vG w v x bs):∃ v1:Value,∃ b1:List Nat,v= .agg #[.int .i64 x.arity,v1]∧xS x.arity∧Sl 1 eG w v1 x.tuples b1∧bs=b1:=by
  obtain⟨cs,hl,rfl,v1,b1,h0,k0,h1,k1,rfl⟩:=h
  match cs,hl with
  | [c0,c1],_=>
    obtain rfl:=Option.some.inj h0;obtain rfl:=Option.some.inj h1;exact⟨_,_,rfl,k0,k1,rfl⟩
theorem vG.mk' {w:World} {x:Rel} {v1:Value} {b1:List Nat} (h0:xS x.arity) (h1:Sl 1 eG w v1 x.tuples b1):aY 2 vG w (.agg #[.int .i64 x.arity,v1]) x (b1):=
  ⟨[.int .i64 x.arity,v1],rfl,rfl,_,_,rfl,h0,rfl,h1,rfl⟩
structure Template where
  size:Int
  rels:List Rel
instance:Inhabited Template:=⟨⟨0,[]⟩⟩
def xL:ER Template:=fun w f x bs=>∃ v1:Value,∃ b1:List Nat,f 0=some (.int .i64 x.size)∧xS x.size∧f 1=some v1∧Sl 2 vG w v1 x.rels b1∧bs=b1
theorem xL.fr:Fr 2 xL:=by
  intro w w' f g x bs h hs hg;obtain⟨v1,b1,h0,k0,h1,k1,rfl⟩:=h;exact⟨v1,_,(hg 0 (by omega)).trans h0,k0,(hg 1 (by omega)).trans h1,k1.same vG.fr (fun c hc=>hs c (by simp [hc])),rfl⟩
theorem xL.open {w:World} {v:Value} {x:Template} {bs:List Nat} (h:aY 2 xL w v x bs):∃ v1:Value,∃ b1:List Nat,v= .agg #[.int .i64 x.size,v1]∧xS x.size∧Sl 2 vG w v1 x.rels b1∧bs=b1:=by
  obtain⟨cs,hl,rfl,v1,b1,h0,k0,h1,k1,rfl⟩:=h
  match cs,hl with
  | [c0,c1],_=>
    obtain rfl:=Option.some.inj h0;obtain rfl:=Option.some.inj h1;exact⟨_,_,rfl,k0,k1,rfl⟩
theorem xL.mk' {w:World} {x:Template} {v1:Value} {b1:List Nat} (h0:xS x.size) (h1:Sl 2 vG w v1 x.rels b1):aY 2 xL w (.agg #[.int .i64 x.size,v1]) x (b1):=
  ⟨[.int .i64 x.size,v1],rfl,rfl,_,_,rfl,h0,rfl,h1,rfl⟩
structure Op where
  arity:Int
  table:List Int
instance:Inhabited Op:=⟨⟨0,[]⟩⟩
def ROp:ER Op:=fun w f x bs=>∃ v1:Value,∃ b1:List Nat,f 0=some (.int .i64 x.arity)∧xS x.arity∧f 1=some v1∧Sl 1 xM w v1 x.table b1∧bs=b1
theorem ROp.fr:Fr 2 ROp:=by
  intro w w' f g x bs h hs hg;obtain⟨v1,b1,h0,k0,h1,k1,rfl⟩:=h;exact⟨v1,_,(hg 0 (by omega)).trans h0,k0,(hg 1 (by omega)).trans h1,k1.same xM.fr (fun c hc=>hs c (by simp [hc])),rfl⟩
theorem ROp.mk' {w:World} {x:Op} {v1:Value} {b1:List Nat} (h0:xS x.arity) (h1:Sl 1 xM w v1 x.table b1):aY 2 ROp w (.agg #[.int .i64 x.arity,v1]) x (b1):=
  ⟨[.int .i64 x.arity,v1],rfl,rfl,_,_,rfl,h0,rfl,h1,rfl⟩
structure Atom where
  rel:Int
  args:List Int
instance:Inhabited Atom:=⟨⟨0,[]⟩⟩
def kU:ER Atom:=fun w f x bs=>∃ v1:Value,∃ b1:List Nat,f 0=some (.int .i64 x.rel)∧xS x.rel∧f 1=some v1∧Sl 1 xM w v1 x.args b1∧bs=b1
theorem kU.fr:Fr 2 kU:=by
  intro w w' f g x bs h hs hg;obtain⟨v1,b1,h0,k0,h1,k1,rfl⟩:=h;exact⟨v1,_,(hg 0 (by omega)).trans h0,k0,(hg 1 (by omega)).trans h1,k1.same xM.fr (fun c hc=>hs c (by simp [hc])),rfl⟩
theorem kU.open {w:World} {v:Value} {x:Atom} {bs:List Nat} (h:aY 2 kU w v x bs):∃ v1:Value,∃ b1:List Nat,v= .agg #[.int .i64 x.rel,v1]∧xS x.rel∧Sl 1 xM w v1 x.args b1∧bs=b1:=by
  obtain⟨cs,hl,rfl,v1,b1,h0,k0,h1,k1,rfl⟩:=h
  match cs,hl with
  | [c0,c1],_=>
    obtain rfl:=Option.some.inj h0;obtain rfl:=Option.some.inj h1;exact⟨_,_,rfl,k0,k1,rfl⟩
theorem kU.mk' {w:World} {x:Atom} {v1:Value} {b1:List Nat} (h0:xS x.rel) (h1:Sl 1 xM w v1 x.args b1):aY 2 kU w (.agg #[.int .i64 x.rel,v1]) x (b1):=
  ⟨[.int .i64 x.rel,v1],rfl,rfl,_,_,rfl,h0,rfl,h1,rfl⟩
structure Formula where
  free:Int
  vars:Int
  atoms:List Atom
instance:Inhabited Formula:=⟨⟨0,0,[]⟩⟩
def aL:ER Formula:=fun w f x bs=>∃ v2:Value,∃ b2:List Nat,f 0=some (.int .i64 x.free)∧xS x.free∧f 1=some (.int .i64 x.vars)∧xS x.vars∧f 2=some v2∧Sl 2 kU w v2 x.atoms b2∧bs=b2
theorem aL.fr:Fr 3 aL:=by
  intro w w' f g x bs h hs hg;obtain⟨v2,b2,h0,k0,h1,k1,h2,k2,rfl⟩:=h;exact⟨v2,_,(hg 0 (by omega)).trans h0,k0,(hg 1 (by omega)).trans h1,k1,(hg 2 (by omega)).trans h2,k2.same kU.fr (fun c hc=>hs c (by simp [hc])),rfl⟩
theorem aL.mk' {w:World} {x:Formula} {v2:Value} {b2:List Nat} (h0:xS x.free) (h1:xS x.vars) (h2:Sl 2 kU w v2 x.atoms b2):aY 3 aL w (.agg #[.int .i64 x.free,.int .i64 x.vars,v2]) x (b2):=
  ⟨[.int .i64 x.free,.int .i64 x.vars,v2],rfl,rfl,_,_,rfl,h0,rfl,h1,rfl,h2,rfl⟩
structure Con where
  rel:Int
  scope:List Int
instance:Inhabited Con:=⟨⟨0,[]⟩⟩
def qZ:ER Con:=fun w f x bs=>∃ v1:Value,∃ b1:List Nat,f 0=some (.int .i64 x.rel)∧xS x.rel∧f 1=some v1∧Sl 1 xM w v1 x.scope b1∧bs=b1
theorem qZ.fr:Fr 2 qZ:=by
  intro w w' f g x bs h hs hg;obtain⟨v1,b1,h0,k0,h1,k1,rfl⟩:=h;exact⟨v1,_,(hg 0 (by omega)).trans h0,k0,(hg 1 (by omega)).trans h1,k1.same xM.fr (fun c hc=>hs c (by simp [hc])),rfl⟩
theorem qZ.open {w:World} {v:Value} {x:Con} {bs:List Nat} (h:aY 2 qZ w v x bs):∃ v1:Value,∃ b1:List Nat,v= .agg #[.int .i64 x.rel,v1]∧xS x.rel∧Sl 1 xM w v1 x.scope b1∧bs=b1:=by
  obtain⟨cs,hl,rfl,v1,b1,h0,k0,h1,k1,rfl⟩:=h
  match cs,hl with
  | [c0,c1],_=>
    obtain rfl:=Option.some.inj h0;obtain rfl:=Option.some.inj h1;exact⟨_,_,rfl,k0,k1,rfl⟩
theorem qZ.mk' {w:World} {x:Con} {v1:Value} {b1:List Nat} (h0:xS x.rel) (h1:Sl 1 xM w v1 x.scope b1):aY 2 qZ w (.agg #[.int .i64 x.rel,v1]) x (b1):=
  ⟨[.int .i64 x.rel,v1],rfl,rfl,_,_,rfl,h0,rfl,h1,rfl⟩
structure Instance where
  vars:Int
  cons:List Con
instance:Inhabited Instance:=⟨⟨0,[]⟩⟩
def xO:ER Instance:=fun w f x bs=>∃ v1:Value,∃ b1:List Nat,f 0=some (.int .i64 x.vars)∧xS x.vars∧f 1=some v1∧Sl 2 qZ w v1 x.cons b1∧bs=b1
theorem xO.fr:Fr 2 xO:=by
  intro w w' f g x bs h hs hg;obtain⟨v1,b1,h0,k0,h1,k1,rfl⟩:=h;exact⟨v1,_,(hg 0 (by omega)).trans h0,k0,(hg 1 (by omega)).trans h1,k1.same qZ.fr (fun c hc=>hs c (by simp [hc])),rfl⟩
theorem xO.open {w:World} {v:Value} {x:Instance} {bs:List Nat} (h:aY 2 xO w v x bs):∃ v1:Value,∃ b1:List Nat,v= .agg #[.int .i64 x.vars,v1]∧xS x.vars∧Sl 2 qZ w v1 x.cons b1∧bs=b1:=by
  obtain⟨cs,hl,rfl,v1,b1,h0,k0,h1,k1,rfl⟩:=h
  match cs,hl with
  | [c0,c1],_=>
    obtain rfl:=Option.some.inj h0;obtain rfl:=Option.some.inj h1;exact⟨_,_,rfl,k0,k1,rfl⟩
theorem xO.mk' {w:World} {x:Instance} {v1:Value} {b1:List Nat} (h0:xS x.vars) (h1:Sl 2 qZ w v1 x.cons b1):aY 2 xO w (.agg #[.int .i64 x.vars,v1]) x (b1):=
  ⟨[.int .i64 x.vars,v1],rfl,rfl,_,_,rfl,h0,rfl,h1,rfl⟩
structure ArcStep where
  var:Int
  value:Int
  con:Int
instance:Inhabited ArcStep:=⟨⟨0,0,0⟩⟩
def qR:ER ArcStep:=fun w f x bs=>f 0=some (.int .i64 x.var)∧xS x.var∧f 1=some (.int .i64 x.value)∧xS x.value∧f 2=some (.int .i64 x.con)∧xS x.con∧bs=[]
theorem qR.fr:Fr 3 qR:=by
  intro w w' f g x bs h _ hg;obtain⟨h0,k0,h1,k1,h2,k2,rfl⟩:=h;exact⟨(hg 0 (by omega)).trans h0,k0,(hg 1 (by omega)).trans h1,k1,(hg 2 (by omega)).trans h2,k2,rfl⟩
theorem qR.open {w:World} {v:Value} {x:ArcStep} {bs:List Nat} (h:aY 3 qR w v x bs):v= .agg #[.int .i64 x.var,.int .i64 x.value,.int .i64 x.con]∧xS x.var∧xS x.value∧xS x.con∧bs=[]:=by
  obtain⟨cs,hl,rfl,h0,k0,h1,k1,h2,k2,rfl⟩:=h
  match cs,hl with
  | [c0,c1,c2],_=>
    obtain rfl:=Option.some.inj h0;obtain rfl:=Option.some.inj h1;obtain rfl:=Option.some.inj h2;exact⟨rfl,k0,k1,k2,rfl⟩
theorem qR.mk' {w:World} {x:ArcStep}  (h0:xS x.var) (h1:xS x.value) (h2:xS x.con):aY 3 qR w (.agg #[.int .i64 x.var,.int .i64 x.value,.int .i64 x.con]) x ([]):=
  ⟨[.int .i64 x.var,.int .i64 x.value,.int .i64 x.con],rfl,rfl,rfl,h0,rfl,h1,rfl,h2,rfl⟩
structure PairStep where
  i:Int
  j:Int
  through:Int
instance:Inhabited PairStep:=⟨⟨0,0,0⟩⟩
def kX:ER PairStep:=fun w f x bs=>f 0=some (.int .i64 x.i)∧xS x.i∧f 1=some (.int .i64 x.j)∧xS x.j∧f 2=some (.int .i64 x.through)∧xS x.through∧bs=[]
theorem kX.fr:Fr 3 kX:=by
  intro w w' f g x bs h _ hg;obtain⟨h0,k0,h1,k1,h2,k2,rfl⟩:=h;exact⟨(hg 0 (by omega)).trans h0,k0,(hg 1 (by omega)).trans h1,k1,(hg 2 (by omega)).trans h2,k2,rfl⟩
theorem kX.mk' {w:World} {x:PairStep}  (h0:xS x.i) (h1:xS x.j) (h2:xS x.through):aY 3 kX w (.agg #[.int .i64 x.i,.int .i64 x.j,.int .i64 x.through]) x ([]):=
  ⟨[.int .i64 x.i,.int .i64 x.j,.int .i64 x.through],rfl,rfl,rfl,h0,rfl,h1,rfl,h2,rfl⟩
structure Verdict where
  kind:Int
  values:List Int
  arcs:List ArcStep
  pairs:List PairStep
  numbers:List Int
instance:Inhabited Verdict:=⟨⟨0,[],[],[],[]⟩⟩
def cV:ER Verdict:=fun w f x bs=>∃ v1 v2 v3 v4:Value,∃ b1 b2 b3 b4:List Nat,f 0=some (.int .i64 x.kind)∧xS x.kind∧f 1=some v1∧Sl 1 xM w v1 x.values b1∧f 2=some v2∧Sl 3 qR w v2 x.arcs b2∧f 3=some v3∧Sl 3 kX w v3 x.pairs b3∧f 4=some v4∧Sl 1 xM w v4 x.numbers b4∧bs=b1++b2++b3++b4
theorem cV.fr:Fr 5 cV:=by
  intro w w' f g x bs h hs hg;obtain⟨v1,v2,v3,v4,b1,b2,b3,b4,h0,k0,h1,k1,h2,k2,h3,k3,h4,k4,rfl⟩:=h;exact⟨v1,v2,v3,v4,_,_,_,_,(hg 0 (by omega)).trans h0,k0,(hg 1 (by omega)).trans h1,k1.same xM.fr (fun c hc=>hs c (by simp [hc])),(hg 2 (by omega)).trans h2,k2.same qR.fr (fun c hc=>hs c (by simp [hc])),(hg 3 (by omega)).trans h3,k3.same kX.fr (fun c hc=>hs c (by simp [hc])),(hg 4 (by omega)).trans h4,k4.same xM.fr (fun c hc=>hs c (by simp [hc])),rfl⟩
theorem cV.mk' {w:World} {x:Verdict} {v1:Value} {b1:List Nat} {v2:Value} {b2:List Nat} {v3:Value} {b3:List Nat} {v4:Value} {b4:List Nat} (h0:xS x.kind) (h1:Sl 1 xM w v1 x.values b1) (h2:Sl 3 qR w v2 x.arcs b2) (h3:Sl 3 kX w v3 x.pairs b3) (h4:Sl 1 xM w v4 x.numbers b4):aY 5 cV w (.agg #[.int .i64 x.kind,v1,v2,v3,v4]) x (b1++b2++b3++b4):=
  ⟨[.int .i64 x.kind,v1,v2,v3,v4],rfl,rfl,_,_,_,_,_,_,_,_,rfl,h0,rfl,h1,rfl,h2,rfl,h3,rfl,h4,rfl⟩
structure Equation where
  left:List Int
  right:Int
instance:Inhabited Equation:=⟨⟨[],0⟩⟩
def bV:ER Equation:=fun w f x bs=>∃ v0:Value,∃ b0:List Nat,f 0=some v0∧Sl 1 xM w v0 x.left b0∧f 1=some (.int .i64 x.right)∧xS x.right∧bs=b0
theorem bV.fr:Fr 2 bV:=by
  intro w w' f g x bs h hs hg;obtain⟨v0,b0,h0,k0,h1,k1,rfl⟩:=h;exact⟨v0,_,(hg 0 (by omega)).trans h0,k0.same xM.fr (fun c hc=>hs c (by simp [hc])),(hg 1 (by omega)).trans h1,k1,rfl⟩
theorem bV.mk' {w:World} {x:Equation} {v0:Value} {b0:List Nat} (h0:Sl 1 xM w v0 x.left b0) (h1:xS x.right):aY 2 bV w (.agg #[v0,.int .i64 x.right]) x (b0):=
  ⟨[v0,.int .i64 x.right],rfl,rfl,_,_,rfl,h0,rfl,h1,rfl⟩
structure Line where
  kind:Int
  var:Int
  value:Int
  con:Int
instance:Inhabited Line:=⟨⟨0,0,0,0⟩⟩
def qS:ER Line:=fun w f x bs=>f 0=some (.int .i64 x.kind)∧xS x.kind∧f 1=some (.int .i64 x.var)∧xS x.var∧f 2=some (.int .i64 x.value)∧xS x.value∧f 3=some (.int .i64 x.con)∧xS x.con∧bs=[]
theorem qS.fr:Fr 4 qS:=by
  intro w w' f g x bs h _ hg;obtain⟨h0,k0,h1,k1,h2,k2,h3,k3,rfl⟩:=h;exact⟨(hg 0 (by omega)).trans h0,k0,(hg 1 (by omega)).trans h1,k1,(hg 2 (by omega)).trans h2,k2,(hg 3 (by omega)).trans h3,k3,rfl⟩
theorem qS.open {w:World} {v:Value} {x:Line} {bs:List Nat} (h:aY 4 qS w v x bs):v= .agg #[.int .i64 x.kind,.int .i64 x.var,.int .i64 x.value,.int .i64 x.con]∧xS x.kind∧xS x.var∧xS x.value∧xS x.con∧bs=[]:=by
  obtain⟨cs,hl,rfl,h0,k0,h1,k1,h2,k2,h3,k3,rfl⟩:=h
  match cs,hl with
  | [c0,c1,c2,c3],_=>
    obtain rfl:=Option.some.inj h0;obtain rfl:=Option.some.inj h1;obtain rfl:=Option.some.inj h2;obtain rfl:=Option.some.inj h3;exact⟨rfl,k0,k1,k2,k3,rfl⟩
theorem qS.mk' {w:World} {x:Line}  (h0:xS x.kind) (h1:xS x.var) (h2:xS x.value) (h3:xS x.con):aY 4 qS w (.agg #[.int .i64 x.kind,.int .i64 x.var,.int .i64 x.value,.int .i64 x.con]) x ([]):=
  ⟨[.int .i64 x.kind,.int .i64 x.var,.int .i64 x.value,.int .i64 x.con],rfl,rfl,rfl,h0,rfl,h1,rfl,h2,rfl,h3,rfl⟩
structure Literal where
  var:Int
  value:Int
instance:Inhabited Literal:=⟨⟨0,0⟩⟩
def oU:ER Literal:=fun w f x bs=>f 0=some (.int .i64 x.var)∧xS x.var∧f 1=some (.int .i64 x.value)∧xS x.value∧bs=[]
theorem oU.fr:Fr 2 oU:=by
  intro w w' f g x bs h _ hg;obtain⟨h0,k0,h1,k1,rfl⟩:=h;exact⟨(hg 0 (by omega)).trans h0,k0,(hg 1 (by omega)).trans h1,k1,rfl⟩
theorem oU.open {w:World} {v:Value} {x:Literal} {bs:List Nat} (h:aY 2 oU w v x bs):v= .agg #[.int .i64 x.var,.int .i64 x.value]∧xS x.var∧xS x.value∧bs=[]:=by
  obtain⟨cs,hl,rfl,h0,k0,h1,k1,rfl⟩:=h
  match cs,hl with
  | [c0,c1],_=>
    obtain rfl:=Option.some.inj h0;obtain rfl:=Option.some.inj h1;exact⟨rfl,k0,k1,rfl⟩
theorem oU.mk' {w:World} {x:Literal}  (h0:xS x.var) (h1:xS x.value):aY 2 oU w (.agg #[.int .i64 x.var,.int .i64 x.value]) x ([]):=
  ⟨[.int .i64 x.var,.int .i64 x.value],rfl,rfl,rfl,h0,rfl,h1,rfl⟩
structure Gadgets where
  formulas:List Formula
instance:Inhabited Gadgets:=⟨⟨[]⟩⟩
def cR:ER Gadgets:=fun w f x bs=>∃ v0:Value,∃ b0:List Nat,f 0=some v0∧Sl 3 aL w v0 x.formulas b0∧bs=b0
theorem cR.fr:Fr 1 cR:=by
  intro w w' f g x bs h hs hg;obtain⟨v0,b0,h0,k0,rfl⟩:=h;exact⟨v0,_,(hg 0 (by omega)).trans h0,k0.same aL.fr (fun c hc=>hs c (by simp [hc])),rfl⟩
theorem cR.mk' {w:World} {x:Gadgets} {v0:Value} {b0:List Nat} (h0:Sl 3 aL w v0 x.formulas b0):aY 1 cR w (.agg #[v0]) x (b0):=
  ⟨[v0],rfl,rfl,_,_,rfl,h0,rfl⟩
structure Deed where
  kind:Int
  a:Int
  b:Int
instance:Inhabited Deed:=⟨⟨0,0,0⟩⟩
def lJ:ER Deed:=fun w f x bs=>f 0=some (.int .i64 x.kind)∧xS x.kind∧f 1=some (.int .i64 x.a)∧xS x.a∧f 2=some (.int .i64 x.b)∧xS x.b∧bs=[]
theorem lJ.fr:Fr 3 lJ:=by
  intro w w' f g x bs h _ hg;obtain⟨h0,k0,h1,k1,h2,k2,rfl⟩:=h;exact⟨(hg 0 (by omega)).trans h0,k0,(hg 1 (by omega)).trans h1,k1,(hg 2 (by omega)).trans h2,k2,rfl⟩
theorem lJ.mk' {w:World} {x:Deed}  (h0:xS x.kind) (h1:xS x.a) (h2:xS x.b):aY 3 lJ w (.agg #[.int .i64 x.kind,.int .i64 x.a,.int .i64 x.b]) x ([]):=
  ⟨[.int .i64 x.kind,.int .i64 x.a,.int .i64 x.b],rfl,rfl,rfl,h0,rfl,h1,rfl,h2,rfl⟩
end Go.Proofs.YtfmnjkpddljdcaaGreatDoor
