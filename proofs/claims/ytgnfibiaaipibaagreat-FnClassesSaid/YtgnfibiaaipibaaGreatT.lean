import Derived.Test.YtgnfibiaaipibaaGreatB
namespace Go.Proofs.YtgnfibiaaipibaaGreat
set_option linter.unusedVariables false
set_option linter.unusedSimpArgs false
open Go.RowKit
structure Rel where
  arity:Int
  tuples:List (List Int)
instance:Inhabited Rel:=⟨⟨0,[]⟩⟩
def qD:ER Rel:=fun w f x bs=>∃ v1:Value,∃ b1:List Nat,f 0=some (.int .i64 x.arity)∧xZ x.arity∧f 1=some v1∧Sl 1 iH w v1 x.tuples b1∧bs=b1
theorem qD.fr:Fr 2 qD:=by
  intro w w' f g x bs h hs hg;obtain⟨v1,b1,h0,k0,h1,k1,rfl⟩:=h;exact⟨v1,_,(hg 0 (by omega)).trans h0,k0,(hg 1 (by omega)).trans h1,k1.same iH.fr (fun c hc=>hs c (by simp [hc])),rfl⟩
theorem qD.open {w:World} {v:Value} {x:Rel} {bs:List Nat} (h:zX 2 qD w v x bs):∃ v1:Value,∃ b1:List Nat,v= .agg #[.int .i64 x.arity,v1]∧xZ x.arity∧Sl 1 iH w v1 x.tuples b1∧bs=b1:=by
  obtain⟨cs,hl,rfl,v1,b1,h0,k0,h1,k1,rfl⟩:=h
  match cs,hl with
  | [c0,c1],_=>
    obtain rfl:=Option.some.inj h0;obtain rfl:=Option.some.inj h1;exact⟨_,_,rfl,k0,k1,rfl⟩
theorem qD.mk' {w:World} {x:Rel} {v1:Value} {b1:List Nat} (h0:xZ x.arity) (h1:Sl 1 iH w v1 x.tuples b1):zX 2 qD w (.agg #[.int .i64 x.arity,v1]) x (b1):=
  ⟨[.int .i64 x.arity,v1],rfl,rfl,_,_,rfl,h0,rfl,h1,rfl⟩
structure Template where
  size:Int
  rels:List Rel
instance:Inhabited Template:=⟨⟨0,[]⟩⟩
def xI:ER Template:=fun w f x bs=>∃ v1:Value,∃ b1:List Nat,f 0=some (.int .i64 x.size)∧xZ x.size∧f 1=some v1∧Sl 2 qD w v1 x.rels b1∧bs=b1
theorem xI.fr:Fr 2 xI:=by
  intro w w' f g x bs h hs hg;obtain⟨v1,b1,h0,k0,h1,k1,rfl⟩:=h;exact⟨v1,_,(hg 0 (by omega)).trans h0,k0,(hg 1 (by omega)).trans h1,k1.same qD.fr (fun c hc=>hs c (by simp [hc])),rfl⟩
theorem xI.open {w:World} {v:Value} {x:Template} {bs:List Nat} (h:zX 2 xI w v x bs):∃ v1:Value,∃ b1:List Nat,v= .agg #[.int .i64 x.size,v1]∧xZ x.size∧Sl 2 qD w v1 x.rels b1∧bs=b1:=by
  obtain⟨cs,hl,rfl,v1,b1,h0,k0,h1,k1,rfl⟩:=h
  match cs,hl with
  | [c0,c1],_=>
    obtain rfl:=Option.some.inj h0;obtain rfl:=Option.some.inj h1;exact⟨_,_,rfl,k0,k1,rfl⟩
theorem xI.mk' {w:World} {x:Template} {v1:Value} {b1:List Nat} (h0:xZ x.size) (h1:Sl 2 qD w v1 x.rels b1):zX 2 xI w (.agg #[.int .i64 x.size,v1]) x (b1):=
  ⟨[.int .i64 x.size,v1],rfl,rfl,_,_,rfl,h0,rfl,h1,rfl⟩
structure Op where
  arity:Int
  table:List Int
instance:Inhabited Op:=⟨⟨0,[]⟩⟩
def cS:ER Op:=fun w f x bs=>∃ v1:Value,∃ b1:List Nat,f 0=some (.int .i64 x.arity)∧xZ x.arity∧f 1=some v1∧Sl 1 xH w v1 x.table b1∧bs=b1
theorem cS.fr:Fr 2 cS:=by
  intro w w' f g x bs h hs hg;obtain⟨v1,b1,h0,k0,h1,k1,rfl⟩:=h;exact⟨v1,_,(hg 0 (by omega)).trans h0,k0,(hg 1 (by omega)).trans h1,k1.same xH.fr (fun c hc=>hs c (by simp [hc])),rfl⟩
theorem cS.open {w:World} {v:Value} {x:Op} {bs:List Nat} (h:zX 2 cS w v x bs):∃ v1:Value,∃ b1:List Nat,v= .agg #[.int .i64 x.arity,v1]∧xZ x.arity∧Sl 1 xH w v1 x.table b1∧bs=b1:=by
  obtain⟨cs,hl,rfl,v1,b1,h0,k0,h1,k1,rfl⟩:=h
  match cs,hl with
  | [c0,c1],_=>
    obtain rfl:=Option.some.inj h0;obtain rfl:=Option.some.inj h1;exact⟨_,_,rfl,k0,k1,rfl⟩
theorem cS.mk' {w:World} {x:Op} {v1:Value} {b1:List Nat} (h0:xZ x.arity) (h1:Sl 1 xH w v1 x.table b1):zX 2 cS w (.agg #[.int .i64 x.arity,v1]) x (b1):=
  ⟨[.int .i64 x.arity,v1],rfl,rfl,_,_,rfl,h0,rfl,h1,rfl⟩
structure Atom where
  rel:Int
  args:List Int
instance:Inhabited Atom:=⟨⟨0,[]⟩⟩
def zL:ER Atom:=fun w f x bs=>∃ v1:Value,∃ b1:List Nat,f 0=some (.int .i64 x.rel)∧xZ x.rel∧f 1=some v1∧Sl 1 xH w v1 x.args b1∧bs=b1
theorem zL.fr:Fr 2 zL:=by
  intro w w' f g x bs h hs hg;obtain⟨v1,b1,h0,k0,h1,k1,rfl⟩:=h;exact⟨v1,_,(hg 0 (by omega)).trans h0,k0,(hg 1 (by omega)).trans h1,k1.same xH.fr (fun c hc=>hs c (by simp [hc])),rfl⟩
theorem zL.open {w:World} {v:Value} {x:Atom} {bs:List Nat} (h:zX 2 zL w v x bs):∃ v1:Value,∃ b1:List Nat,v= .agg #[.int .i64 x.rel,v1]∧xZ x.rel∧Sl 1 xH w v1 x.args b1∧bs=b1:=by
  obtain⟨cs,hl,rfl,v1,b1,h0,k0,h1,k1,rfl⟩:=h
  match cs,hl with
  | [c0,c1],_=>
    obtain rfl:=Option.some.inj h0;obtain rfl:=Option.some.inj h1;exact⟨_,_,rfl,k0,k1,rfl⟩
theorem zL.mk' {w:World} {x:Atom} {v1:Value} {b1:List Nat} (h0:xZ x.rel) (h1:Sl 1 xH w v1 x.args b1):zX 2 zL w (.agg #[.int .i64 x.rel,v1]) x (b1):=
  ⟨[.int .i64 x.rel,v1],rfl,rfl,_,_,rfl,h0,rfl,h1,rfl⟩
structure Formula where
  free:Int
  vars:Int
  atoms:List Atom
instance:Inhabited Formula:=⟨⟨0,0,[]⟩⟩
def kP:ER Formula:=fun w f x bs=>∃ v2:Value,∃ b2:List Nat,f 0=some (.int .i64 x.free)∧xZ x.free∧f 1=some (.int .i64 x.vars)∧xZ x.vars∧f 2=some v2∧Sl 2 zL w v2 x.atoms b2∧bs=b2
theorem kP.fr:Fr 3 kP:=by
  intro w w' f g x bs h hs hg;obtain⟨v2,b2,h0,k0,h1,k1,h2,k2,rfl⟩:=h;exact⟨v2,_,(hg 0 (by omega)).trans h0,k0,(hg 1 (by omega)).trans h1,k1,(hg 2 (by omega)).trans h2,k2.same zL.fr (fun c hc=>hs c (by simp [hc])),rfl⟩
theorem kP.mk' {w:World} {x:Formula} {v2:Value} {b2:List Nat} (h0:xZ x.free) (h1:xZ x.vars) (h2:Sl 2 zL w v2 x.atoms b2):zX 3 kP w (.agg #[.int .i64 x.free,.int .i64 x.vars,v2]) x (b2):=
  ⟨[.int .i64 x.free,.int .i64 x.vars,v2],rfl,rfl,_,_,rfl,h0,rfl,h1,rfl,h2,rfl⟩
structure Con where
  rel:Int
  scope:List Int
instance:Inhabited Con:=⟨⟨0,[]⟩⟩
def vU:ER Con:=fun w f x bs=>∃ v1:Value,∃ b1:List Nat,f 0=some (.int .i64 x.rel)∧xZ x.rel∧f 1=some v1∧Sl 1 xH w v1 x.scope b1∧bs=b1
theorem vU.fr:Fr 2 vU:=by
  intro w w' f g x bs h hs hg;obtain⟨v1,b1,h0,k0,h1,k1,rfl⟩:=h;exact⟨v1,_,(hg 0 (by omega)).trans h0,k0,(hg 1 (by omega)).trans h1,k1.same xH.fr (fun c hc=>hs c (by simp [hc])),rfl⟩
theorem vU.open {w:World} {v:Value} {x:Con} {bs:List Nat} (h:zX 2 vU w v x bs):∃ v1:Value,∃ b1:List Nat,v= .agg #[.int .i64 x.rel,v1]∧xZ x.rel∧Sl 1 xH w v1 x.scope b1∧bs=b1:=by
  obtain⟨cs,hl,rfl,v1,b1,h0,k0,h1,k1,rfl⟩:=h
  match cs,hl with
  | [c0,c1],_=>
    obtain rfl:=Option.some.inj h0;obtain rfl:=Option.some.inj h1;exact⟨_,_,rfl,k0,k1,rfl⟩
theorem vU.mk' {w:World} {x:Con} {v1:Value} {b1:List Nat} (h0:xZ x.rel) (h1:Sl 1 xH w v1 x.scope b1):zX 2 vU w (.agg #[.int .i64 x.rel,v1]) x (b1):=
  ⟨[.int .i64 x.rel,v1],rfl,rfl,_,_,rfl,h0,rfl,h1,rfl⟩
structure Instance where
  vars:Int
  cons:List Con
instance:Inhabited Instance:=⟨⟨0,[]⟩⟩
def xO:ER Instance:=fun w f x bs=>∃ v1:Value,∃ b1:List Nat,f 0=some (.int .i64 x.vars)∧xZ x.vars∧f 1=some v1∧Sl 2 vU w v1 x.cons b1∧bs=b1
theorem xO.fr:Fr 2 xO:=by
  intro w w' f g x bs h hs hg;obtain⟨v1,b1,h0,k0,h1,k1,rfl⟩:=h;exact⟨v1,_,(hg 0 (by omega)).trans h0,k0,(hg 1 (by omega)).trans h1,k1.same vU.fr (fun c hc=>hs c (by simp [hc])),rfl⟩
theorem xO.open {w:World} {v:Value} {x:Instance} {bs:List Nat} (h:zX 2 xO w v x bs):∃ v1:Value,∃ b1:List Nat,v= .agg #[.int .i64 x.vars,v1]∧xZ x.vars∧Sl 2 vU w v1 x.cons b1∧bs=b1:=by
  obtain⟨cs,hl,rfl,v1,b1,h0,k0,h1,k1,rfl⟩:=h
  match cs,hl with
  | [c0,c1],_=>
    obtain rfl:=Option.some.inj h0;obtain rfl:=Option.some.inj h1;exact⟨_,_,rfl,k0,k1,rfl⟩
theorem xO.mk' {w:World} {x:Instance} {v1:Value} {b1:List Nat} (h0:xZ x.vars) (h1:Sl 2 vU w v1 x.cons b1):zX 2 xO w (.agg #[.int .i64 x.vars,v1]) x (b1):=
  ⟨[.int .i64 x.vars,v1],rfl,rfl,_,_,rfl,h0,rfl,h1,rfl⟩
structure ArcStep where
  var:Int
  value:Int
  con:Int
instance:Inhabited ArcStep:=⟨⟨0,0,0⟩⟩
def qR:ER ArcStep:=fun w f x bs=>f 0=some (.int .i64 x.var)∧xZ x.var∧f 1=some (.int .i64 x.value)∧xZ x.value∧f 2=some (.int .i64 x.con)∧xZ x.con∧bs=[]
theorem qR.fr:Fr 3 qR:=by
  intro w w' f g x bs h _ hg;obtain⟨h0,k0,h1,k1,h2,k2,rfl⟩:=h;exact⟨(hg 0 (by omega)).trans h0,k0,(hg 1 (by omega)).trans h1,k1,(hg 2 (by omega)).trans h2,k2,rfl⟩
theorem qR.mk' {w:World} {x:ArcStep}  (h0:xZ x.var) (h1:xZ x.value) (h2:xZ x.con):zX 3 qR w (.agg #[.int .i64 x.var,.int .i64 x.value,.int .i64 x.con]) x ([]):=
  ⟨[.int .i64 x.var,.int .i64 x.value,.int .i64 x.con],rfl,rfl,rfl,h0,rfl,h1,rfl,h2,rfl⟩
structure PairStep where
  i:Int
  j:Int
  through:Int
instance:Inhabited PairStep:=⟨⟨0,0,0⟩⟩
def oQ:ER PairStep:=fun w f x bs=>f 0=some (.int .i64 x.i)∧xZ x.i∧f 1=some (.int .i64 x.j)∧xZ x.j∧f 2=some (.int .i64 x.through)∧xZ x.through∧bs=[]
theorem oQ.fr:Fr 3 oQ:=by
  intro w w' f g x bs h _ hg;obtain⟨h0,k0,h1,k1,h2,k2,rfl⟩:=h;exact⟨(hg 0 (by omega)).trans h0,k0,(hg 1 (by omega)).trans h1,k1,(hg 2 (by omega)).trans h2,k2,rfl⟩
theorem oQ.open {w:World} {v:Value} {x:PairStep} {bs:List Nat} (h:zX 3 oQ w v x bs):v= .agg #[.int .i64 x.i,.int .i64 x.j,.int .i64 x.through]∧xZ x.i∧xZ x.j∧xZ x.through∧bs=[]:=by
  obtain⟨cs,hl,rfl,h0,k0,h1,k1,h2,k2,rfl⟩:=h
  match cs,hl with
  | [c0,c1,c2],_=>
    obtain rfl:=Option.some.inj h0;obtain rfl:=Option.some.inj h1;obtain rfl:=Option.some.inj h2;exact⟨rfl,k0,k1,k2,rfl⟩
theorem oQ.mk' {w:World} {x:PairStep}  (h0:xZ x.i) (h1:xZ x.j) (h2:xZ x.through):zX 3 oQ w (.agg #[.int .i64 x.i,.int .i64 x.j,.int .i64 x.through]) x ([]):=
  ⟨[.int .i64 x.i,.int .i64 x.j,.int .i64 x.through],rfl,rfl,rfl,h0,rfl,h1,rfl,h2,rfl⟩
structure Verdict where
  kind:Int
  values:List Int
  arcs:List ArcStep
  pairs:List PairStep
  numbers:List Int
instance:Inhabited Verdict:=⟨⟨0,[],[],[],[]⟩⟩
def bS:ER Verdict:=fun w f x bs=>∃ v1 v2 v3 v4:Value,∃ b1 b2 b3 b4:List Nat,f 0=some (.int .i64 x.kind)∧xZ x.kind∧f 1=some v1∧Sl 1 xH w v1 x.values b1∧f 2=some v2∧Sl 3 qR w v2 x.arcs b2∧f 3=some v3∧Sl 3 oQ w v3 x.pairs b3∧f 4=some v4∧Sl 1 xH w v4 x.numbers b4∧bs=b1++b2++b3++b4
theorem bS.fr:Fr 5 bS:=by
  intro w w' f g x bs h hs hg;obtain⟨v1,v2,v3,v4,b1,b2,b3,b4,h0,k0,h1,k1,h2,k2,h3,k3,h4,k4,rfl⟩:=h;exact⟨v1,v2,v3,v4,_,_,_,_,(hg 0 (by omega)).trans h0,k0,(hg 1 (by omega)).trans h1,k1.same xH.fr (fun c hc=>hs c (by simp [hc])),(hg 2 (by omega)).trans h2,k2.same qR.fr (fun c hc=>hs c (by simp [hc])),(hg 3 (by omega)).trans h3,k3.same oQ.fr (fun c hc=>hs c (by simp [hc])),(hg 4 (by omega)).trans h4,k4.same xH.fr (fun c hc=>hs c (by simp [hc])),rfl⟩
theorem bS.mk' {w:World} {x:Verdict} {v1:Value} {b1:List Nat} {v2:Value} {b2:List Nat} {v3:Value} {b3:List Nat} {v4:Value} {b4:List Nat} (h0:xZ x.kind) (h1:Sl 1 xH w v1 x.values b1) (h2:Sl 3 qR w v2 x.arcs b2) (h3:Sl 3 oQ w v3 x.pairs b3) (h4:Sl 1 xH w v4 x.numbers b4):zX 5 bS w (.agg #[.int .i64 x.kind,v1,v2,v3,v4]) x (b1++b2++b3++b4):=
  ⟨[.int .i64 x.kind,v1,v2,v3,v4],rfl,rfl,_,_,_,_,_,_,_,_,rfl,h0,rfl,h1,rfl,h2,rfl,h3,rfl,h4,rfl⟩
structure Equation where
  left:List Int
  right:Int
instance:Inhabited Equation:=⟨⟨[],0⟩⟩
def zF:ER Equation:=fun w f x bs=>∃ v0:Value,∃ b0:List Nat,f 0=some v0∧Sl 1 xH w v0 x.left b0∧f 1=some (.int .i64 x.right)∧xZ x.right∧bs=b0
theorem zF.fr:Fr 2 zF:=by
  intro w w' f g x bs h hs hg;obtain⟨v0,b0,h0,k0,h1,k1,rfl⟩:=h;exact⟨v0,_,(hg 0 (by omega)).trans h0,k0.same xH.fr (fun c hc=>hs c (by simp [hc])),(hg 1 (by omega)).trans h1,k1,rfl⟩
theorem zF.open {w:World} {v:Value} {x:Equation} {bs:List Nat} (h:zX 2 zF w v x bs):∃ v0:Value,∃ b0:List Nat,v= .agg #[v0,.int .i64 x.right]∧Sl 1 xH w v0 x.left b0∧xZ x.right∧bs=b0:=by
  obtain⟨cs,hl,rfl,v0,b0,h0,k0,h1,k1,rfl⟩:=h
  match cs,hl with
  | [c0,c1],_=>
    obtain rfl:=Option.some.inj h0;obtain rfl:=Option.some.inj h1;exact⟨_,_,rfl,k0,k1,rfl⟩
theorem zF.mk' {w:World} {x:Equation} {v0:Value} {b0:List Nat} (h0:Sl 1 xH w v0 x.left b0) (h1:xZ x.right):zX 2 zF w (.agg #[v0,.int .i64 x.right]) x (b0):=
  ⟨[v0,.int .i64 x.right],rfl,rfl,_,_,rfl,h0,rfl,h1,rfl⟩
structure Line where
  kind:Int
  var:Int
  value:Int
  con:Int
instance:Inhabited Line:=⟨⟨0,0,0,0⟩⟩
def RLine:ER Line:=fun w f x bs=>f 0=some (.int .i64 x.kind)∧xZ x.kind∧f 1=some (.int .i64 x.var)∧xZ x.var∧f 2=some (.int .i64 x.value)∧xZ x.value∧f 3=some (.int .i64 x.con)∧xZ x.con∧bs=[]
theorem RLine.fr:Fr 4 RLine:=by
  intro w w' f g x bs h _ hg;obtain⟨h0,k0,h1,k1,h2,k2,h3,k3,rfl⟩:=h;exact⟨(hg 0 (by omega)).trans h0,k0,(hg 1 (by omega)).trans h1,k1,(hg 2 (by omega)).trans h2,k2,(hg 3 (by omega)).trans h3,k3,rfl⟩
theorem RLine.mk' {w:World} {x:Line}  (h0:xZ x.kind) (h1:xZ x.var) (h2:xZ x.value) (h3:xZ x.con):zX 4 RLine w (.agg #[.int .i64 x.kind,.int .i64 x.var,.int .i64 x.value,.int .i64 x.con]) x ([]):=
  ⟨[.int .i64 x.kind,.int .i64 x.var,.int .i64 x.value,.int .i64 x.con],rfl,rfl,rfl,h0,rfl,h1,rfl,h2,rfl,h3,rfl⟩
structure Literal where
  var:Int
  value:Int
instance:Inhabited Literal:=⟨⟨0,0⟩⟩
def bG:ER Literal:=fun w f x bs=>f 0=some (.int .i64 x.var)∧xZ x.var∧f 1=some (.int .i64 x.value)∧xZ x.value∧bs=[]
theorem bG.fr:Fr 2 bG:=by
  intro w w' f g x bs h _ hg;obtain⟨h0,k0,h1,k1,rfl⟩:=h;exact⟨(hg 0 (by omega)).trans h0,k0,(hg 1 (by omega)).trans h1,k1,rfl⟩
theorem bG.mk' {w:World} {x:Literal}  (h0:xZ x.var) (h1:xZ x.value):zX 2 bG w (.agg #[.int .i64 x.var,.int .i64 x.value]) x ([]):=
  ⟨[.int .i64 x.var,.int .i64 x.value],rfl,rfl,rfl,h0,rfl,h1,rfl⟩
structure Gadgets where
  formulas:List Formula
instance:Inhabited Gadgets:=⟨⟨[]⟩⟩
def bT:ER Gadgets:=fun w f x bs=>∃ v0:Value,∃ b0:List Nat,f 0=some v0∧Sl 3 kP w v0 x.formulas b0∧bs=b0
theorem bT.fr:Fr 1 bT:=by
  intro w w' f g x bs h hs hg;obtain⟨v0,b0,h0,k0,rfl⟩:=h;exact⟨v0,_,(hg 0 (by omega)).trans h0,k0.same kP.fr (fun c hc=>hs c (by simp [hc])),rfl⟩
theorem bT.mk' {w:World} {x:Gadgets} {v0:Value} {b0:List Nat} (h0:Sl 3 kP w v0 x.formulas b0):zX 1 bT w (.agg #[v0]) x (b0):=
  ⟨[v0],rfl,rfl,_,_,rfl,h0,rfl⟩
structure Deed where
  kind:Int
  a:Int
  b:Int
instance:Inhabited Deed:=⟨⟨0,0,0⟩⟩
def RDeed:ER Deed:=fun w f x bs=>f 0=some (.int .i64 x.kind)∧xZ x.kind∧f 1=some (.int .i64 x.a)∧xZ x.a∧f 2=some (.int .i64 x.b)∧xZ x.b∧bs=[]
theorem RDeed.fr:Fr 3 RDeed:=by
  intro w w' f g x bs h _ hg;obtain⟨h0,k0,h1,k1,h2,k2,rfl⟩:=h;exact⟨(hg 0 (by omega)).trans h0,k0,(hg 1 (by omega)).trans h1,k1,(hg 2 (by omega)).trans h2,k2,rfl⟩
theorem RDeed.mk' {w:World} {x:Deed}  (h0:xZ x.kind) (h1:xZ x.a) (h2:xZ x.b):zX 3 RDeed w (.agg #[.int .i64 x.kind,.int .i64 x.a,.int .i64 x.b]) x ([]):=
  ⟨[.int .i64 x.kind,.int .i64 x.a,.int .i64 x.b],rfl,rfl,rfl,h0,rfl,h1,rfl,h2,rfl⟩
end Go.Proofs.YtgnfibiaaipibaaGreat
