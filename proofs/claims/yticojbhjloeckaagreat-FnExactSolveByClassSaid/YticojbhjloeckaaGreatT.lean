import Derived.Test.YticojbhjloeckaaGreatB
namespace Go.Proofs.YticojbhjloeckaaGreat
set_option linter.unusedVariables false
set_option linter.unusedSimpArgs false
open Go.RowKit
structure Rel where
  arity:Int
  tuples:List (List Int)
instance:Inhabited Rel:=⟨⟨0,[]⟩⟩
def oM:ER Rel:=fun w f x bs=>∃ v1:Value,∃ b1:List Nat,f 0=some (.int .i64 x.arity)∧xY x.arity∧f 1=some v1∧Sl 1 zT w v1 x.tuples b1∧bs=b1
theorem oM.fr:Fr 2 oM:=by
  intro w w' f g x bs h hs hg;obtain⟨v1,b1,h0,k0,h1,k1,rfl⟩:=h;exact⟨v1,_,(hg 0 (by omega)).trans h0,k0,(hg 1 (by omega)).trans h1,k1.same zT.fr (fun c hc=>hs c (by simp [hc])),rfl⟩
theorem oM.open {w:World} {v:Value} {x:Rel} {bs:List Nat} (h:zC 2 oM w v x bs):∃ v1:Value,∃ b1:List Nat,v= .agg #[.int .i64 x.arity,v1]∧xY x.arity∧Sl 1 zT w v1 x.tuples b1∧bs=b1:=by
  obtain⟨cs,hl,rfl,v1,b1,h0,k0,h1,k1,rfl⟩:=h
  match cs,hl with
  | [c0,c1],_=>
    obtain rfl:=Option.some.inj h0;obtain rfl:=Option.some.inj h1;exact⟨_,_,rfl,k0,k1,rfl⟩
theorem oM.mk' {w:World} {x:Rel} {v1:Value} {b1:List Nat} (h0:xY x.arity) (h1:Sl 1 zT w v1 x.tuples b1):zC 2 oM w (.agg #[.int .i64 x.arity,v1]) x (b1):=
  ⟨[.int .i64 x.arity,v1],rfl,rfl,_,_,rfl,h0,rfl,h1,rfl⟩
def Rel.sz (x:Rel):Nat:=szS List.length x.tuples
def Rel.cnt (x:Rel):Nat:=zK List.length x.tuples
def Rel.ecnt (x:Rel):Nat:=1+x.cnt
def Rel.emk (x:Rel) (k:Int):Rel:=⟨k,mkS mkInts List.length x.tuples (k+1)⟩
structure Template where
  size:Int
  rels:List Rel
instance:Inhabited Template:=⟨⟨0,[]⟩⟩
def xG:ER Template:=fun w f x bs=>∃ v1:Value,∃ b1:List Nat,f 0=some (.int .i64 x.size)∧xY x.size∧f 1=some v1∧Sl 2 oM w v1 x.rels b1∧bs=b1
theorem xG.fr:Fr 2 xG:=by
  intro w w' f g x bs h hs hg;obtain⟨v1,b1,h0,k0,h1,k1,rfl⟩:=h;exact⟨v1,_,(hg 0 (by omega)).trans h0,k0,(hg 1 (by omega)).trans h1,k1.same oM.fr (fun c hc=>hs c (by simp [hc])),rfl⟩
theorem xG.open {w:World} {v:Value} {x:Template} {bs:List Nat} (h:zC 2 xG w v x bs):∃ v1:Value,∃ b1:List Nat,v= .agg #[.int .i64 x.size,v1]∧xY x.size∧Sl 2 oM w v1 x.rels b1∧bs=b1:=by
  obtain⟨cs,hl,rfl,v1,b1,h0,k0,h1,k1,rfl⟩:=h
  match cs,hl with
  | [c0,c1],_=>
    obtain rfl:=Option.some.inj h0;obtain rfl:=Option.some.inj h1;exact⟨_,_,rfl,k0,k1,rfl⟩
theorem xG.mk' {w:World} {x:Template} {v1:Value} {b1:List Nat} (h0:xY x.size) (h1:Sl 2 oM w v1 x.rels b1):zC 2 xG w (.agg #[.int .i64 x.size,v1]) x (b1):=
  ⟨[.int .i64 x.size,v1],rfl,rfl,_,_,rfl,h0,rfl,h1,rfl⟩
def Template.sz (x:Template):Nat:=szS Rel.sz x.rels
def Template.cnt (x:Template):Nat:=zK Rel.ecnt x.rels
def Template.mkv (x:Template) (k:Int):Template:=⟨x.size,mkS Rel.emk Rel.ecnt x.rels (k)⟩
structure Op where
  arity:Int
  table:List Int
instance:Inhabited Op:=⟨⟨0,[]⟩⟩
def ROp:ER Op:=fun w f x bs=>∃ v1:Value,∃ b1:List Nat,f 0=some (.int .i64 x.arity)∧xY x.arity∧f 1=some v1∧Sl 1 xH w v1 x.table b1∧bs=b1
theorem ROp.fr:Fr 2 ROp:=by
  intro w w' f g x bs h hs hg;obtain⟨v1,b1,h0,k0,h1,k1,rfl⟩:=h;exact⟨v1,_,(hg 0 (by omega)).trans h0,k0,(hg 1 (by omega)).trans h1,k1.same xH.fr (fun c hc=>hs c (by simp [hc])),rfl⟩
theorem ROp.open {w:World} {v:Value} {x:Op} {bs:List Nat} (h:zC 2 ROp w v x bs):∃ v1:Value,∃ b1:List Nat,v= .agg #[.int .i64 x.arity,v1]∧xY x.arity∧Sl 1 xH w v1 x.table b1∧bs=b1:=by
  obtain⟨cs,hl,rfl,v1,b1,h0,k0,h1,k1,rfl⟩:=h
  match cs,hl with
  | [c0,c1],_=>
    obtain rfl:=Option.some.inj h0;obtain rfl:=Option.some.inj h1;exact⟨_,_,rfl,k0,k1,rfl⟩
theorem ROp.mk' {w:World} {x:Op} {v1:Value} {b1:List Nat} (h0:xY x.arity) (h1:Sl 1 xH w v1 x.table b1):zC 2 ROp w (.agg #[.int .i64 x.arity,v1]) x (b1):=
  ⟨[.int .i64 x.arity,v1],rfl,rfl,_,_,rfl,h0,rfl,h1,rfl⟩
structure Atom where
  rel:Int
  args:List Int
instance:Inhabited Atom:=⟨⟨0,[]⟩⟩
def zE:ER Atom:=fun w f x bs=>∃ v1:Value,∃ b1:List Nat,f 0=some (.int .i64 x.rel)∧xY x.rel∧f 1=some v1∧Sl 1 xH w v1 x.args b1∧bs=b1
theorem zE.fr:Fr 2 zE:=by
  intro w w' f g x bs h hs hg;obtain⟨v1,b1,h0,k0,h1,k1,rfl⟩:=h;exact⟨v1,_,(hg 0 (by omega)).trans h0,k0,(hg 1 (by omega)).trans h1,k1.same xH.fr (fun c hc=>hs c (by simp [hc])),rfl⟩
theorem zE.open {w:World} {v:Value} {x:Atom} {bs:List Nat} (h:zC 2 zE w v x bs):∃ v1:Value,∃ b1:List Nat,v= .agg #[.int .i64 x.rel,v1]∧xY x.rel∧Sl 1 xH w v1 x.args b1∧bs=b1:=by
  obtain⟨cs,hl,rfl,v1,b1,h0,k0,h1,k1,rfl⟩:=h
  match cs,hl with
  | [c0,c1],_=>
    obtain rfl:=Option.some.inj h0;obtain rfl:=Option.some.inj h1;exact⟨_,_,rfl,k0,k1,rfl⟩
theorem zE.mk' {w:World} {x:Atom} {v1:Value} {b1:List Nat} (h0:xY x.rel) (h1:Sl 1 xH w v1 x.args b1):zC 2 zE w (.agg #[.int .i64 x.rel,v1]) x (b1):=
  ⟨[.int .i64 x.rel,v1],rfl,rfl,_,_,rfl,h0,rfl,h1,rfl⟩
structure Formula where
  free:Int
  vars:Int
  atoms:List Atom
instance:Inhabited Formula:=⟨⟨0,0,[]⟩⟩
def kA:ER Formula:=fun w f x bs=>∃ v2:Value,∃ b2:List Nat,f 0=some (.int .i64 x.free)∧xY x.free∧f 1=some (.int .i64 x.vars)∧xY x.vars∧f 2=some v2∧Sl 2 zE w v2 x.atoms b2∧bs=b2
theorem kA.fr:Fr 3 kA:=by
  intro w w' f g x bs h hs hg;obtain⟨v2,b2,h0,k0,h1,k1,h2,k2,rfl⟩:=h;exact⟨v2,_,(hg 0 (by omega)).trans h0,k0,(hg 1 (by omega)).trans h1,k1,(hg 2 (by omega)).trans h2,k2.same zE.fr (fun c hc=>hs c (by simp [hc])),rfl⟩
theorem kA.mk' {w:World} {x:Formula} {v2:Value} {b2:List Nat} (h0:xY x.free) (h1:xY x.vars) (h2:Sl 2 zE w v2 x.atoms b2):zC 3 kA w (.agg #[.int .i64 x.free,.int .i64 x.vars,v2]) x (b2):=
  ⟨[.int .i64 x.free,.int .i64 x.vars,v2],rfl,rfl,_,_,rfl,h0,rfl,h1,rfl,h2,rfl⟩
structure Con where
  rel:Int
  scope:List Int
instance:Inhabited Con:=⟨⟨0,[]⟩⟩
def qX:ER Con:=fun w f x bs=>∃ v1:Value,∃ b1:List Nat,f 0=some (.int .i64 x.rel)∧xY x.rel∧f 1=some v1∧Sl 1 xH w v1 x.scope b1∧bs=b1
theorem qX.fr:Fr 2 qX:=by
  intro w w' f g x bs h hs hg;obtain⟨v1,b1,h0,k0,h1,k1,rfl⟩:=h;exact⟨v1,_,(hg 0 (by omega)).trans h0,k0,(hg 1 (by omega)).trans h1,k1.same xH.fr (fun c hc=>hs c (by simp [hc])),rfl⟩
theorem qX.open {w:World} {v:Value} {x:Con} {bs:List Nat} (h:zC 2 qX w v x bs):∃ v1:Value,∃ b1:List Nat,v= .agg #[.int .i64 x.rel,v1]∧xY x.rel∧Sl 1 xH w v1 x.scope b1∧bs=b1:=by
  obtain⟨cs,hl,rfl,v1,b1,h0,k0,h1,k1,rfl⟩:=h
  match cs,hl with
  | [c0,c1],_=>
    obtain rfl:=Option.some.inj h0;obtain rfl:=Option.some.inj h1;exact⟨_,_,rfl,k0,k1,rfl⟩
theorem qX.mk' {w:World} {x:Con} {v1:Value} {b1:List Nat} (h0:xY x.rel) (h1:Sl 1 xH w v1 x.scope b1):zC 2 qX w (.agg #[.int .i64 x.rel,v1]) x (b1):=
  ⟨[.int .i64 x.rel,v1],rfl,rfl,_,_,rfl,h0,rfl,h1,rfl⟩
def Con.sz (x:Con):Nat:=x.scope.length
def Con.cnt (x:Con):Nat:=zK cI x.scope
def Con.ecnt (x:Con):Nat:=1+x.cnt
def Con.emk (x:Con) (k:Int):Con:=⟨k,mkS mkI cI x.scope (k+1)⟩
structure Instance where
  vars:Int
  cons:List Con
instance:Inhabited Instance:=⟨⟨0,[]⟩⟩
def xI:ER Instance:=fun w f x bs=>∃ v1:Value,∃ b1:List Nat,f 0=some (.int .i64 x.vars)∧xY x.vars∧f 1=some v1∧Sl 2 qX w v1 x.cons b1∧bs=b1
theorem xI.fr:Fr 2 xI:=by
  intro w w' f g x bs h hs hg;obtain⟨v1,b1,h0,k0,h1,k1,rfl⟩:=h;exact⟨v1,_,(hg 0 (by omega)).trans h0,k0,(hg 1 (by omega)).trans h1,k1.same qX.fr (fun c hc=>hs c (by simp [hc])),rfl⟩
theorem xI.open {w:World} {v:Value} {x:Instance} {bs:List Nat} (h:zC 2 xI w v x bs):∃ v1:Value,∃ b1:List Nat,v= .agg #[.int .i64 x.vars,v1]∧xY x.vars∧Sl 2 qX w v1 x.cons b1∧bs=b1:=by
  obtain⟨cs,hl,rfl,v1,b1,h0,k0,h1,k1,rfl⟩:=h
  match cs,hl with
  | [c0,c1],_=>
    obtain rfl:=Option.some.inj h0;obtain rfl:=Option.some.inj h1;exact⟨_,_,rfl,k0,k1,rfl⟩
theorem xI.mk' {w:World} {x:Instance} {v1:Value} {b1:List Nat} (h0:xY x.vars) (h1:Sl 2 qX w v1 x.cons b1):zC 2 xI w (.agg #[.int .i64 x.vars,v1]) x (b1):=
  ⟨[.int .i64 x.vars,v1],rfl,rfl,_,_,rfl,h0,rfl,h1,rfl⟩
def Instance.sz (x:Instance):Nat:=szS Con.sz x.cons
def Instance.cnt (x:Instance):Nat:=zK Con.ecnt x.cons
def Instance.mkv (x:Instance) (k:Int):Instance:=⟨x.vars,mkS Con.emk Con.ecnt x.cons (k)⟩
structure ArcStep where
  var:Int
  value:Int
  con:Int
instance:Inhabited ArcStep:=⟨⟨0,0,0⟩⟩
def qM:ER ArcStep:=fun w f x bs=>f 0=some (.int .i64 x.var)∧xY x.var∧f 1=some (.int .i64 x.value)∧xY x.value∧f 2=some (.int .i64 x.con)∧xY x.con∧bs=[]
theorem qM.fr:Fr 3 qM:=by
  intro w w' f g x bs h _ hg;obtain⟨h0,k0,h1,k1,h2,k2,rfl⟩:=h;exact⟨(hg 0 (by omega)).trans h0,k0,(hg 1 (by omega)).trans h1,k1,(hg 2 (by omega)).trans h2,k2,rfl⟩
theorem qM.mk' {w:World} {x:ArcStep}  (h0:xY x.var) (h1:xY x.value) (h2:xY x.con):zC 3 qM w (.agg #[.int .i64 x.var,.int .i64 x.value,.int .i64 x.con]) x ([]):=
  ⟨[.int .i64 x.var,.int .i64 x.value,.int .i64 x.con],rfl,rfl,rfl,h0,rfl,h1,rfl,h2,rfl⟩
structure PairStep where
  i:Int
  j:Int
  through:Int
instance:Inhabited PairStep:=⟨⟨0,0,0⟩⟩
def xZ:ER PairStep:=fun w f x bs=>f 0=some (.int .i64 x.i)∧xY x.i∧f 1=some (.int .i64 x.j)∧xY x.j∧f 2=some (.int .i64 x.through)∧xY x.through∧bs=[]
theorem xZ.fr:Fr 3 xZ:=by
  intro w w' f g x bs h _ hg;obtain⟨h0,k0,h1,k1,h2,k2,rfl⟩:=h;exact⟨(hg 0 (by omega)).trans h0,k0,(hg 1 (by omega)).trans h1,k1,(hg 2 (by omega)).trans h2,k2,rfl⟩
theorem xZ.open {w:World} {v:Value} {x:PairStep} {bs:List Nat} (h:zC 3 xZ w v x bs):v= .agg #[.int .i64 x.i,.int .i64 x.j,.int .i64 x.through]∧xY x.i∧xY x.j∧xY x.through∧bs=[]:=by
  obtain⟨cs,hl,rfl,h0,k0,h1,k1,h2,k2,rfl⟩:=h
  match cs,hl with
  | [c0,c1,c2],_=>
    obtain rfl:=Option.some.inj h0;obtain rfl:=Option.some.inj h1;obtain rfl:=Option.some.inj h2;exact⟨rfl,k0,k1,k2,rfl⟩
theorem xZ.mk' {w:World} {x:PairStep}  (h0:xY x.i) (h1:xY x.j) (h2:xY x.through):zC 3 xZ w (.agg #[.int .i64 x.i,.int .i64 x.j,.int .i64 x.through]) x ([]):=
  ⟨[.int .i64 x.i,.int .i64 x.j,.int .i64 x.through],rfl,rfl,rfl,h0,rfl,h1,rfl,h2,rfl⟩
structure Verdict where
  kind:Int
  values:List Int
  arcs:List ArcStep
  pairs:List PairStep
  numbers:List Int
instance:Inhabited Verdict:=⟨⟨0,[],[],[],[]⟩⟩
def RVerdict:ER Verdict:=fun w f x bs=>∃ v1 v2 v3 v4:Value,∃ b1 b2 b3 b4:List Nat,f 0=some (.int .i64 x.kind)∧xY x.kind∧f 1=some v1∧Sl 1 xH w v1 x.values b1∧f 2=some v2∧Sl 3 qM w v2 x.arcs b2∧f 3=some v3∧Sl 3 xZ w v3 x.pairs b3∧f 4=some v4∧Sl 1 xH w v4 x.numbers b4∧bs=b1++b2++b3++b4
theorem RVerdict.fr:Fr 5 RVerdict:=by
  intro w w' f g x bs h hs hg;obtain⟨v1,v2,v3,v4,b1,b2,b3,b4,h0,k0,h1,k1,h2,k2,h3,k3,h4,k4,rfl⟩:=h;exact⟨v1,v2,v3,v4,_,_,_,_,(hg 0 (by omega)).trans h0,k0,(hg 1 (by omega)).trans h1,k1.same xH.fr (fun c hc=>hs c (by simp [hc])),(hg 2 (by omega)).trans h2,k2.same qM.fr (fun c hc=>hs c (by simp [hc])),(hg 3 (by omega)).trans h3,k3.same xZ.fr (fun c hc=>hs c (by simp [hc])),(hg 4 (by omega)).trans h4,k4.same xH.fr (fun c hc=>hs c (by simp [hc])),rfl⟩
theorem RVerdict.mk' {w:World} {x:Verdict} {v1:Value} {b1:List Nat} {v2:Value} {b2:List Nat} {v3:Value} {b3:List Nat} {v4:Value} {b4:List Nat} (h0:xY x.kind) (h1:Sl 1 xH w v1 x.values b1) (h2:Sl 3 qM w v2 x.arcs b2) (h3:Sl 3 xZ w v3 x.pairs b3) (h4:Sl 1 xH w v4 x.numbers b4):zC 5 RVerdict w (.agg #[.int .i64 x.kind,v1,v2,v3,v4]) x (b1++b2++b3++b4):=
  ⟨[.int .i64 x.kind,v1,v2,v3,v4],rfl,rfl,_,_,_,_,_,_,_,_,rfl,h0,rfl,h1,rfl,h2,rfl,h3,rfl,h4,rfl⟩
structure Equation where
  left:List Int
  right:Int
instance:Inhabited Equation:=⟨⟨[],0⟩⟩
def vZ:ER Equation:=fun w f x bs=>∃ v0:Value,∃ b0:List Nat,f 0=some v0∧Sl 1 xH w v0 x.left b0∧f 1=some (.int .i64 x.right)∧xY x.right∧bs=b0
theorem vZ.fr:Fr 2 vZ:=by
  intro w w' f g x bs h hs hg;obtain⟨v0,b0,h0,k0,h1,k1,rfl⟩:=h;exact⟨v0,_,(hg 0 (by omega)).trans h0,k0.same xH.fr (fun c hc=>hs c (by simp [hc])),(hg 1 (by omega)).trans h1,k1,rfl⟩
theorem vZ.open {w:World} {v:Value} {x:Equation} {bs:List Nat} (h:zC 2 vZ w v x bs):∃ v0:Value,∃ b0:List Nat,v= .agg #[v0,.int .i64 x.right]∧Sl 1 xH w v0 x.left b0∧xY x.right∧bs=b0:=by
  obtain⟨cs,hl,rfl,v0,b0,h0,k0,h1,k1,rfl⟩:=h
  match cs,hl with
  | [c0,c1],_=>
    obtain rfl:=Option.some.inj h0;obtain rfl:=Option.some.inj h1;exact⟨_,_,rfl,k0,k1,rfl⟩
theorem vZ.mk' {w:World} {x:Equation} {v0:Value} {b0:List Nat} (h0:Sl 1 xH w v0 x.left b0) (h1:xY x.right):zC 2 vZ w (.agg #[v0,.int .i64 x.right]) x (b0):=
  ⟨[v0,.int .i64 x.right],rfl,rfl,_,_,rfl,h0,rfl,h1,rfl⟩
structure Line where
  kind:Int
  var:Int
  value:Int
  con:Int
instance:Inhabited Line:=⟨⟨0,0,0,0⟩⟩
def RLine:ER Line:=fun w f x bs=>f 0=some (.int .i64 x.kind)∧xY x.kind∧f 1=some (.int .i64 x.var)∧xY x.var∧f 2=some (.int .i64 x.value)∧xY x.value∧f 3=some (.int .i64 x.con)∧xY x.con∧bs=[]
theorem RLine.fr:Fr 4 RLine:=by
  intro w w' f g x bs h _ hg;obtain⟨h0,k0,h1,k1,h2,k2,h3,k3,rfl⟩:=h;exact⟨(hg 0 (by omega)).trans h0,k0,(hg 1 (by omega)).trans h1,k1,(hg 2 (by omega)).trans h2,k2,(hg 3 (by omega)).trans h3,k3,rfl⟩
theorem RLine.mk' {w:World} {x:Line}  (h0:xY x.kind) (h1:xY x.var) (h2:xY x.value) (h3:xY x.con):zC 4 RLine w (.agg #[.int .i64 x.kind,.int .i64 x.var,.int .i64 x.value,.int .i64 x.con]) x ([]):=
  ⟨[.int .i64 x.kind,.int .i64 x.var,.int .i64 x.value,.int .i64 x.con],rfl,rfl,rfl,h0,rfl,h1,rfl,h2,rfl,h3,rfl⟩
structure Literal where
  var:Int
  value:Int
instance:Inhabited Literal:=⟨⟨0,0⟩⟩
def RLiteral:ER Literal:=fun w f x bs=>f 0=some (.int .i64 x.var)∧xY x.var∧f 1=some (.int .i64 x.value)∧xY x.value∧bs=[]
theorem RLiteral.fr:Fr 2 RLiteral:=by
  intro w w' f g x bs h _ hg;obtain⟨h0,k0,h1,k1,rfl⟩:=h;exact⟨(hg 0 (by omega)).trans h0,k0,(hg 1 (by omega)).trans h1,k1,rfl⟩
theorem RLiteral.mk' {w:World} {x:Literal}  (h0:xY x.var) (h1:xY x.value):zC 2 RLiteral w (.agg #[.int .i64 x.var,.int .i64 x.value]) x ([]):=
  ⟨[.int .i64 x.var,.int .i64 x.value],rfl,rfl,rfl,h0,rfl,h1,rfl⟩
structure Gadgets where
  formulas:List Formula
instance:Inhabited Gadgets:=⟨⟨[]⟩⟩
def RGadgets:ER Gadgets:=fun w f x bs=>∃ v0:Value,∃ b0:List Nat,f 0=some v0∧Sl 3 kA w v0 x.formulas b0∧bs=b0
theorem RGadgets.fr:Fr 1 RGadgets:=by
  intro w w' f g x bs h hs hg;obtain⟨v0,b0,h0,k0,rfl⟩:=h;exact⟨v0,_,(hg 0 (by omega)).trans h0,k0.same kA.fr (fun c hc=>hs c (by simp [hc])),rfl⟩
theorem RGadgets.mk' {w:World} {x:Gadgets} {v0:Value} {b0:List Nat} (h0:Sl 3 kA w v0 x.formulas b0):zC 1 RGadgets w (.agg #[v0]) x (b0):=
  ⟨[v0],rfl,rfl,_,_,rfl,h0,rfl⟩
structure Deed where
  kind:Int
  a:Int
  b:Int
instance:Inhabited Deed:=⟨⟨0,0,0⟩⟩
def RDeed:ER Deed:=fun w f x bs=>f 0=some (.int .i64 x.kind)∧xY x.kind∧f 1=some (.int .i64 x.a)∧xY x.a∧f 2=some (.int .i64 x.b)∧xY x.b∧bs=[]
theorem RDeed.fr:Fr 3 RDeed:=by
  intro w w' f g x bs h _ hg;obtain⟨h0,k0,h1,k1,h2,k2,rfl⟩:=h;exact⟨(hg 0 (by omega)).trans h0,k0,(hg 1 (by omega)).trans h1,k1,(hg 2 (by omega)).trans h2,k2,rfl⟩
theorem RDeed.mk' {w:World} {x:Deed}  (h0:xY x.kind) (h1:xY x.a) (h2:xY x.b):zC 3 RDeed w (.agg #[.int .i64 x.kind,.int .i64 x.a,.int .i64 x.b]) x ([]):=
  ⟨[.int .i64 x.kind,.int .i64 x.a,.int .i64 x.b],rfl,rfl,rfl,h0,rfl,h1,rfl,h2,rfl⟩
end Go.Proofs.YticojbhjloeckaaGreat
