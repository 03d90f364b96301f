import Derived.Test.YtlommebgedmjdaaGreatDoorB
namespace Go.Proofs.YtlommebgedmjdaaGreatDoor
set_option linter.unusedVariables false
set_option linter.unusedSimpArgs false
open Go.RowKit
structure Rel where
  arity:Int
  tuples:List (List Int)
instance:Inhabited Rel:=⟨⟨0,[]⟩⟩
def oV:ER Rel:=fun w f x bs=>∃ v1:Value,∃ b1:List Nat,f 0=some (.int .i64 x.arity)∧xH x.arity∧f 1=some v1∧Sl 1 dM w v1 x.tuples b1∧bs=b1
theorem oV.fr:Fr 2 oV:=by
  intro w w' f g x bs h hs hg;obtain⟨v1,b1,h0,k0,h1,k1,rfl⟩:=h;exact⟨v1,_,(hg 0 (by omega)).trans h0,k0,(hg 1 (by omega)).trans h1,k1.same dM.fr (fun c hc=>hs c (by simp [hc])),rfl⟩
theorem oV.open {w:World} {v:Value} {x:Rel} {bs:List Nat} (h:qG 2 oV w v x bs):∃ v1:Value,∃ b1:List Nat,v= .agg #[.int .i64 x.arity,v1]∧xH x.arity∧Sl 1 dM w v1 x.tuples b1∧bs=b1:=by
  obtain⟨cs,hl,rfl,v1,b1,h0,k0,h1,k1,rfl⟩:=h
  match cs,hl with
  | [c0,c1],_=>
    obtain rfl:=Option.some.inj h0;obtain rfl:=Option.some.inj h1;exact⟨_,_,rfl,k0,k1,rfl⟩
theorem oV.mk' {w:World} {x:Rel} {v1:Value} {b1:List Nat} (h0:xH x.arity) (h1:Sl 1 dM w v1 x.tuples b1):qG 2 oV w (.agg #[.int .i64 x.arity,v1]) x (b1):=
  ⟨[.int .i64 x.arity,v1],rfl,rfl,_,_,rfl,h0,rfl,h1,rfl⟩
structure Template where
  size:Int
  rels:List Rel
instance:Inhabited Template:=⟨⟨0,[]⟩⟩
def xA:ER Template:=fun w f x bs=>∃ v1:Value,∃ b1:List Nat,f 0=some (.int .i64 x.size)∧xH x.size∧f 1=some v1∧Sl 2 oV w v1 x.rels b1∧bs=b1
theorem xA.fr:Fr 2 xA:=by
  intro w w' f g x bs h hs hg;obtain⟨v1,b1,h0,k0,h1,k1,rfl⟩:=h;exact⟨v1,_,(hg 0 (by omega)).trans h0,k0,(hg 1 (by omega)).trans h1,k1.same oV.fr (fun c hc=>hs c (by simp [hc])),rfl⟩
theorem xA.open {w:World} {v:Value} {x:Template} {bs:List Nat} (h:qG 2 xA w v x bs):∃ v1:Value,∃ b1:List Nat,v= .agg #[.int .i64 x.size,v1]∧xH x.size∧Sl 2 oV w v1 x.rels b1∧bs=b1:=by
  obtain⟨cs,hl,rfl,v1,b1,h0,k0,h1,k1,rfl⟩:=h
  match cs,hl with
  | [c0,c1],_=>
    obtain rfl:=Option.some.inj h0;obtain rfl:=Option.some.inj h1;exact⟨_,_,rfl,k0,k1,rfl⟩
theorem xA.mk' {w:World} {x:Template} {v1:Value} {b1:List Nat} (h0:xH x.size) (h1:Sl 2 oV w v1 x.rels b1):qG 2 xA w (.agg #[.int .i64 x.size,v1]) x (b1):=
  ⟨[.int .i64 x.size,v1],rfl,rfl,_,_,rfl,h0,rfl,h1,rfl⟩
structure Op where
  arity:Int
  table:List Int
instance:Inhabited Op:=⟨⟨0,[]⟩⟩
def ROp:ER Op:=fun w f x bs=>∃ v1:Value,∃ b1:List Nat,f 0=some (.int .i64 x.arity)∧xH x.arity∧f 1=some v1∧Sl 1 xG w v1 x.table b1∧bs=b1
theorem ROp.fr:Fr 2 ROp:=by
  intro w w' f g x bs h hs hg;obtain⟨v1,b1,h0,k0,h1,k1,rfl⟩:=h;exact⟨v1,_,(hg 0 (by omega)).trans h0,k0,(hg 1 (by omega)).trans h1,k1.same xG.fr (fun c hc=>hs c (by simp [hc])),rfl⟩
theorem ROp.open {w:World} {v:Value} {x:Op} {bs:List Nat} (h:qG 2 ROp w v x bs):∃ v1:Value,∃ b1:List Nat,v= .agg #[.int .i64 x.arity,v1]∧xH x.arity∧Sl 1 xG w v1 x.table b1∧bs=b1:=by
  obtain⟨cs,hl,rfl,v1,b1,h0,k0,h1,k1,rfl⟩:=h
  match cs,hl with
  | [c0,c1],_=>
    obtain rfl:=Option.some.inj h0;obtain rfl:=Option.some.inj h1;exact⟨_,_,rfl,k0,k1,rfl⟩
theorem ROp.mk' {w:World} {x:Op} {v1:Value} {b1:List Nat} (h0:xH x.arity) (h1:Sl 1 xG w v1 x.table b1):qG 2 ROp w (.agg #[.int .i64 x.arity,v1]) x (b1):=
  ⟨[.int .i64 x.arity,v1],rfl,rfl,_,_,rfl,h0,rfl,h1,rfl⟩
structure Atom where
  rel:Int
  args:List Int
instance:Inhabited Atom:=⟨⟨0,[]⟩⟩
def xM:ER Atom:=fun w f x bs=>∃ v1:Value,∃ b1:List Nat,f 0=some (.int .i64 x.rel)∧xH x.rel∧f 1=some v1∧Sl 1 xG w v1 x.args b1∧bs=b1
theorem xM.fr:Fr 2 xM:=by
  intro w w' f g x bs h hs hg;obtain⟨v1,b1,h0,k0,h1,k1,rfl⟩:=h;exact⟨v1,_,(hg 0 (by omega)).trans h0,k0,(hg 1 (by omega)).trans h1,k1.same xG.fr (fun c hc=>hs c (by simp [hc])),rfl⟩
theorem xM.open {w:World} {v:Value} {x:Atom} {bs:List Nat} (h:qG 2 xM w v x bs):∃ v1:Value,∃ b1:List Nat,v= .agg #[.int .i64 x.rel,v1]∧xH x.rel∧Sl 1 xG w v1 x.args b1∧bs=b1:=by
  obtain⟨cs,hl,rfl,v1,b1,h0,k0,h1,k1,rfl⟩:=h
  match cs,hl with
  | [c0,c1],_=>
    obtain rfl:=Option.some.inj h0;obtain rfl:=Option.some.inj h1;exact⟨_,_,rfl,k0,k1,rfl⟩
theorem xM.mk' {w:World} {x:Atom} {v1:Value} {b1:List Nat} (h0:xH x.rel) (h1:Sl 1 xG w v1 x.args b1):qG 2 xM w (.agg #[.int .i64 x.rel,v1]) x (b1):=
  ⟨[.int .i64 x.rel,v1],rfl,rfl,_,_,rfl,h0,rfl,h1,rfl⟩
structure Formula where
  free:Int
  vars:Int
  atoms:List Atom
instance:Inhabited Formula:=⟨⟨0,0,[]⟩⟩
def xC:ER Formula:=fun w f x bs=>∃ v2:Value,∃ b2:List Nat,f 0=some (.int .i64 x.free)∧xH x.free∧f 1=some (.int .i64 x.vars)∧xH x.vars∧f 2=some v2∧Sl 2 xM w v2 x.atoms b2∧bs=b2
theorem xC.fr:Fr 3 xC:=by
  intro w w' f g x bs h hs hg;obtain⟨v2,b2,h0,k0,h1,k1,h2,k2,rfl⟩:=h;exact⟨v2,_,(hg 0 (by omega)).trans h0,k0,(hg 1 (by omega)).trans h1,k1,(hg 2 (by omega)).trans h2,k2.same xM.fr (fun c hc=>hs c (by simp [hc])),rfl⟩
theorem xC.open {w:World} {v:Value} {x:Formula} {bs:List Nat} (h:qG 3 xC w v x bs):∃ v2:Value,∃ b2:List Nat,v= .agg #[.int .i64 x.free,.int .i64 x.vars,v2]∧xH x.free∧xH x.vars∧Sl 2 xM w v2 x.atoms b2∧bs=b2:=by
  obtain⟨cs,hl,rfl,v2,b2,h0,k0,h1,k1,h2,k2,rfl⟩:=h
  match cs,hl with
  | [c0,c1,c2],_=>
    obtain rfl:=Option.some.inj h0;obtain rfl:=Option.some.inj h1;obtain rfl:=Option.some.inj h2;exact⟨_,_,rfl,k0,k1,k2,rfl⟩
theorem xC.mk' {w:World} {x:Formula} {v2:Value} {b2:List Nat} (h0:xH x.free) (h1:xH x.vars) (h2:Sl 2 xM w v2 x.atoms b2):qG 3 xC w (.agg #[.int .i64 x.free,.int .i64 x.vars,v2]) x (b2):=
  ⟨[.int .i64 x.free,.int .i64 x.vars,v2],rfl,rfl,_,_,rfl,h0,rfl,h1,rfl,h2,rfl⟩
structure Con where
  rel:Int
  scope:List Int
instance:Inhabited Con:=⟨⟨0,[]⟩⟩
def oU:ER Con:=fun w f x bs=>∃ v1:Value,∃ b1:List Nat,f 0=some (.int .i64 x.rel)∧xH x.rel∧f 1=some v1∧Sl 1 xG w v1 x.scope b1∧bs=b1
theorem oU.fr:Fr 2 oU:=by
  intro w w' f g x bs h hs hg;obtain⟨v1,b1,h0,k0,h1,k1,rfl⟩:=h;exact⟨v1,_,(hg 0 (by omega)).trans h0,k0,(hg 1 (by omega)).trans h1,k1.same xG.fr (fun c hc=>hs c (by simp [hc])),rfl⟩
theorem oU.open {w:World} {v:Value} {x:Con} {bs:List Nat} (h:qG 2 oU w v x bs):∃ v1:Value,∃ b1:List Nat,v= .agg #[.int .i64 x.rel,v1]∧xH x.rel∧Sl 1 xG w v1 x.scope b1∧bs=b1:=by
  obtain⟨cs,hl,rfl,v1,b1,h0,k0,h1,k1,rfl⟩:=h
  match cs,hl with
  | [c0,c1],_=>
    obtain rfl:=Option.some.inj h0;obtain rfl:=Option.some.inj h1;exact⟨_,_,rfl,k0,k1,rfl⟩
theorem oU.mk' {w:World} {x:Con} {v1:Value} {b1:List Nat} (h0:xH x.rel) (h1:Sl 1 xG w v1 x.scope b1):qG 2 oU w (.agg #[.int .i64 x.rel,v1]) x (b1):=
  ⟨[.int .i64 x.rel,v1],rfl,rfl,_,_,rfl,h0,rfl,h1,rfl⟩
def Con.cnt (x:Con):Nat:=xLo cI x.scope
def Con.ecnt (x:Con):Nat:=1+x.cnt
structure Instance where
  vars:Int
  cons:List Con
instance:Inhabited Instance:=⟨⟨0,[]⟩⟩
def xB:ER Instance:=fun w f x bs=>∃ v1:Value,∃ b1:List Nat,f 0=some (.int .i64 x.vars)∧xH x.vars∧f 1=some v1∧Sl 2 oU w v1 x.cons b1∧bs=b1
theorem xB.fr:Fr 2 xB:=by
  intro w w' f g x bs h hs hg;obtain⟨v1,b1,h0,k0,h1,k1,rfl⟩:=h;exact⟨v1,_,(hg 0 (by omega)).trans h0,k0,(hg 1 (by omega)).trans h1,k1.same oU.fr (fun c hc=>hs c (by simp [hc])),rfl⟩
theorem xB.open {w:World} {v:Value} {x:Instance} {bs:List Nat} (h:qG 2 xB w v x bs):∃ v1:Value,∃ b1:List Nat,v= .agg #[.int .i64 x.vars,v1]∧xH x.vars∧Sl 2 oU w v1 x.cons b1∧bs=b1:=by
  obtain⟨cs,hl,rfl,v1,b1,h0,k0,h1,k1,rfl⟩:=h
  match cs,hl with
  | [c0,c1],_=>
    obtain rfl:=Option.some.inj h0;obtain rfl:=Option.some.inj h1;exact⟨_,_,rfl,k0,k1,rfl⟩
theorem xB.mk' {w:World} {x:Instance} {v1:Value} {b1:List Nat} (h0:xH x.vars) (h1:Sl 2 oU w v1 x.cons b1):qG 2 xB w (.agg #[.int .i64 x.vars,v1]) x (b1):=
  ⟨[.int .i64 x.vars,v1],rfl,rfl,_,_,rfl,h0,rfl,h1,rfl⟩
def Instance.cnt (x:Instance):Nat:=xLo Con.ecnt x.cons
structure ArcStep where
  var:Int
  value:Int
  con:Int
instance:Inhabited ArcStep:=⟨⟨0,0,0⟩⟩
def qP:ER ArcStep:=fun w f x bs=>f 0=some (.int .i64 x.var)∧xH x.var∧f 1=some (.int .i64 x.value)∧xH x.value∧f 2=some (.int .i64 x.con)∧xH x.con∧bs=[]
theorem qP.fr:Fr 3 qP:=by
  intro w w' f g x bs h _ hg;obtain⟨h0,k0,h1,k1,h2,k2,rfl⟩:=h;exact⟨(hg 0 (by omega)).trans h0,k0,(hg 1 (by omega)).trans h1,k1,(hg 2 (by omega)).trans h2,k2,rfl⟩
theorem qP.open {w:World} {v:Value} {x:ArcStep} {bs:List Nat} (h:qG 3 qP w v x bs):v= .agg #[.int .i64 x.var,.int .i64 x.value,.int .i64 x.con]∧xH x.var∧xH x.value∧xH x.con∧bs=[]:=by
  obtain⟨cs,hl,rfl,h0,k0,h1,k1,h2,k2,rfl⟩:=h
  match cs,hl with
  | [c0,c1,c2],_=>
    obtain rfl:=Option.some.inj h0;obtain rfl:=Option.some.inj h1;obtain rfl:=Option.some.inj h2;exact⟨rfl,k0,k1,k2,rfl⟩
theorem qP.mk' {w:World} {x:ArcStep}  (h0:xH x.var) (h1:xH x.value) (h2:xH x.con):qG 3 qP w (.agg #[.int .i64 x.var,.int .i64 x.value,.int .i64 x.con]) x ([]):=
  ⟨[.int .i64 x.var,.int .i64 x.value,.int .i64 x.con],rfl,rfl,rfl,h0,rfl,h1,rfl,h2,rfl⟩
structure PairStep where
  i:Int
  j:Int
  through:Int
instance:Inhabited PairStep:=⟨⟨0,0,0⟩⟩
def oR:ER PairStep:=fun w f x bs=>f 0=some (.int .i64 x.i)∧xH x.i∧f 1=some (.int .i64 x.j)∧xH x.j∧f 2=some (.int .i64 x.through)∧xH x.through∧bs=[]
theorem oR.fr:Fr 3 oR:=by
  intro w w' f g x bs h _ hg;obtain⟨h0,k0,h1,k1,h2,k2,rfl⟩:=h;exact⟨(hg 0 (by omega)).trans h0,k0,(hg 1 (by omega)).trans h1,k1,(hg 2 (by omega)).trans h2,k2,rfl⟩
theorem oR.open {w:World} {v:Value} {x:PairStep} {bs:List Nat} (h:qG 3 oR w v x bs):v= .agg #[.int .i64 x.i,.int .i64 x.j,.int .i64 x.through]∧xH x.i∧xH x.j∧xH x.through∧bs=[]:=by
  obtain⟨cs,hl,rfl,h0,k0,h1,k1,h2,k2,rfl⟩:=h
  match cs,hl with
  | [c0,c1,c2],_=>
    obtain rfl:=Option.some.inj h0;obtain rfl:=Option.some.inj h1;obtain rfl:=Option.some.inj h2;exact⟨rfl,k0,k1,k2,rfl⟩
theorem oR.mk' {w:World} {x:PairStep}  (h0:xH x.i) (h1:xH x.j) (h2:xH x.through):qG 3 oR w (.agg #[.int .i64 x.i,.int .i64 x.j,.int .i64 x.through]) x ([]):=
  ⟨[.int .i64 x.i,.int .i64 x.j,.int .i64 x.through],rfl,rfl,rfl,h0,rfl,h1,rfl,h2,rfl⟩
structure Verdict where
  kind:Int
  values:List Int
  arcs:List ArcStep
  pairs:List PairStep
  numbers:List Int
instance:Inhabited Verdict:=⟨⟨0,[],[],[],[]⟩⟩
def zR:ER Verdict:=fun w f x bs=>∃ v1 v2 v3 v4:Value,∃ b1 b2 b3 b4:List Nat,f 0=some (.int .i64 x.kind)∧xH x.kind∧f 1=some v1∧Sl 1 xG w v1 x.values b1∧f 2=some v2∧Sl 3 qP w v2 x.arcs b2∧f 3=some v3∧Sl 3 oR w v3 x.pairs b3∧f 4=some v4∧Sl 1 xG w v4 x.numbers b4∧bs=b1++b2++b3++b4
theorem zR.fr:Fr 5 zR:=by
  intro w w' f g x bs h hs hg;obtain⟨v1,v2,v3,v4,b1,b2,b3,b4,h0,k0,h1,k1,h2,k2,h3,k3,h4,k4,rfl⟩:=h;exact⟨v1,v2,v3,v4,_,_,_,_,(hg 0 (by omega)).trans h0,k0,(hg 1 (by omega)).trans h1,k1.same xG.fr (fun c hc=>hs c (by simp [hc])),(hg 2 (by omega)).trans h2,k2.same qP.fr (fun c hc=>hs c (by simp [hc])),(hg 3 (by omega)).trans h3,k3.same oR.fr (fun c hc=>hs c (by simp [hc])),(hg 4 (by omega)).trans h4,k4.same xG.fr (fun c hc=>hs c (by simp [hc])),rfl⟩
theorem zR.open {w:World} {v:Value} {x:Verdict} {bs:List Nat} (h:qG 5 zR w v x bs):∃ v1 v2 v3 v4:Value,∃ b1 b2 b3 b4:List Nat,v= .agg #[.int .i64 x.kind,v1,v2,v3,v4]∧xH x.kind∧Sl 1 xG w v1 x.values b1∧Sl 3 qP w v2 x.arcs b2∧Sl 3 oR w v3 x.pairs b3∧Sl 1 xG w v4 x.numbers b4∧bs=b1++b2++b3++b4:=by
  obtain⟨cs,hl,rfl,v1,v2,v3,v4,b1,b2,b3,b4,h0,k0,h1,k1,h2,k2,h3,k3,h4,k4,rfl⟩:=h
  match cs,hl with
  | [c0,c1,c2,c3,c4],_=>
    obtain rfl:=Option.some.inj h0;obtain rfl:=Option.some.inj h1;obtain rfl:=Option.some.inj h2;obtain rfl:=Option.some.inj h3;obtain rfl:=Option.some.inj h4;exact⟨_,_,_,_,_,_,_,_,rfl,k0,k1,k2,k3,k4,rfl⟩
theorem zR.mk' {w:World} {x:Verdict} {v1:Value} {b1:List Nat} {v2:Value} {b2:List Nat} {v3:Value} {b3:List Nat} {v4:Value} {b4:List Nat} (h0:xH x.kind) (h1:Sl 1 xG w v1 x.values b1) (h2:Sl 3 qP w v2 x.arcs b2) (h3:Sl 3 oR w v3 x.pairs b3) (h4:Sl 1 xG w v4 x.numbers b4):qG 5 zR w (.agg #[.int .i64 x.kind,v1,v2,v3,v4]) x (b1++b2++b3++b4):=
  ⟨[.int .i64 x.kind,v1,v2,v3,v4],rfl,rfl,_,_,_,_,_,_,_,_,rfl,h0,rfl,h1,rfl,h2,rfl,h3,rfl,h4,rfl⟩
structure Equation where
  left:List Int
  right:Int
instance:Inhabited Equation:=⟨⟨[],0⟩⟩
def vQ:ER Equation:=fun w f x bs=>∃ v0:Value,∃ b0:List Nat,f 0=some v0∧Sl 1 xG w v0 x.left b0∧f 1=some (.int .i64 x.right)∧xH x.right∧bs=b0
theorem vQ.fr:Fr 2 vQ:=by
  intro w w' f g x bs h hs hg;obtain⟨v0,b0,h0,k0,h1,k1,rfl⟩:=h;exact⟨v0,_,(hg 0 (by omega)).trans h0,k0.same xG.fr (fun c hc=>hs c (by simp [hc])),(hg 1 (by omega)).trans h1,k1,rfl⟩
theorem vQ.open {w:World} {v:Value} {x:Equation} {bs:List Nat} (h:qG 2 vQ w v x bs):∃ v0:Value,∃ b0:List Nat,v= .agg #[v0,.int .i64 x.right]∧Sl 1 xG w v0 x.left b0∧xH x.right∧bs=b0:=by
  obtain⟨cs,hl,rfl,v0,b0,h0,k0,h1,k1,rfl⟩:=h
  match cs,hl with
  | [c0,c1],_=>
    obtain rfl:=Option.some.inj h0;obtain rfl:=Option.some.inj h1;exact⟨_,_,rfl,k0,k1,rfl⟩
theorem vQ.mk' {w:World} {x:Equation} {v0:Value} {b0:List Nat} (h0:Sl 1 xG w v0 x.left b0) (h1:xH x.right):qG 2 vQ w (.agg #[v0,.int .i64 x.right]) x (b0):=
  ⟨[v0,.int .i64 x.right],rfl,rfl,_,_,rfl,h0,rfl,h1,rfl⟩
structure Line where
  kind:Int
  var:Int
  value:Int
  con:Int
instance:Inhabited Line:=⟨⟨0,0,0,0⟩⟩
def fH:ER Line:=fun w f x bs=>f 0=some (.int .i64 x.kind)∧xH x.kind∧f 1=some (.int .i64 x.var)∧xH x.var∧f 2=some (.int .i64 x.value)∧xH x.value∧f 3=some (.int .i64 x.con)∧xH x.con∧bs=[]
theorem fH.fr:Fr 4 fH:=by
  intro w w' f g x bs h _ hg;obtain⟨h0,k0,h1,k1,h2,k2,h3,k3,rfl⟩:=h;exact⟨(hg 0 (by omega)).trans h0,k0,(hg 1 (by omega)).trans h1,k1,(hg 2 (by omega)).trans h2,k2,(hg 3 (by omega)).trans h3,k3,rfl⟩
theorem fH.open {w:World} {v:Value} {x:Line} {bs:List Nat} (h:qG 4 fH w v x bs):v= .agg #[.int .i64 x.kind,.int .i64 x.var,.int .i64 x.value,.int .i64 x.con]∧xH x.kind∧xH x.var∧xH x.value∧xH x.con∧bs=[]:=by
  obtain⟨cs,hl,rfl,h0,k0,h1,k1,h2,k2,h3,k3,rfl⟩:=h
  match cs,hl with
  | [c0,c1,c2,c3],_=>
    obtain rfl:=Option.some.inj h0;obtain rfl:=Option.some.inj h1;obtain rfl:=Option.some.inj h2;obtain rfl:=Option.some.inj h3;exact⟨rfl,k0,k1,k2,k3,rfl⟩
theorem fH.mk' {w:World} {x:Line}  (h0:xH x.kind) (h1:xH x.var) (h2:xH x.value) (h3:xH x.con):qG 4 fH w (.agg #[.int .i64 x.kind,.int .i64 x.var,.int .i64 x.value,.int .i64 x.con]) x ([]):=
  ⟨[.int .i64 x.kind,.int .i64 x.var,.int .i64 x.value,.int .i64 x.con],rfl,rfl,rfl,h0,rfl,h1,rfl,h2,rfl,h3,rfl⟩
structure Literal where
  var:Int
  value:Int
instance:Inhabited Literal:=⟨⟨0,0⟩⟩
def zK:ER Literal:=fun w f x bs=>f 0=some (.int .i64 x.var)∧xH x.var∧f 1=some (.int .i64 x.value)∧xH x.value∧bs=[]
theorem zK.fr:Fr 2 zK:=by
  intro w w' f g x bs h _ hg;obtain⟨h0,k0,h1,k1,rfl⟩:=h;exact⟨(hg 0 (by omega)).trans h0,k0,(hg 1 (by omega)).trans h1,k1,rfl⟩
theorem zK.open {w:World} {v:Value} {x:Literal} {bs:List Nat} (h:qG 2 zK w v x bs):v= .agg #[.int .i64 x.var,.int .i64 x.value]∧xH x.var∧xH x.value∧bs=[]:=by
  obtain⟨cs,hl,rfl,h0,k0,h1,k1,rfl⟩:=h
  match cs,hl with
  | [c0,c1],_=>
    obtain rfl:=Option.some.inj h0;obtain rfl:=Option.some.inj h1;exact⟨rfl,k0,k1,rfl⟩
theorem zK.mk' {w:World} {x:Literal}  (h0:xH x.var) (h1:xH x.value):qG 2 zK w (.agg #[.int .i64 x.var,.int .i64 x.value]) x ([]):=
  ⟨[.int .i64 x.var,.int .i64 x.value],rfl,rfl,rfl,h0,rfl,h1,rfl⟩
structure Gadgets where
  formulas:List Formula
instance:Inhabited Gadgets:=⟨⟨[]⟩⟩
def xJ:ER Gadgets:=fun w f x bs=>∃ v0:Value,∃ b0:List Nat,f 0=some v0∧Sl 3 xC w v0 x.formulas b0∧bs=b0
theorem xJ.fr:Fr 1 xJ:=by
  intro w w' f g x bs h hs hg;obtain⟨v0,b0,h0,k0,rfl⟩:=h;exact⟨v0,_,(hg 0 (by omega)).trans h0,k0.same xC.fr (fun c hc=>hs c (by simp [hc])),rfl⟩
theorem xJ.open {w:World} {v:Value} {x:Gadgets} {bs:List Nat} (h:qG 1 xJ w v x bs):∃ v0:Value,∃ b0:List Nat,v= .agg #[v0]∧Sl 3 xC w v0 x.formulas b0∧bs=b0:=by
  obtain⟨cs,hl,rfl,v0,b0,h0,k0,rfl⟩:=h
  match cs,hl with
  | [c0],_=>
    obtain rfl:=Option.some.inj h0;exact⟨_,_,rfl,k0,rfl⟩
theorem xJ.mk' {w:World} {x:Gadgets} {v0:Value} {b0:List Nat} (h0:Sl 3 xC w v0 x.formulas b0):qG 1 xJ w (.agg #[v0]) x (b0):=
  ⟨[v0],rfl,rfl,_,_,rfl,h0,rfl⟩
structure Deed where
  kind:Int
  a:Int
  b:Int
instance:Inhabited Deed:=⟨⟨0,0,0⟩⟩
def fK:ER Deed:=fun w f x bs=>f 0=some (.int .i64 x.kind)∧xH x.kind∧f 1=some (.int .i64 x.a)∧xH x.a∧f 2=some (.int .i64 x.b)∧xH x.b∧bs=[]
theorem fK.fr:Fr 3 fK:=by
  intro w w' f g x bs h _ hg;obtain⟨h0,k0,h1,k1,h2,k2,rfl⟩:=h;exact⟨(hg 0 (by omega)).trans h0,k0,(hg 1 (by omega)).trans h1,k1,(hg 2 (by omega)).trans h2,k2,rfl⟩
theorem fK.open {w:World} {v:Value} {x:Deed} {bs:List Nat} (h:qG 3 fK w v x bs):v= .agg #[.int .i64 x.kind,.int .i64 x.a,.int .i64 x.b]∧xH x.kind∧xH x.a∧xH x.b∧bs=[]:=by
  obtain⟨cs,hl,rfl,h0,k0,h1,k1,h2,k2,rfl⟩:=h
  match cs,hl with
  | [c0,c1,c2],_=>
    obtain rfl:=Option.some.inj h0;obtain rfl:=Option.some.inj h1;obtain rfl:=Option.some.inj h2;exact⟨rfl,k0,k1,k2,rfl⟩
theorem fK.mk' {w:World} {x:Deed}  (h0:xH x.kind) (h1:xH x.a) (h2:xH x.b):qG 3 fK w (.agg #[.int .i64 x.kind,.int .i64 x.a,.int .i64 x.b]) x ([]):=
  ⟨[.int .i64 x.kind,.int .i64 x.a,.int .i64 x.b],rfl,rfl,rfl,h0,rfl,h1,rfl,h2,rfl⟩
end Go.Proofs.YtlommebgedmjdaaGreatDoor
