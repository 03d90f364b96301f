import Derived.Test.YticojbhjloeckaaGreatNC
import Derived.Test.YticojbhjloeckaaGreatUX
namespace Go.Proofs.YticojbhjloeckaaGreat
set_option linter.unusedVariables false
set_option linter.unusedSimpArgs false
open Go.RowKit
theorem c1I {N:Nat→Prop} {w:World} {T:TypeId} {b:Nat} {x:Int} (K:Bk N w b [.int .i64 x] T) (h:xY x):Bo N w (Pt 1 xH) (.pointer (some ⟨b,0,none⟩)) x:=⟨_,cell1I K.1 h,fun c hc=>by rw[List.mem_singleton] at hc;subst hc;exact K.2⟩
theorem c1S {α:Type} {sz:Nat} {R:ER α} {N:Nat→Prop} {w:World} {T:TypeId} {b:Nat} {v:Value} {x:List α} (K:Bk N w b [v] T) (h:Bo N w (Sl sz R) v x):Bo N w (Pt 1 (vY sz R)) (.pointer (some ⟨b,0,none⟩)) x:=let ⟨_,h1,h2⟩:=h;⟨_,cell1S K.1 h1,fun c hc=>by
  rcases List.mem_cons.1 hc with rfl | hc
  · exact K.2
  · exact h2 c hc⟩
theorem Bo.one {α:Type} {sz:Nat} {R:ER α} {N:Nat→Prop} {w:World} {v:Value} {x:List α} (h:Bo N w (Sl sz R) v x):v.oneCell'=true:=let ⟨_,h1,_⟩:=h;h1.r.one
theorem Bo.pone {α:Type} {sz:Nat} {R:ER α} {N:Nat→Prop} {w:World} {v:Value} {x:α} (h:Bo N w (Pt sz R) v x):v.oneCell'=true:=by
  obtain⟨_,⟨⟨b,o,bi,rfl,_⟩,_⟩,_⟩:=h
  rfl
theorem c1P {α:Type} {sz:Nat} {R:ER α} {N:Nat→Prop} {w:World} {T:TypeId} {b:Nat} {v:Value} {x:α} (K:Bk N w b [v] T) (h:Bo N w (Pt sz R) v x):Bo N w (Pt 1 (RP sz R)) (.pointer (some ⟨b,0,none⟩)) x:=let ⟨_,h1,h2⟩:=h;⟨_,cell1P K.1 h1,fun c hc=>by
  rcases List.mem_cons.1 hc with rfl | hc
  · exact K.2
  · exact h2 c hc⟩
theorem oM.o {N:Nat→Prop} {w:World} {v:Value} {x:Rel} (h:Bo N w (zC 2 oM) v x):∃ v1:Value,v= .agg #[.int .i64 x.arity,v1]∧xY x.arity∧Bo N w (Sl 1 zT) v1 x.tuples:=by
  obtain⟨bs,h1,h2⟩:=h;obtain⟨v1,b1,e,k0,k1,eb⟩:=oM.rd h1;exact⟨v1,e,k0,⟨b1,k1,fun c hc=>h2 c (by rw[eb];simp [hc])⟩⟩
theorem oM.m {N:Nat→Prop} {w:World} {f0:Int} {f1:List (List Int)} {v1:Value} (h0:xY f0) (h1:Bo N w (Sl 1 zT) v1 f1):Bo N w (zC 2 oM) (.agg #[.int .i64 f0,v1]) (Rel.mk f0 f1):=by
  obtain⟨b1,k1,m1⟩:=h1;exact⟨_,oM.mk2 h0 k1,m1⟩
theorem oM.b {N:Nat→Prop} {w:World} {T:TypeId} {b:Nat} {f0:Int} {f1:List (List Int)} {v1:Value} (K:Bk N w b [.int .i64 f0,v1] T) (h0:xY f0) (h1:Bo N w (Sl 1 zT) v1 f1):Bo N w (Pt 2 oM) (.pointer (some ⟨b,0,none⟩)) (Rel.mk f0 f1):=by
  obtain⟨b1,k1,m1⟩:=h1;refine⟨_,oM.blk K.1 h0 k1,fun c hc=>?_⟩
  rcases List.mem_cons.1 hc with rfl | hc
  · exact K.2
  · exact(m1) c hc
theorem oM.w {X:List Nat} {N:Nat→Prop} {w0 w:World} {D:List As} {f0:Int} {f1:List (List Int)} {v1:Value} {E1:TypeId} (h0:xY f0) (H:Sep X N w0 w (rl 1 zT E1 v1 f1::D)):Sep X N w0 w (ow (V:=zC 2 oM) (.agg #[.int .i64 f0,v1]) (Rel.mk f0 f1)::D):=
  H.dt (fun {Y} hP hm=>by
    obtain⟨b1,c1,r1,o1,x1,y1⟩:=hP
    exact⟨_,oM.mk2 h0 r1.rd,(r1.own o1),(fun c hc=>(List.mem_append.1 hc).elim (x1 c) (y1 c))⟩)
theorem xG.o {N:Nat→Prop} {w:World} {v:Value} {x:Template} (h:Bo N w (zC 2 xG) v x):∃ v1:Value,v= .agg #[.int .i64 x.size,v1]∧xY x.size∧Bo N w (Sl 2 oM) v1 x.rels:=by
  obtain⟨bs,h1,h2⟩:=h;obtain⟨v1,b1,e,k0,k1,eb⟩:=xG.rd h1;exact⟨v1,e,k0,⟨b1,k1,fun c hc=>h2 c (by rw[eb];simp [hc])⟩⟩
theorem xG.m {N:Nat→Prop} {w:World} {f0:Int} {f1:List Rel} {v1:Value} (h0:xY f0) (h1:Bo N w (Sl 2 oM) v1 f1):Bo N w (zC 2 xG) (.agg #[.int .i64 f0,v1]) (Template.mk f0 f1):=by
  obtain⟨b1,k1,m1⟩:=h1;exact⟨_,xG.mk2 h0 k1,m1⟩
theorem xG.b {N:Nat→Prop} {w:World} {T:TypeId} {b:Nat} {f0:Int} {f1:List Rel} {v1:Value} (K:Bk N w b [.int .i64 f0,v1] T) (h0:xY f0) (h1:Bo N w (Sl 2 oM) v1 f1):Bo N w (Pt 2 xG) (.pointer (some ⟨b,0,none⟩)) (Template.mk f0 f1):=by
  obtain⟨b1,k1,m1⟩:=h1;refine⟨_,xG.blk K.1 h0 k1,fun c hc=>?_⟩
  rcases List.mem_cons.1 hc with rfl | hc
  · exact K.2
  · exact(m1) c hc
theorem ROp.o {N:Nat→Prop} {w:World} {v:Value} {x:Op} (h:Bo N w (zC 2 ROp) v x):∃ v1:Value,v= .agg #[.int .i64 x.arity,v1]∧xY x.arity∧Bo N w (Sl 1 xH) v1 x.table:=by
  obtain⟨bs,h1,h2⟩:=h;obtain⟨v1,b1,e,k0,k1,eb⟩:=ROp.rd h1;exact⟨v1,e,k0,⟨b1,k1,fun c hc=>h2 c (by rw[eb];simp [hc])⟩⟩
theorem ROp.m {N:Nat→Prop} {w:World} {f0:Int} {f1:List Int} {v1:Value} (h0:xY f0) (h1:Bo N w (Sl 1 xH) v1 f1):Bo N w (zC 2 ROp) (.agg #[.int .i64 f0,v1]) (Op.mk f0 f1):=by
  obtain⟨b1,k1,m1⟩:=h1;exact⟨_,ROp.mk2 h0 k1,m1⟩
theorem ROp.b {N:Nat→Prop} {w:World} {T:TypeId} {b:Nat} {f0:Int} {f1:List Int} {v1:Value} (K:Bk N w b [.int .i64 f0,v1] T) (h0:xY f0) (h1:Bo N w (Sl 1 xH) v1 f1):Bo N w (Pt 2 ROp) (.pointer (some ⟨b,0,none⟩)) (Op.mk f0 f1):=by
  obtain⟨b1,k1,m1⟩:=h1;refine⟨_,ROp.blk K.1 h0 k1,fun c hc=>?_⟩
  rcases List.mem_cons.1 hc with rfl | hc
  · exact K.2
  · exact(m1) c hc
theorem zE.o {N:Nat→Prop} {w:World} {v:Value} {x:Atom} (h:Bo N w (zC 2 zE) v x):∃ v1:Value,v= .agg #[.int .i64 x.rel,v1]∧xY x.rel∧Bo N w (Sl 1 xH) v1 x.args:=by
  obtain⟨bs,h1,h2⟩:=h;obtain⟨v1,b1,e,k0,k1,eb⟩:=zE.rd h1;exact⟨v1,e,k0,⟨b1,k1,fun c hc=>h2 c (by rw[eb];simp [hc])⟩⟩
theorem zE.m {N:Nat→Prop} {w:World} {f0:Int} {f1:List Int} {v1:Value} (h0:xY f0) (h1:Bo N w (Sl 1 xH) v1 f1):Bo N w (zC 2 zE) (.agg #[.int .i64 f0,v1]) (Atom.mk f0 f1):=by
  obtain⟨b1,k1,m1⟩:=h1;exact⟨_,zE.mk2 h0 k1,m1⟩
theorem zE.b {N:Nat→Prop} {w:World} {T:TypeId} {b:Nat} {f0:Int} {f1:List Int} {v1:Value} (K:Bk N w b [.int .i64 f0,v1] T) (h0:xY f0) (h1:Bo N w (Sl 1 xH) v1 f1):Bo N w (Pt 2 zE) (.pointer (some ⟨b,0,none⟩)) (Atom.mk f0 f1):=by
  obtain⟨b1,k1,m1⟩:=h1;refine⟨_,zE.blk K.1 h0 k1,fun c hc=>?_⟩
  rcases List.mem_cons.1 hc with rfl | hc
  · exact K.2
  · exact(m1) c hc
theorem kA.m {N:Nat→Prop} {w:World} {f0:Int} {f1:Int} {f2:List Atom} {v2:Value} (h0:xY f0) (h1:xY f1) (h2:Bo N w (Sl 2 zE) v2 f2):Bo N w (zC 3 kA) (.agg #[.int .i64 f0,.int .i64 f1,v2]) (Formula.mk f0 f1 f2):=by
  obtain⟨b2,k2,m2⟩:=h2;exact⟨_,kA.mk2 h0 h1 k2,m2⟩
theorem kA.b {N:Nat→Prop} {w:World} {T:TypeId} {b:Nat} {f0:Int} {f1:Int} {f2:List Atom} {v2:Value} (K:Bk N w b [.int .i64 f0,.int .i64 f1,v2] T) (h0:xY f0) (h1:xY f1) (h2:Bo N w (Sl 2 zE) v2 f2):Bo N w (Pt 3 kA) (.pointer (some ⟨b,0,none⟩)) (Formula.mk f0 f1 f2):=by
  obtain⟨b2,k2,m2⟩:=h2;refine⟨_,kA.blk K.1 h0 h1 k2,fun c hc=>?_⟩
  rcases List.mem_cons.1 hc with rfl | hc
  · exact K.2
  · exact(m2) c hc
theorem qX.o {N:Nat→Prop} {w:World} {v:Value} {x:Con} (h:Bo N w (zC 2 qX) v x):∃ v1:Value,v= .agg #[.int .i64 x.rel,v1]∧xY x.rel∧Bo N w (Sl 1 xH) v1 x.scope:=by
  obtain⟨bs,h1,h2⟩:=h;obtain⟨v1,b1,e,k0,k1,eb⟩:=qX.rd h1;exact⟨v1,e,k0,⟨b1,k1,fun c hc=>h2 c (by rw[eb];simp [hc])⟩⟩
theorem qX.m {N:Nat→Prop} {w:World} {f0:Int} {f1:List Int} {v1:Value} (h0:xY f0) (h1:Bo N w (Sl 1 xH) v1 f1):Bo N w (zC 2 qX) (.agg #[.int .i64 f0,v1]) (Con.mk f0 f1):=by
  obtain⟨b1,k1,m1⟩:=h1;exact⟨_,qX.mk2 h0 k1,m1⟩
theorem qX.b {N:Nat→Prop} {w:World} {T:TypeId} {b:Nat} {f0:Int} {f1:List Int} {v1:Value} (K:Bk N w b [.int .i64 f0,v1] T) (h0:xY f0) (h1:Bo N w (Sl 1 xH) v1 f1):Bo N w (Pt 2 qX) (.pointer (some ⟨b,0,none⟩)) (Con.mk f0 f1):=by
  obtain⟨b1,k1,m1⟩:=h1;refine⟨_,qX.blk K.1 h0 k1,fun c hc=>?_⟩
  rcases List.mem_cons.1 hc with rfl | hc
  · exact K.2
  · exact(m1) c hc
theorem xI.o {N:Nat→Prop} {w:World} {v:Value} {x:Instance} (h:Bo N w (zC 2 xI) v x):∃ v1:Value,v= .agg #[.int .i64 x.vars,v1]∧xY x.vars∧Bo N w (Sl 2 qX) v1 x.cons:=by
  obtain⟨bs,h1,h2⟩:=h;obtain⟨v1,b1,e,k0,k1,eb⟩:=xI.rd h1;exact⟨v1,e,k0,⟨b1,k1,fun c hc=>h2 c (by rw[eb];simp [hc])⟩⟩
theorem xI.m {N:Nat→Prop} {w:World} {f0:Int} {f1:List Con} {v1:Value} (h0:xY f0) (h1:Bo N w (Sl 2 qX) v1 f1):Bo N w (zC 2 xI) (.agg #[.int .i64 f0,v1]) (Instance.mk f0 f1):=by
  obtain⟨b1,k1,m1⟩:=h1;exact⟨_,xI.mk2 h0 k1,m1⟩
theorem xI.b {N:Nat→Prop} {w:World} {T:TypeId} {b:Nat} {f0:Int} {f1:List Con} {v1:Value} (K:Bk N w b [.int .i64 f0,v1] T) (h0:xY f0) (h1:Bo N w (Sl 2 qX) v1 f1):Bo N w (Pt 2 xI) (.pointer (some ⟨b,0,none⟩)) (Instance.mk f0 f1):=by
  obtain⟨b1,k1,m1⟩:=h1;refine⟨_,xI.blk K.1 h0 k1,fun c hc=>?_⟩
  rcases List.mem_cons.1 hc with rfl | hc
  · exact K.2
  · exact(m1) c hc
theorem qM.m {N:Nat→Prop} {w:World} {f0:Int} {f1:Int} {f2:Int}  (h0:xY f0) (h1:xY f1) (h2:xY f2):Bo N w (zC 3 qM) (.agg #[.int .i64 f0,.int .i64 f1,.int .i64 f2]) (ArcStep.mk f0 f1 f2):=by
  exact⟨_,qM.mk2 h0 h1 h2,fun c hc=>nomatch hc⟩
theorem qM.b {N:Nat→Prop} {w:World} {T:TypeId} {b:Nat} {f0:Int} {f1:Int} {f2:Int}  (K:Bk N w b [.int .i64 f0,.int .i64 f1,.int .i64 f2] T) (h0:xY f0) (h1:xY f1) (h2:xY f2):Bo N w (Pt 3 qM) (.pointer (some ⟨b,0,none⟩)) (ArcStep.mk f0 f1 f2):=by
  refine⟨_,qM.blk K.1 h0 h1 h2,fun c hc=>?_⟩
  rcases List.mem_cons.1 hc with rfl | hc
  · exact K.2
  · exact(fun c hc=>nomatch hc) c hc
instance:Flat qM:=⟨fun _ _ _ _ h=>h.2.2.2.2.2.2⟩
theorem xZ.o {N:Nat→Prop} {w:World} {v:Value} {x:PairStep} (h:Bo N w (zC 3 xZ) v x):v= .agg #[.int .i64 x.i,.int .i64 x.j,.int .i64 x.through]∧xY x.i∧xY x.j∧xY x.through:=by
  obtain⟨bs,h1,h2⟩:=h;obtain⟨e,k0,k1,k2,eb⟩:=xZ.rd h1;exact⟨e,k0,k1,k2⟩
theorem xZ.m {N:Nat→Prop} {w:World} {f0:Int} {f1:Int} {f2:Int}  (h0:xY f0) (h1:xY f1) (h2:xY f2):Bo N w (zC 3 xZ) (.agg #[.int .i64 f0,.int .i64 f1,.int .i64 f2]) (PairStep.mk f0 f1 f2):=by
  exact⟨_,xZ.mk2 h0 h1 h2,fun c hc=>nomatch hc⟩
theorem xZ.b {N:Nat→Prop} {w:World} {T:TypeId} {b:Nat} {f0:Int} {f1:Int} {f2:Int}  (K:Bk N w b [.int .i64 f0,.int .i64 f1,.int .i64 f2] T) (h0:xY f0) (h1:xY f1) (h2:xY f2):Bo N w (Pt 3 xZ) (.pointer (some ⟨b,0,none⟩)) (PairStep.mk f0 f1 f2):=by
  refine⟨_,xZ.blk K.1 h0 h1 h2,fun c hc=>?_⟩
  rcases List.mem_cons.1 hc with rfl | hc
  · exact K.2
  · exact(fun c hc=>nomatch hc) c hc
instance:Flat xZ:=⟨fun _ _ _ _ h=>h.2.2.2.2.2.2⟩
theorem RVerdict.m {N:Nat→Prop} {w:World} {f0:Int} {f1:List Int} {f2:List ArcStep} {f3:List PairStep} {f4:List Int} {v1:Value} {v2:Value} {v3:Value} {v4:Value} (h0:xY f0) (h1:Bo N w (Sl 1 xH) v1 f1) (h2:Bo N w (Sl 3 qM) v2 f2) (h3:Bo N w (Sl 3 xZ) v3 f3) (h4:Bo N w (Sl 1 xH) v4 f4):Bo N w (zC 5 RVerdict) (.agg #[.int .i64 f0,v1,v2,v3,v4]) (Verdict.mk f0 f1 f2 f3 f4):=by
  obtain⟨b1,k1,m1⟩:=h1;obtain⟨b2,k2,m2⟩:=h2;obtain⟨b3,k3,m3⟩:=h3;obtain⟨b4,k4,m4⟩:=h4;exact⟨_,RVerdict.mk2 h0 k1 k2 k3 k4,(fun c hc=>(List.mem_append.1 hc).elim ((fun c hc=>(List.mem_append.1 hc).elim ((fun c hc=>(List.mem_append.1 hc).elim (m1 c) (m2 c)) c) (m3 c)) c) (m4 c))⟩
theorem RVerdict.b {N:Nat→Prop} {w:World} {T:TypeId} {b:Nat} {f0:Int} {f1:List Int} {f2:List ArcStep} {f3:List PairStep} {f4:List Int} {v1:Value} {v2:Value} {v3:Value} {v4:Value} (K:Bk N w b [.int .i64 f0,v1,v2,v3,v4] T) (h0:xY f0) (h1:Bo N w (Sl 1 xH) v1 f1) (h2:Bo N w (Sl 3 qM) v2 f2) (h3:Bo N w (Sl 3 xZ) v3 f3) (h4:Bo N w (Sl 1 xH) v4 f4):Bo N w (Pt 5 RVerdict) (.pointer (some ⟨b,0,none⟩)) (Verdict.mk f0 f1 f2 f3 f4):=by
  obtain⟨b1,k1,m1⟩:=h1;obtain⟨b2,k2,m2⟩:=h2;obtain⟨b3,k3,m3⟩:=h3;obtain⟨b4,k4,m4⟩:=h4;refine⟨_,RVerdict.blk K.1 h0 k1 k2 k3 k4,fun c hc=>?_⟩
  rcases List.mem_cons.1 hc with rfl | hc
  · exact K.2
  · exact((fun c hc=>(List.mem_append.1 hc).elim ((fun c hc=>(List.mem_append.1 hc).elim ((fun c hc=>(List.mem_append.1 hc).elim (m1 c) (m2 c)) c) (m3 c)) c) (m4 c))) c hc
theorem vZ.o {N:Nat→Prop} {w:World} {v:Value} {x:Equation} (h:Bo N w (zC 2 vZ) v x):∃ v0:Value,v= .agg #[v0,.int .i64 x.right]∧Bo N w (Sl 1 xH) v0 x.left∧xY x.right:=by
  obtain⟨bs,h1,h2⟩:=h;obtain⟨v0,b0,e,k0,k1,eb⟩:=vZ.rd h1;exact⟨v0,e,⟨b0,k0,fun c hc=>h2 c (by rw[eb];simp [hc])⟩,k1⟩
theorem vZ.m {N:Nat→Prop} {w:World} {f0:List Int} {f1:Int} {v0:Value} (h0:Bo N w (Sl 1 xH) v0 f0) (h1:xY f1):Bo N w (zC 2 vZ) (.agg #[v0,.int .i64 f1]) (Equation.mk f0 f1):=by
  obtain⟨b0,k0,m0⟩:=h0;exact⟨_,vZ.mk2 k0 h1,m0⟩
theorem vZ.b {N:Nat→Prop} {w:World} {T:TypeId} {b:Nat} {f0:List Int} {f1:Int} {v0:Value} (K:Bk N w b [v0,.int .i64 f1] T) (h0:Bo N w (Sl 1 xH) v0 f0) (h1:xY f1):Bo N w (Pt 2 vZ) (.pointer (some ⟨b,0,none⟩)) (Equation.mk f0 f1):=by
  obtain⟨b0,k0,m0⟩:=h0;refine⟨_,vZ.blk K.1 k0 h1,fun c hc=>?_⟩
  rcases List.mem_cons.1 hc with rfl | hc
  · exact K.2
  · exact(m0) c hc
theorem RLine.m {N:Nat→Prop} {w:World} {f0:Int} {f1:Int} {f2:Int} {f3:Int}  (h0:xY f0) (h1:xY f1) (h2:xY f2) (h3:xY f3):Bo N w (zC 4 RLine) (.agg #[.int .i64 f0,.int .i64 f1,.int .i64 f2,.int .i64 f3]) (Line.mk f0 f1 f2 f3):=by
  exact⟨_,RLine.mk2 h0 h1 h2 h3,fun c hc=>nomatch hc⟩
theorem RLine.b {N:Nat→Prop} {w:World} {T:TypeId} {b:Nat} {f0:Int} {f1:Int} {f2:Int} {f3:Int}  (K:Bk N w b [.int .i64 f0,.int .i64 f1,.int .i64 f2,.int .i64 f3] T) (h0:xY f0) (h1:xY f1) (h2:xY f2) (h3:xY f3):Bo N w (Pt 4 RLine) (.pointer (some ⟨b,0,none⟩)) (Line.mk f0 f1 f2 f3):=by
  refine⟨_,RLine.blk K.1 h0 h1 h2 h3,fun c hc=>?_⟩
  rcases List.mem_cons.1 hc with rfl | hc
  · exact K.2
  · exact(fun c hc=>nomatch hc) c hc
instance:Flat RLine:=⟨fun _ _ _ _ h=>h.2.2.2.2.2.2.2.2⟩
theorem RLiteral.m {N:Nat→Prop} {w:World} {f0:Int} {f1:Int}  (h0:xY f0) (h1:xY f1):Bo N w (zC 2 RLiteral) (.agg #[.int .i64 f0,.int .i64 f1]) (Literal.mk f0 f1):=by
  exact⟨_,RLiteral.mk2 h0 h1,fun c hc=>nomatch hc⟩
theorem RLiteral.b {N:Nat→Prop} {w:World} {T:TypeId} {b:Nat} {f0:Int} {f1:Int}  (K:Bk N w b [.int .i64 f0,.int .i64 f1] T) (h0:xY f0) (h1:xY f1):Bo N w (Pt 2 RLiteral) (.pointer (some ⟨b,0,none⟩)) (Literal.mk f0 f1):=by
  refine⟨_,RLiteral.blk K.1 h0 h1,fun c hc=>?_⟩
  rcases List.mem_cons.1 hc with rfl | hc
  · exact K.2
  · exact(fun c hc=>nomatch hc) c hc
instance:Flat RLiteral:=⟨fun _ _ _ _ h=>h.2.2.2.2⟩
theorem RGadgets.m {N:Nat→Prop} {w:World} {f0:List Formula} {v0:Value} (h0:Bo N w (Sl 3 kA) v0 f0):Bo N w (zC 1 RGadgets) (.agg #[v0]) (Gadgets.mk f0):=by
  obtain⟨b0,k0,m0⟩:=h0;exact⟨_,RGadgets.mk2 k0,m0⟩
theorem RGadgets.b {N:Nat→Prop} {w:World} {T:TypeId} {b:Nat} {f0:List Formula} {v0:Value} (K:Bk N w b [v0] T) (h0:Bo N w (Sl 3 kA) v0 f0):Bo N w (Pt 1 RGadgets) (.pointer (some ⟨b,0,none⟩)) (Gadgets.mk f0):=by
  obtain⟨b0,k0,m0⟩:=h0;refine⟨_,RGadgets.blk K.1 k0,fun c hc=>?_⟩
  rcases List.mem_cons.1 hc with rfl | hc
  · exact K.2
  · exact(m0) c hc
theorem RDeed.m {N:Nat→Prop} {w:World} {f0:Int} {f1:Int} {f2:Int}  (h0:xY f0) (h1:xY f1) (h2:xY f2):Bo N w (zC 3 RDeed) (.agg #[.int .i64 f0,.int .i64 f1,.int .i64 f2]) (Deed.mk f0 f1 f2):=by
  exact⟨_,RDeed.mk2 h0 h1 h2,fun c hc=>nomatch hc⟩
theorem RDeed.b {N:Nat→Prop} {w:World} {T:TypeId} {b:Nat} {f0:Int} {f1:Int} {f2:Int}  (K:Bk N w b [.int .i64 f0,.int .i64 f1,.int .i64 f2] T) (h0:xY f0) (h1:xY f1) (h2:xY f2):Bo N w (Pt 3 RDeed) (.pointer (some ⟨b,0,none⟩)) (Deed.mk f0 f1 f2):=by
  refine⟨_,RDeed.blk K.1 h0 h1 h2,fun c hc=>?_⟩
  rcases List.mem_cons.1 hc with rfl | hc
  · exact K.2
  · exact(fun c hc=>nomatch hc) c hc
instance:Flat RDeed:=⟨fun _ _ _ _ h=>h.2.2.2.2.2.2⟩
theorem zX.m {N:Nat→Prop} {w:World} {f0:Int} {f1:List Rel} {f2:Int} {f3:List (List Atom)} {v1:Value} {v3:Value} (h0:xY f0) (h1:Bo N w (Sl 2 oM) v1 f1) (h2:xY f2) (h3:Bo N w (Sl 1 (vY 2 zE)) v3 f3):Bo N w (zC 4 zX) (.agg #[.int .i64 f0,v1,.int .i64 f2,v3]) (solver.mk (Template.mk f0 f1) f2 f3):=by
  obtain⟨b1,k1,m1⟩:=h1;obtain⟨b3,k3,m3⟩:=h3;exact⟨_,zX.mk2 h0 k1 h2 k3,(fun c hc=>(List.mem_append.1 hc).elim (m1 c) (m3 c))⟩
theorem zX.b {N:Nat→Prop} {w:World} {T:TypeId} {b:Nat} {f0:Int} {f1:List Rel} {f2:Int} {f3:List (List Atom)} {v1:Value} {v3:Value} (K:Bk N w b [.int .i64 f0,v1,.int .i64 f2,v3] T) (h0:xY f0) (h1:Bo N w (Sl 2 oM) v1 f1) (h2:xY f2) (h3:Bo N w (Sl 1 (vY 2 zE)) v3 f3):Bo N w (Pt 4 zX) (.pointer (some ⟨b,0,none⟩)) (solver.mk (Template.mk f0 f1) f2 f3):=by
  obtain⟨b1,k1,m1⟩:=h1;obtain⟨b3,k3,m3⟩:=h3;refine⟨_,zX.blk K.1 h0 k1 h2 k3,fun c hc=>?_⟩
  rcases List.mem_cons.1 hc with rfl | hc
  · exact K.2
  · exact((fun c hc=>(List.mem_append.1 hc).elim (m1 c) (m3 c))) c hc
theorem kD.m {N:Nat→Prop} {w:World} {f0:Template} {f1:Instance} {f2:Int} {f3:List (List Int)} {f4:Int} {v0:Value} {v1:Value} {v3:Value} (h0:Bo N w (Pt 2 xG) v0 f0) (h1:Bo N w (Pt 2 xI) v1 f1) (h2:xY f2) (h3:Bo N w (Sl 1 zT) v3 f3) (h4:xY f4):Bo N w (zC 5 kD) (.agg #[v0,v1,.int .i64 f2,v3,.int .i64 f4]) (l05Find.mk f0 f1 f2 f3 f4):=by
  obtain⟨b0,k0,m0⟩:=h0;obtain⟨b1,k1,m1⟩:=h1;obtain⟨b3,k3,m3⟩:=h3;exact⟨_,kD.mk2 k0 k1 h2 k3 h4,(fun c hc=>(List.mem_append.1 hc).elim ((fun c hc=>(List.mem_append.1 hc).elim (m0 c) (m1 c)) c) (m3 c))⟩
theorem kD.b {N:Nat→Prop} {w:World} {T:TypeId} {b:Nat} {f0:Template} {f1:Instance} {f2:Int} {f3:List (List Int)} {f4:Int} {v0:Value} {v1:Value} {v3:Value} (K:Bk N w b [v0,v1,.int .i64 f2,v3,.int .i64 f4] T) (h0:Bo N w (Pt 2 xG) v0 f0) (h1:Bo N w (Pt 2 xI) v1 f1) (h2:xY f2) (h3:Bo N w (Sl 1 zT) v3 f3) (h4:xY f4):Bo N w (Pt 5 kD) (.pointer (some ⟨b,0,none⟩)) (l05Find.mk f0 f1 f2 f3 f4):=by
  obtain⟨b0,k0,m0⟩:=h0;obtain⟨b1,k1,m1⟩:=h1;obtain⟨b3,k3,m3⟩:=h3;refine⟨_,kD.blk K.1 k0 k1 h2 k3 h4,fun c hc=>?_⟩
  rcases List.mem_cons.1 hc with rfl | hc
  · exact K.2
  · exact((fun c hc=>(List.mem_append.1 hc).elim ((fun c hc=>(List.mem_append.1 hc).elim (m0 c) (m1 c)) c) (m3 c))) c hc
theorem kK.o {N:Nat→Prop} {w:World} {v:Value} {x:told} (h:Bo N w (zC 2 kK) v x):∃ v0:Value,v= .agg #[v0,.int .i64 x.var]∧Bo N w (Sl 1 xH) v0 x.left∧xY x.var:=by
  obtain⟨bs,h1,h2⟩:=h;obtain⟨v0,b0,e,k0,k1,eb⟩:=kK.rd h1;exact⟨v0,e,⟨b0,k0,fun c hc=>h2 c (by rw[eb];simp [hc])⟩,k1⟩
theorem kK.m {N:Nat→Prop} {w:World} {f0:List Int} {f1:Int} {v0:Value} (h0:Bo N w (Sl 1 xH) v0 f0) (h1:xY f1):Bo N w (zC 2 kK) (.agg #[v0,.int .i64 f1]) (told.mk f0 f1):=by
  obtain⟨b0,k0,m0⟩:=h0;exact⟨_,kK.mk2 k0 h1,m0⟩
theorem kK.b {N:Nat→Prop} {w:World} {T:TypeId} {b:Nat} {f0:List Int} {f1:Int} {v0:Value} (K:Bk N w b [v0,.int .i64 f1] T) (h0:Bo N w (Sl 1 xH) v0 f0) (h1:xY f1):Bo N w (Pt 2 kK) (.pointer (some ⟨b,0,none⟩)) (told.mk f0 f1):=by
  obtain⟨b0,k0,m0⟩:=h0;refine⟨_,kK.blk K.1 k0 h1,fun c hc=>?_⟩
  rcases List.mem_cons.1 hc with rfl | hc
  · exact K.2
  · exact(m0) c hc
theorem kK.w {X:List Nat} {N:Nat→Prop} {w0 w:World} {D:List As} {f0:List Int} {f1:Int} {v0:Value} {E0:TypeId} (h1:xY f1) (H:Sep X N w0 w (rl 1 xH E0 v0 f0::D)):Sep X N w0 w (ow (V:=zC 2 kK) (.agg #[v0,.int .i64 f1]) (told.mk f0 f1)::D):=
  H.dt (fun {Y} hP hm=>by
    obtain⟨b0,c0,r0,o0,x0,y0⟩:=hP
    exact⟨_,kK.mk2 r0.rd h1,(r0.own o0),(fun c hc=>(List.mem_append.1 hc).elim (x0 c) (y0 c))⟩)
end Go.Proofs.YticojbhjloeckaaGreat
