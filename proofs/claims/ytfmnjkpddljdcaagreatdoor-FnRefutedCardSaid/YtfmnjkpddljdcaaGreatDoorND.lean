import Derived.Test.YtfmnjkpddljdcaaGreatDoorNC
import Derived.Test.YtfmnjkpddljdcaaGreatDoorUX
namespace Go.Proofs.YtfmnjkpddljdcaaGreatDoor
set_option linter.unusedVariables false
set_option linter.unusedSimpArgs false
open Go.RowKit
theorem c1I {N:Nat→Prop} {w:World} {T:TypeId} {b:Nat} {x:Int} (K:Bk N w b [.int .i64 x] T) (h:xS x):Bo N w (Pt 1 xM) (.pointer (some ⟨b,0,none⟩)) x:=⟨_,xTq K.1 h,fun c hc=>by rw[List.mem_singleton] at hc;subst hc;exact K.2⟩
theorem c1S {α:Type} {sz:Nat} {R:ER α} {N:Nat→Prop} {w:World} {T:TypeId} {b:Nat} {v:Value} {x:List α} (K:Bk N w b [v] T) (h:Bo N w (Sl sz R) v x):Bo N w (Pt 1 (vS sz R)) (.pointer (some ⟨b,0,none⟩)) x:=let ⟨_,h1,h2⟩:=h;⟨_,xTt K.1 h1,fun c hc=>by
  rcases List.mem_cons.1 hc with rfl | hc
  · exact K.2
  · exact h2 c hc⟩
theorem Bo.one {α:Type} {sz:Nat} {R:ER α} {N:Nat→Prop} {w:World} {v:Value} {x:List α} (h:Bo N w (Sl sz R) v x):v.oneCell'=true:=let ⟨_,h1,_⟩:=h;h1.r.one
theorem Bo.pone {α:Type} {sz:Nat} {R:ER α} {N:Nat→Prop} {w:World} {v:Value} {x:α} (h:Bo N w (Pt sz R) v x):v.oneCell'=true:=by
  obtain⟨_,⟨⟨b,o,bi,rfl,_⟩,_⟩,_⟩:=h
  rfl
theorem c1P {α:Type} {sz:Nat} {R:ER α} {N:Nat→Prop} {w:World} {T:TypeId} {b:Nat} {v:Value} {x:α} (K:Bk N w b [v] T) (h:Bo N w (Pt sz R) v x):Bo N w (Pt 1 (RP sz R)) (.pointer (some ⟨b,0,none⟩)) x:=let ⟨_,h1,h2⟩:=h;⟨_,xTx K.1 h1,fun c hc=>by
  rcases List.mem_cons.1 hc with rfl | hc
  · exact K.2
  · exact h2 c hc⟩
theorem vG.o {N:Nat→Prop} {w:World} {v:Value} {x:Rel} (h:Bo N w (aY 2 vG) v x):∃ v1:Value,v= .agg #[.int .i64 x.arity,v1]∧xS x.arity∧Bo N w (Sl 1 eG) v1 x.tuples:=by
  obtain⟨bs,h1,h2⟩:=h;obtain⟨v1,b1,e,k0,k1,eb⟩:=vG.rd h1;exact⟨v1,e,k0,⟨b1,k1,fun c hc=>h2 c (by rw[eb];simp [hc])⟩⟩
theorem vG.m {N:Nat→Prop} {w:World} {f0:Int} {f1:List (List Int)} {v1:Value} (h0:xS f0) (h1:Bo N w (Sl 1 eG) v1 f1):Bo N w (aY 2 vG) (.agg #[.int .i64 f0,v1]) (Rel.mk f0 f1):=by
  obtain⟨b1,k1,m1⟩:=h1;exact⟨_,vG.mk2 h0 k1,m1⟩
theorem vG.b {N:Nat→Prop} {w:World} {T:TypeId} {b:Nat} {f0:Int} {f1:List (List Int)} {v1:Value} (K:Bk N w b [.int .i64 f0,v1] T) (h0:xS f0) (h1:Bo N w (Sl 1 eG) v1 f1):Bo N w (Pt 2 vG) (.pointer (some ⟨b,0,none⟩)) (Rel.mk f0 f1):=by
  obtain⟨b1,k1,m1⟩:=h1;refine⟨_,vG.blk K.1 h0 k1,fun c hc=>?_⟩
  rcases List.mem_cons.1 hc with rfl | hc
  · exact K.2
  · exact(m1) c hc
theorem vG.w {X:List Nat} {N:Nat→Prop} {w0 w:World} {D:List As} {f0:Int} {f1:List (List Int)} {v1:Value} {E1:TypeId} (h0:xS f0) (H:Sep X N w0 w (rl 1 eG E1 v1 f1::D)):Sep X N w0 w (ow (V:=aY 2 vG) (.agg #[.int .i64 f0,v1]) (Rel.mk f0 f1)::D):=
  H.dt (fun {Y} hP hm=>by
    obtain⟨b1,c1,r1,o1,x1,y1⟩:=hP
    exact⟨_,vG.mk2 h0 r1.rd,(r1.own o1),(fun c hc=>(List.mem_append.1 hc).elim (x1 c) (y1 c))⟩)
theorem xL.o {N:Nat→Prop} {w:World} {v:Value} {x:Template} (h:Bo N w (aY 2 xL) v x):∃ v1:Value,v= .agg #[.int .i64 x.size,v1]∧xS x.size∧Bo N w (Sl 2 vG) v1 x.rels:=by
  obtain⟨bs,h1,h2⟩:=h;obtain⟨v1,b1,e,k0,k1,eb⟩:=xL.rd h1;exact⟨v1,e,k0,⟨b1,k1,fun c hc=>h2 c (by rw[eb];simp [hc])⟩⟩
theorem xL.m {N:Nat→Prop} {w:World} {f0:Int} {f1:List Rel} {v1:Value} (h0:xS f0) (h1:Bo N w (Sl 2 vG) v1 f1):Bo N w (aY 2 xL) (.agg #[.int .i64 f0,v1]) (Template.mk f0 f1):=by
  obtain⟨b1,k1,m1⟩:=h1;exact⟨_,xL.mk2 h0 k1,m1⟩
theorem xL.b {N:Nat→Prop} {w:World} {T:TypeId} {b:Nat} {f0:Int} {f1:List Rel} {v1:Value} (K:Bk N w b [.int .i64 f0,v1] T) (h0:xS f0) (h1:Bo N w (Sl 2 vG) v1 f1):Bo N w (Pt 2 xL) (.pointer (some ⟨b,0,none⟩)) (Template.mk f0 f1):=by
  obtain⟨b1,k1,m1⟩:=h1;refine⟨_,xL.blk K.1 h0 k1,fun c hc=>?_⟩
  rcases List.mem_cons.1 hc with rfl | hc
  · exact K.2
  · exact(m1) c hc
theorem ROp.m {N:Nat→Prop} {w:World} {f0:Int} {f1:List Int} {v1:Value} (h0:xS f0) (h1:Bo N w (Sl 1 xM) v1 f1):Bo N w (aY 2 ROp) (.agg #[.int .i64 f0,v1]) (Op.mk f0 f1):=by
  obtain⟨b1,k1,m1⟩:=h1;exact⟨_,ROp.mk2 h0 k1,m1⟩
theorem ROp.b {N:Nat→Prop} {w:World} {T:TypeId} {b:Nat} {f0:Int} {f1:List Int} {v1:Value} (K:Bk N w b [.int .i64 f0,v1] T) (h0:xS f0) (h1:Bo N w (Sl 1 xM) v1 f1):Bo N w (Pt 2 ROp) (.pointer (some ⟨b,0,none⟩)) (Op.mk f0 f1):=by
  obtain⟨b1,k1,m1⟩:=h1;refine⟨_,ROp.blk K.1 h0 k1,fun c hc=>?_⟩
  rcases List.mem_cons.1 hc with rfl | hc
  · exact K.2
  · exact(m1) c hc
theorem kU.o {N:Nat→Prop} {w:World} {v:Value} {x:Atom} (h:Bo N w (aY 2 kU) v x):∃ v1:Value,v= .agg #[.int .i64 x.rel,v1]∧xS x.rel∧Bo N w (Sl 1 xM) v1 x.args:=by
  obtain⟨bs,h1,h2⟩:=h;obtain⟨v1,b1,e,k0,k1,eb⟩:=kU.rd h1;exact⟨v1,e,k0,⟨b1,k1,fun c hc=>h2 c (by rw[eb];simp [hc])⟩⟩
theorem kU.m {N:Nat→Prop} {w:World} {f0:Int} {f1:List Int} {v1:Value} (h0:xS f0) (h1:Bo N w (Sl 1 xM) v1 f1):Bo N w (aY 2 kU) (.agg #[.int .i64 f0,v1]) (Atom.mk f0 f1):=by
  obtain⟨b1,k1,m1⟩:=h1;exact⟨_,kU.mk2 h0 k1,m1⟩
theorem kU.b {N:Nat→Prop} {w:World} {T:TypeId} {b:Nat} {f0:Int} {f1:List Int} {v1:Value} (K:Bk N w b [.int .i64 f0,v1] T) (h0:xS f0) (h1:Bo N w (Sl 1 xM) v1 f1):Bo N w (Pt 2 kU) (.pointer (some ⟨b,0,none⟩)) (Atom.mk f0 f1):=by
  obtain⟨b1,k1,m1⟩:=h1;refine⟨_,kU.blk K.1 h0 k1,fun c hc=>?_⟩
  rcases List.mem_cons.1 hc with rfl | hc
  · exact K.2
  · exact(m1) c hc
theorem aL.m {N:Nat→Prop} {w:World} {f0:Int} {f1:Int} {f2:List Atom} {v2:Value} (h0:xS f0) (h1:xS f1) (h2:Bo N w (Sl 2 kU) v2 f2):Bo N w (aY 3 aL) (.agg #[.int .i64 f0,.int .i64 f1,v2]) (Formula.mk f0 f1 f2):=by
  obtain⟨b2,k2,m2⟩:=h2;exact⟨_,aL.mk2 h0 h1 k2,m2⟩
theorem aL.b {N:Nat→Prop} {w:World} {T:TypeId} {b:Nat} {f0:Int} {f1:Int} {f2:List Atom} {v2:Value} (K:Bk N w b [.int .i64 f0,.int .i64 f1,v2] T) (h0:xS f0) (h1:xS f1) (h2:Bo N w (Sl 2 kU) v2 f2):Bo N w (Pt 3 aL) (.pointer (some ⟨b,0,none⟩)) (Formula.mk f0 f1 f2):=by
  obtain⟨b2,k2,m2⟩:=h2;refine⟨_,aL.blk K.1 h0 h1 k2,fun c hc=>?_⟩
  rcases List.mem_cons.1 hc with rfl | hc
  · exact K.2
  · exact(m2) c hc
theorem qZ.o {N:Nat→Prop} {w:World} {v:Value} {x:Con} (h:Bo N w (aY 2 qZ) v x):∃ v1:Value,v= .agg #[.int .i64 x.rel,v1]∧xS x.rel∧Bo N w (Sl 1 xM) v1 x.scope:=by
  obtain⟨bs,h1,h2⟩:=h;obtain⟨v1,b1,e,k0,k1,eb⟩:=qZ.rd h1;exact⟨v1,e,k0,⟨b1,k1,fun c hc=>h2 c (by rw[eb];simp [hc])⟩⟩
theorem qZ.m {N:Nat→Prop} {w:World} {f0:Int} {f1:List Int} {v1:Value} (h0:xS f0) (h1:Bo N w (Sl 1 xM) v1 f1):Bo N w (aY 2 qZ) (.agg #[.int .i64 f0,v1]) (Con.mk f0 f1):=by
  obtain⟨b1,k1,m1⟩:=h1;exact⟨_,qZ.mk2 h0 k1,m1⟩
theorem qZ.b {N:Nat→Prop} {w:World} {T:TypeId} {b:Nat} {f0:Int} {f1:List Int} {v1:Value} (K:Bk N w b [.int .i64 f0,v1] T) (h0:xS f0) (h1:Bo N w (Sl 1 xM) v1 f1):Bo N w (Pt 2 qZ) (.pointer (some ⟨b,0,none⟩)) (Con.mk f0 f1):=by
  obtain⟨b1,k1,m1⟩:=h1;refine⟨_,qZ.blk K.1 h0 k1,fun c hc=>?_⟩
  rcases List.mem_cons.1 hc with rfl | hc
  · exact K.2
  · exact(m1) c hc
theorem qZ.w {X:List Nat} {N:Nat→Prop} {w0 w:World} {D:List As} {f0:Int} {f1:List Int} {v1:Value} {E1:TypeId} (h0:xS f0) (H:Sep X N w0 w (rl 1 xM E1 v1 f1::D)):Sep X N w0 w (ow (V:=aY 2 qZ) (.agg #[.int .i64 f0,v1]) (Con.mk f0 f1)::D):=
  H.dt (fun {Y} hP hm=>by
    obtain⟨b1,c1,r1,o1,x1,y1⟩:=hP
    exact⟨_,qZ.mk2 h0 r1.rd,(r1.own o1),(fun c hc=>(List.mem_append.1 hc).elim (x1 c) (y1 c))⟩)
theorem xO.o {N:Nat→Prop} {w:World} {v:Value} {x:Instance} (h:Bo N w (aY 2 xO) v x):∃ v1:Value,v= .agg #[.int .i64 x.vars,v1]∧xS x.vars∧Bo N w (Sl 2 qZ) v1 x.cons:=by
  obtain⟨bs,h1,h2⟩:=h;obtain⟨v1,b1,e,k0,k1,eb⟩:=xO.rd h1;exact⟨v1,e,k0,⟨b1,k1,fun c hc=>h2 c (by rw[eb];simp [hc])⟩⟩
theorem xO.m {N:Nat→Prop} {w:World} {f0:Int} {f1:List Con} {v1:Value} (h0:xS f0) (h1:Bo N w (Sl 2 qZ) v1 f1):Bo N w (aY 2 xO) (.agg #[.int .i64 f0,v1]) (Instance.mk f0 f1):=by
  obtain⟨b1,k1,m1⟩:=h1;exact⟨_,xO.mk2 h0 k1,m1⟩
theorem xO.b {N:Nat→Prop} {w:World} {T:TypeId} {b:Nat} {f0:Int} {f1:List Con} {v1:Value} (K:Bk N w b [.int .i64 f0,v1] T) (h0:xS f0) (h1:Bo N w (Sl 2 qZ) v1 f1):Bo N w (Pt 2 xO) (.pointer (some ⟨b,0,none⟩)) (Instance.mk f0 f1):=by
  obtain⟨b1,k1,m1⟩:=h1;refine⟨_,xO.blk K.1 h0 k1,fun c hc=>?_⟩
  rcases List.mem_cons.1 hc with rfl | hc
  · exact K.2
  · exact(m1) c hc
theorem qR.o {N:Nat→Prop} {w:World} {v:Value} {x:ArcStep} (h:Bo N w (aY 3 qR) v x):v= .agg #[.int .i64 x.var,.int .i64 x.value,.int .i64 x.con]∧xS x.var∧xS x.value∧xS x.con:=by
  obtain⟨bs,h1,h2⟩:=h;obtain⟨e,k0,k1,k2,eb⟩:=qR.rd h1;exact⟨e,k0,k1,k2⟩
theorem qR.m {N:Nat→Prop} {w:World} {f0:Int} {f1:Int} {f2:Int}  (h0:xS f0) (h1:xS f1) (h2:xS f2):Bo N w (aY 3 qR) (.agg #[.int .i64 f0,.int .i64 f1,.int .i64 f2]) (ArcStep.mk f0 f1 f2):=by
  exact⟨_,qR.mk2 h0 h1 h2,fun c hc=>nomatch hc⟩
theorem qR.b {N:Nat→Prop} {w:World} {T:TypeId} {b:Nat} {f0:Int} {f1:Int} {f2:Int}  (K:Bk N w b [.int .i64 f0,.int .i64 f1,.int .i64 f2] T) (h0:xS f0) (h1:xS f1) (h2:xS f2):Bo N w (Pt 3 qR) (.pointer (some ⟨b,0,none⟩)) (ArcStep.mk f0 f1 f2):=by
  refine⟨_,qR.blk K.1 h0 h1 h2,fun c hc=>?_⟩
  rcases List.mem_cons.1 hc with rfl | hc
  · exact K.2
  · exact(fun c hc=>nomatch hc) c hc
instance:Flat qR:=⟨fun _ _ _ _ h=>h.2.2.2.2.2.2⟩
theorem kX.m {N:Nat→Prop} {w:World} {f0:Int} {f1:Int} {f2:Int}  (h0:xS f0) (h1:xS f1) (h2:xS f2):Bo N w (aY 3 kX) (.agg #[.int .i64 f0,.int .i64 f1,.int .i64 f2]) (PairStep.mk f0 f1 f2):=by
  exact⟨_,kX.mk2 h0 h1 h2,fun c hc=>nomatch hc⟩
theorem kX.b {N:Nat→Prop} {w:World} {T:TypeId} {b:Nat} {f0:Int} {f1:Int} {f2:Int}  (K:Bk N w b [.int .i64 f0,.int .i64 f1,.int .i64 f2] T) (h0:xS f0) (h1:xS f1) (h2:xS f2):Bo N w (Pt 3 kX) (.pointer (some ⟨b,0,none⟩)) (PairStep.mk f0 f1 f2):=by
  refine⟨_,kX.blk K.1 h0 h1 h2,fun c hc=>?_⟩
  rcases List.mem_cons.1 hc with rfl | hc
  · exact K.2
  · exact(fun c hc=>nomatch hc) c hc
instance:Flat kX:=⟨fun _ _ _ _ h=>h.2.2.2.2.2.2⟩
theorem cV.m {N:Nat→Prop} {w:World} {f0:Int} {f1:List Int} {f2:List ArcStep} {f3:List PairStep} {f4:List Int} {v1:Value} {v2:Value} {v3:Value} {v4:Value} (h0:xS f0) (h1:Bo N w (Sl 1 xM) v1 f1) (h2:Bo N w (Sl 3 qR) v2 f2) (h3:Bo N w (Sl 3 kX) v3 f3) (h4:Bo N w (Sl 1 xM) v4 f4):Bo N w (aY 5 cV) (.agg #[.int .i64 f0,v1,v2,v3,v4]) (Verdict.mk f0 f1 f2 f3 f4):=by
  obtain⟨b1,k1,m1⟩:=h1;obtain⟨b2,k2,m2⟩:=h2;obtain⟨b3,k3,m3⟩:=h3;obtain⟨b4,k4,m4⟩:=h4;exact⟨_,cV.mk2 h0 k1 k2 k3 k4,(fun c hc=>(List.mem_append.1 hc).elim ((fun c hc=>(List.mem_append.1 hc).elim ((fun c hc=>(List.mem_append.1 hc).elim (m1 c) (m2 c)) c) (m3 c)) c) (m4 c))⟩
theorem cV.b {N:Nat→Prop} {w:World} {T:TypeId} {b:Nat} {f0:Int} {f1:List Int} {f2:List ArcStep} {f3:List PairStep} {f4:List Int} {v1:Value} {v2:Value} {v3:Value} {v4:Value} (K:Bk N w b [.int .i64 f0,v1,v2,v3,v4] T) (h0:xS f0) (h1:Bo N w (Sl 1 xM) v1 f1) (h2:Bo N w (Sl 3 qR) v2 f2) (h3:Bo N w (Sl 3 kX) v3 f3) (h4:Bo N w (Sl 1 xM) v4 f4):Bo N w (Pt 5 cV) (.pointer (some ⟨b,0,none⟩)) (Verdict.mk f0 f1 f2 f3 f4):=by
  obtain⟨b1,k1,m1⟩:=h1;obtain⟨b2,k2,m2⟩:=h2;obtain⟨b3,k3,m3⟩:=h3;obtain⟨b4,k4,m4⟩:=h4;refine⟨_,cV.blk K.1 h0 k1 k2 k3 k4,fun c hc=>?_⟩
  rcases List.mem_cons.1 hc with rfl | hc
  · exact K.2
  · exact((fun c hc=>(List.mem_append.1 hc).elim ((fun c hc=>(List.mem_append.1 hc).elim ((fun c hc=>(List.mem_append.1 hc).elim (m1 c) (m2 c)) c) (m3 c)) c) (m4 c))) c hc
theorem bV.m {N:Nat→Prop} {w:World} {f0:List Int} {f1:Int} {v0:Value} (h0:Bo N w (Sl 1 xM) v0 f0) (h1:xS f1):Bo N w (aY 2 bV) (.agg #[v0,.int .i64 f1]) (Equation.mk f0 f1):=by
  obtain⟨b0,k0,m0⟩:=h0;exact⟨_,bV.mk2 k0 h1,m0⟩
theorem bV.b {N:Nat→Prop} {w:World} {T:TypeId} {b:Nat} {f0:List Int} {f1:Int} {v0:Value} (K:Bk N w b [v0,.int .i64 f1] T) (h0:Bo N w (Sl 1 xM) v0 f0) (h1:xS f1):Bo N w (Pt 2 bV) (.pointer (some ⟨b,0,none⟩)) (Equation.mk f0 f1):=by
  obtain⟨b0,k0,m0⟩:=h0;refine⟨_,bV.blk K.1 k0 h1,fun c hc=>?_⟩
  rcases List.mem_cons.1 hc with rfl | hc
  · exact K.2
  · exact(m0) c hc
theorem qS.o {N:Nat→Prop} {w:World} {v:Value} {x:Line} (h:Bo N w (aY 4 qS) v x):v= .agg #[.int .i64 x.kind,.int .i64 x.var,.int .i64 x.value,.int .i64 x.con]∧xS x.kind∧xS x.var∧xS x.value∧xS x.con:=by
  obtain⟨bs,h1,h2⟩:=h;obtain⟨e,k0,k1,k2,k3,eb⟩:=qS.rd h1;exact⟨e,k0,k1,k2,k3⟩
theorem qS.m {N:Nat→Prop} {w:World} {f0:Int} {f1:Int} {f2:Int} {f3:Int}  (h0:xS f0) (h1:xS f1) (h2:xS f2) (h3:xS f3):Bo N w (aY 4 qS) (.agg #[.int .i64 f0,.int .i64 f1,.int .i64 f2,.int .i64 f3]) (Line.mk f0 f1 f2 f3):=by
  exact⟨_,qS.mk2 h0 h1 h2 h3,fun c hc=>nomatch hc⟩
theorem qS.b {N:Nat→Prop} {w:World} {T:TypeId} {b:Nat} {f0:Int} {f1:Int} {f2:Int} {f3:Int}  (K:Bk N w b [.int .i64 f0,.int .i64 f1,.int .i64 f2,.int .i64 f3] T) (h0:xS f0) (h1:xS f1) (h2:xS f2) (h3:xS f3):Bo N w (Pt 4 qS) (.pointer (some ⟨b,0,none⟩)) (Line.mk f0 f1 f2 f3):=by
  refine⟨_,qS.blk K.1 h0 h1 h2 h3,fun c hc=>?_⟩
  rcases List.mem_cons.1 hc with rfl | hc
  · exact K.2
  · exact(fun c hc=>nomatch hc) c hc
instance:Flat qS:=⟨fun _ _ _ _ h=>h.2.2.2.2.2.2.2.2⟩
theorem oU.o {N:Nat→Prop} {w:World} {v:Value} {x:Literal} (h:Bo N w (aY 2 oU) v x):v= .agg #[.int .i64 x.var,.int .i64 x.value]∧xS x.var∧xS x.value:=by
  obtain⟨bs,h1,h2⟩:=h;obtain⟨e,k0,k1,eb⟩:=oU.rd h1;exact⟨e,k0,k1⟩
theorem oU.m {N:Nat→Prop} {w:World} {f0:Int} {f1:Int}  (h0:xS f0) (h1:xS f1):Bo N w (aY 2 oU) (.agg #[.int .i64 f0,.int .i64 f1]) (Literal.mk f0 f1):=by
  exact⟨_,oU.mk2 h0 h1,fun c hc=>nomatch hc⟩
theorem oU.b {N:Nat→Prop} {w:World} {T:TypeId} {b:Nat} {f0:Int} {f1:Int}  (K:Bk N w b [.int .i64 f0,.int .i64 f1] T) (h0:xS f0) (h1:xS f1):Bo N w (Pt 2 oU) (.pointer (some ⟨b,0,none⟩)) (Literal.mk f0 f1):=by
  refine⟨_,oU.blk K.1 h0 h1,fun c hc=>?_⟩
  rcases List.mem_cons.1 hc with rfl | hc
  · exact K.2
  · exact(fun c hc=>nomatch hc) c hc
instance:Flat oU:=⟨fun _ _ _ _ h=>h.2.2.2.2⟩
theorem cR.m {N:Nat→Prop} {w:World} {f0:List Formula} {v0:Value} (h0:Bo N w (Sl 3 aL) v0 f0):Bo N w (aY 1 cR) (.agg #[v0]) (Gadgets.mk f0):=by
  obtain⟨b0,k0,m0⟩:=h0;exact⟨_,cR.mk2 k0,m0⟩
theorem cR.b {N:Nat→Prop} {w:World} {T:TypeId} {b:Nat} {f0:List Formula} {v0:Value} (K:Bk N w b [v0] T) (h0:Bo N w (Sl 3 aL) v0 f0):Bo N w (Pt 1 cR) (.pointer (some ⟨b,0,none⟩)) (Gadgets.mk f0):=by
  obtain⟨b0,k0,m0⟩:=h0;refine⟨_,cR.blk K.1 k0,fun c hc=>?_⟩
  rcases List.mem_cons.1 hc with rfl | hc
  · exact K.2
  · exact(m0) c hc
theorem lJ.m {N:Nat→Prop} {w:World} {f0:Int} {f1:Int} {f2:Int}  (h0:xS f0) (h1:xS f1) (h2:xS f2):Bo N w (aY 3 lJ) (.agg #[.int .i64 f0,.int .i64 f1,.int .i64 f2]) (Deed.mk f0 f1 f2):=by
  exact⟨_,lJ.mk2 h0 h1 h2,fun c hc=>nomatch hc⟩
theorem lJ.b {N:Nat→Prop} {w:World} {T:TypeId} {b:Nat} {f0:Int} {f1:Int} {f2:Int}  (K:Bk N w b [.int .i64 f0,.int .i64 f1,.int .i64 f2] T) (h0:xS f0) (h1:xS f1) (h2:xS f2):Bo N w (Pt 3 lJ) (.pointer (some ⟨b,0,none⟩)) (Deed.mk f0 f1 f2):=by
  refine⟨_,lJ.blk K.1 h0 h1 h2,fun c hc=>?_⟩
  rcases List.mem_cons.1 hc with rfl | hc
  · exact K.2
  · exact(fun c hc=>nomatch hc) c hc
instance:Flat lJ:=⟨fun _ _ _ _ h=>h.2.2.2.2.2.2⟩
theorem aU.m {N:Nat→Prop} {w:World} {f0:Int} {f1:List Rel} {f2:Int} {f3:List (List Atom)} {v1:Value} {v3:Value} (h0:xS f0) (h1:Bo N w (Sl 2 vG) v1 f1) (h2:xS f2) (h3:Bo N w (Sl 1 (vS 2 kU)) v3 f3):Bo N w (aY 4 aU) (.agg #[.int .i64 f0,v1,.int .i64 f2,v3]) (solver.mk (Template.mk f0 f1) f2 f3):=by
  obtain⟨b1,k1,m1⟩:=h1;obtain⟨b3,k3,m3⟩:=h3;exact⟨_,aU.mk2 h0 k1 h2 k3,(fun c hc=>(List.mem_append.1 hc).elim (m1 c) (m3 c))⟩
theorem aU.b {N:Nat→Prop} {w:World} {T:TypeId} {b:Nat} {f0:Int} {f1:List Rel} {f2:Int} {f3:List (List Atom)} {v1:Value} {v3:Value} (K:Bk N w b [.int .i64 f0,v1,.int .i64 f2,v3] T) (h0:xS f0) (h1:Bo N w (Sl 2 vG) v1 f1) (h2:xS f2) (h3:Bo N w (Sl 1 (vS 2 kU)) v3 f3):Bo N w (Pt 4 aU) (.pointer (some ⟨b,0,none⟩)) (solver.mk (Template.mk f0 f1) f2 f3):=by
  obtain⟨b1,k1,m1⟩:=h1;obtain⟨b3,k3,m3⟩:=h3;refine⟨_,aU.blk K.1 h0 k1 h2 k3,fun c hc=>?_⟩
  rcases List.mem_cons.1 hc with rfl | hc
  · exact K.2
  · exact((fun c hc=>(List.mem_append.1 hc).elim (m1 c) (m3 c))) c hc
theorem eI.m {N:Nat→Prop} {w:World} {f0:Template} {f1:Instance} {f2:Int} {f3:List (List Int)} {f4:Int} {v0:Value} {v1:Value} {v3:Value} (h0:Bo N w (Pt 2 xL) v0 f0) (h1:Bo N w (Pt 2 xO) v1 f1) (h2:xS f2) (h3:Bo N w (Sl 1 eG) v3 f3) (h4:xS f4):Bo N w (aY 5 eI) (.agg #[v0,v1,.int .i64 f2,v3,.int .i64 f4]) (l05Find.mk f0 f1 f2 f3 f4):=by
  obtain⟨b0,k0,m0⟩:=h0;obtain⟨b1,k1,m1⟩:=h1;obtain⟨b3,k3,m3⟩:=h3;exact⟨_,eI.mk2 k0 k1 h2 k3 h4,(fun c hc=>(List.mem_append.1 hc).elim ((fun c hc=>(List.mem_append.1 hc).elim (m0 c) (m1 c)) c) (m3 c))⟩
theorem eI.b {N:Nat→Prop} {w:World} {T:TypeId} {b:Nat} {f0:Template} {f1:Instance} {f2:Int} {f3:List (List Int)} {f4:Int} {v0:Value} {v1:Value} {v3:Value} (K:Bk N w b [v0,v1,.int .i64 f2,v3,.int .i64 f4] T) (h0:Bo N w (Pt 2 xL) v0 f0) (h1:Bo N w (Pt 2 xO) v1 f1) (h2:xS f2) (h3:Bo N w (Sl 1 eG) v3 f3) (h4:xS f4):Bo N w (Pt 5 eI) (.pointer (some ⟨b,0,none⟩)) (l05Find.mk f0 f1 f2 f3 f4):=by
  obtain⟨b0,k0,m0⟩:=h0;obtain⟨b1,k1,m1⟩:=h1;obtain⟨b3,k3,m3⟩:=h3;refine⟨_,eI.blk K.1 k0 k1 h2 k3 h4,fun c hc=>?_⟩
  rcases List.mem_cons.1 hc with rfl | hc
  · exact K.2
  · exact((fun c hc=>(List.mem_append.1 hc).elim ((fun c hc=>(List.mem_append.1 hc).elim (m0 c) (m1 c)) c) (m3 c))) c hc
theorem nX.m {N:Nat→Prop} {w:World} {f0:List Int} {f1:Int} {v0:Value} (h0:Bo N w (Sl 1 xM) v0 f0) (h1:xS f1):Bo N w (aY 2 nX) (.agg #[v0,.int .i64 f1]) (told.mk f0 f1):=by
  obtain⟨b0,k0,m0⟩:=h0;exact⟨_,nX.mk2 k0 h1,m0⟩
theorem nX.b {N:Nat→Prop} {w:World} {T:TypeId} {b:Nat} {f0:List Int} {f1:Int} {v0:Value} (K:Bk N w b [v0,.int .i64 f1] T) (h0:Bo N w (Sl 1 xM) v0 f0) (h1:xS f1):Bo N w (Pt 2 nX) (.pointer (some ⟨b,0,none⟩)) (told.mk f0 f1):=by
  obtain⟨b0,k0,m0⟩:=h0;refine⟨_,nX.blk K.1 k0 h1,fun c hc=>?_⟩
  rcases List.mem_cons.1 hc with rfl | hc
  · exact K.2
  · exact(m0) c hc
theorem vM.m {N:Nat→Prop} {w:World} {f0:List (List Int)} {f1:Int} {f2:Int} {v0:Value} (h0:Bo N w (Sl 1 eG) v0 f0) (h1:xS f1) (h2:xS f2):Bo N w (aY 3 vM) (.agg #[v0,.int .i64 f1,.int .i64 f2]) (l08Level.mk f0 (Literal.mk f1 f2)):=by
  obtain⟨b0,k0,m0⟩:=h0;exact⟨_,vM.mk2 k0 h1 h2,m0⟩
theorem vM.b {N:Nat→Prop} {w:World} {T:TypeId} {b:Nat} {f0:List (List Int)} {f1:Int} {f2:Int} {v0:Value} (K:Bk N w b [v0,.int .i64 f1,.int .i64 f2] T) (h0:Bo N w (Sl 1 eG) v0 f0) (h1:xS f1) (h2:xS f2):Bo N w (Pt 3 vM) (.pointer (some ⟨b,0,none⟩)) (l08Level.mk f0 (Literal.mk f1 f2)):=by
  obtain⟨b0,k0,m0⟩:=h0;refine⟨_,vM.blk K.1 k0 h1 h2,fun c hc=>?_⟩
  rcases List.mem_cons.1 hc with rfl | hc
  · exact K.2
  · exact(m0) c hc
theorem vM.w {X:List Nat} {N:Nat→Prop} {w0 w:World} {D:List As} {f0:List (List Int)} {f1:Int} {f2:Int} {v0:Value} {E0:TypeId} (h1:xS f1) (h2:xS f2) (H:Sep X N w0 w (rl 1 eG E0 v0 f0::D)):Sep X N w0 w (ow (V:=aY 3 vM) (.agg #[v0,.int .i64 f1,.int .i64 f2]) (l08Level.mk f0 (Literal.mk f1 f2))::D):=
  H.dt (fun {Y} hP hm=>by
    obtain⟨b0,c0,r0,o0,x0,y0⟩:=hP
    exact⟨_,vM.mk2 r0.rd h1 h2,(r0.own o0),(fun c hc=>(List.mem_append.1 hc).elim (x0 c) (y0 c))⟩)
theorem fX.m {N:Nat→Prop} {w:World} {f0:Int} {f1:Int} {f2:List Bool} {v2:Value} (h0:xS f0) (h1:xS f1) (h2:Bo N w (Sl 1 wM) v2 f2):Bo N w (aY 3 fX) (.agg #[.int .i64 f0,.int .i64 f1,v2]) (l01Set.mk f0 f1 f2):=by
  obtain⟨b2,k2,m2⟩:=h2;exact⟨_,fX.mk2 h0 h1 k2,m2⟩
theorem fX.b {N:Nat→Prop} {w:World} {T:TypeId} {b:Nat} {f0:Int} {f1:Int} {f2:List Bool} {v2:Value} (K:Bk N w b [.int .i64 f0,.int .i64 f1,v2] T) (h0:xS f0) (h1:xS f1) (h2:Bo N w (Sl 1 wM) v2 f2):Bo N w (Pt 3 fX) (.pointer (some ⟨b,0,none⟩)) (l01Set.mk f0 f1 f2):=by
  obtain⟨b2,k2,m2⟩:=h2;refine⟨_,fX.blk K.1 h0 h1 k2,fun c hc=>?_⟩
  rcases List.mem_cons.1 hc with rfl | hc
  · exact K.2
  · exact(m2) c hc
end Go.Proofs.YtfmnjkpddljdcaaGreatDoor
