import Derived.Test.YtgnfibiaaipibaaGreatNC
import Derived.Test.YtgnfibiaaipibaaGreatUX
namespace Go.Proofs.YtgnfibiaaipibaaGreat
set_option linter.unusedVariables false
set_option linter.unusedSimpArgs false
open Go.RowKit
theorem c1I {N:Nat→Prop} {w:World} {T:TypeId} {b:Nat} {x:Int} (K:Bk N w b [.int .i64 x] T) (h:xZ x):Bo N w (Pt 1 xH) (.pointer (some ⟨b,0,none⟩)) x:=⟨_,cell1I K.1 h,fun c hc=>by rw[List.mem_singleton] at hc;subst hc;exact K.2⟩
theorem c1S {α:Type} {sz:Nat} {R:ER α} {N:Nat→Prop} {w:World} {T:TypeId} {b:Nat} {v:Value} {x:List α} (K:Bk N w b [v] T) (h:Bo N w (Sl sz R) v x):Bo N w (Pt 1 (vO sz R)) (.pointer (some ⟨b,0,none⟩)) x:=let ⟨_,h1,h2⟩:=h;⟨_,cell1S K.1 h1,fun c hc=>by
  rcases List.mem_cons.1 hc with rfl | hc
  · exact K.2
  · exact h2 c hc⟩
theorem Bo.one {α:Type} {sz:Nat} {R:ER α} {N:Nat→Prop} {w:World} {v:Value} {x:List α} (h:Bo N w (Sl sz R) v x):v.oneCell'=true:=let ⟨_,h1,_⟩:=h;h1.r.one
theorem Bo.pone {α:Type} {sz:Nat} {R:ER α} {N:Nat→Prop} {w:World} {v:Value} {x:α} (h:Bo N w (Pt sz R) v x):v.oneCell'=true:=by
  obtain⟨_,⟨⟨b,o,bi,rfl,_⟩,_⟩,_⟩:=h
  rfl
theorem c1P {α:Type} {sz:Nat} {R:ER α} {N:Nat→Prop} {w:World} {T:TypeId} {b:Nat} {v:Value} {x:α} (K:Bk N w b [v] T) (h:Bo N w (Pt sz R) v x):Bo N w (Pt 1 (RP sz R)) (.pointer (some ⟨b,0,none⟩)) x:=let ⟨_,h1,h2⟩:=h;⟨_,cell1P K.1 h1,fun c hc=>by
  rcases List.mem_cons.1 hc with rfl | hc
  · exact K.2
  · exact h2 c hc⟩
theorem qD.o {N:Nat→Prop} {w:World} {v:Value} {x:Rel} (h:Bo N w (zX 2 qD) v x):∃ v1:Value,v= .agg #[.int .i64 x.arity,v1]∧xZ x.arity∧Bo N w (Sl 1 iH) v1 x.tuples:=by
  obtain⟨bs,h1,h2⟩:=h;obtain⟨v1,b1,e,k0,k1,eb⟩:=qD.rd h1;exact⟨v1,e,k0,⟨b1,k1,fun c hc=>h2 c (by rw[eb];simp [hc])⟩⟩
theorem qD.m {N:Nat→Prop} {w:World} {f0:Int} {f1:List (List Int)} {v1:Value} (h0:xZ f0) (h1:Bo N w (Sl 1 iH) v1 f1):Bo N w (zX 2 qD) (.agg #[.int .i64 f0,v1]) (Rel.mk f0 f1):=by
  obtain⟨b1,k1,m1⟩:=h1;exact⟨_,qD.mk2 h0 k1,m1⟩
theorem qD.b {N:Nat→Prop} {w:World} {T:TypeId} {b:Nat} {f0:Int} {f1:List (List Int)} {v1:Value} (K:Bk N w b [.int .i64 f0,v1] T) (h0:xZ f0) (h1:Bo N w (Sl 1 iH) v1 f1):Bo N w (Pt 2 qD) (.pointer (some ⟨b,0,none⟩)) (Rel.mk f0 f1):=by
  obtain⟨b1,k1,m1⟩:=h1;refine⟨_,qD.blk K.1 h0 k1,fun c hc=>?_⟩
  rcases List.mem_cons.1 hc with rfl | hc
  · exact K.2
  · exact(m1) c hc
theorem qD.w {X:List Nat} {N:Nat→Prop} {w0 w:World} {D:List As} {f0:Int} {f1:List (List Int)} {v1:Value} {E1:TypeId} (h0:xZ f0) (H:Sep X N w0 w (rl 1 iH E1 v1 f1::D)):Sep X N w0 w (ow (V:=zX 2 qD) (.agg #[.int .i64 f0,v1]) (Rel.mk f0 f1)::D):=
  H.dt (fun {Y} hP hm=>by
    obtain⟨b1,c1,r1,o1,x1,y1⟩:=hP
    exact⟨_,qD.mk2 h0 r1.rd,(r1.own o1),(fun c hc=>(List.mem_append.1 hc).elim (x1 c) (y1 c))⟩)
theorem xI.o {N:Nat→Prop} {w:World} {v:Value} {x:Template} (h:Bo N w (zX 2 xI) v x):∃ v1:Value,v= .agg #[.int .i64 x.size,v1]∧xZ x.size∧Bo N w (Sl 2 qD) v1 x.rels:=by
  obtain⟨bs,h1,h2⟩:=h;obtain⟨v1,b1,e,k0,k1,eb⟩:=xI.rd h1;exact⟨v1,e,k0,⟨b1,k1,fun c hc=>h2 c (by rw[eb];simp [hc])⟩⟩
theorem xI.m {N:Nat→Prop} {w:World} {f0:Int} {f1:List Rel} {v1:Value} (h0:xZ f0) (h1:Bo N w (Sl 2 qD) v1 f1):Bo N w (zX 2 xI) (.agg #[.int .i64 f0,v1]) (Template.mk f0 f1):=by
  obtain⟨b1,k1,m1⟩:=h1;exact⟨_,xI.mk2 h0 k1,m1⟩
theorem xI.b {N:Nat→Prop} {w:World} {T:TypeId} {b:Nat} {f0:Int} {f1:List Rel} {v1:Value} (K:Bk N w b [.int .i64 f0,v1] T) (h0:xZ f0) (h1:Bo N w (Sl 2 qD) v1 f1):Bo N w (Pt 2 xI) (.pointer (some ⟨b,0,none⟩)) (Template.mk f0 f1):=by
  obtain⟨b1,k1,m1⟩:=h1;refine⟨_,xI.blk K.1 h0 k1,fun c hc=>?_⟩
  rcases List.mem_cons.1 hc with rfl | hc
  · exact K.2
  · exact(m1) c hc
theorem cS.o {N:Nat→Prop} {w:World} {v:Value} {x:Op} (h:Bo N w (zX 2 cS) v x):∃ v1:Value,v= .agg #[.int .i64 x.arity,v1]∧xZ x.arity∧Bo N w (Sl 1 xH) v1 x.table:=by
  obtain⟨bs,h1,h2⟩:=h;obtain⟨v1,b1,e,k0,k1,eb⟩:=cS.rd h1;exact⟨v1,e,k0,⟨b1,k1,fun c hc=>h2 c (by rw[eb];simp [hc])⟩⟩
theorem cS.m {N:Nat→Prop} {w:World} {f0:Int} {f1:List Int} {v1:Value} (h0:xZ f0) (h1:Bo N w (Sl 1 xH) v1 f1):Bo N w (zX 2 cS) (.agg #[.int .i64 f0,v1]) (Op.mk f0 f1):=by
  obtain⟨b1,k1,m1⟩:=h1;exact⟨_,cS.mk2 h0 k1,m1⟩
theorem cS.b {N:Nat→Prop} {w:World} {T:TypeId} {b:Nat} {f0:Int} {f1:List Int} {v1:Value} (K:Bk N w b [.int .i64 f0,v1] T) (h0:xZ f0) (h1:Bo N w (Sl 1 xH) v1 f1):Bo N w (Pt 2 cS) (.pointer (some ⟨b,0,none⟩)) (Op.mk f0 f1):=by
  obtain⟨b1,k1,m1⟩:=h1;refine⟨_,cS.blk K.1 h0 k1,fun c hc=>?_⟩
  rcases List.mem_cons.1 hc with rfl | hc
  · exact K.2
  · exact(m1) c hc
theorem zL.o {N:Nat→Prop} {w:World} {v:Value} {x:Atom} (h:Bo N w (zX 2 zL) v x):∃ v1:Value,v= .agg #[.int .i64 x.rel,v1]∧xZ x.rel∧Bo N w (Sl 1 xH) v1 x.args:=by
  obtain⟨bs,h1,h2⟩:=h;obtain⟨v1,b1,e,k0,k1,eb⟩:=zL.rd h1;exact⟨v1,e,k0,⟨b1,k1,fun c hc=>h2 c (by rw[eb];simp [hc])⟩⟩
theorem zL.m {N:Nat→Prop} {w:World} {f0:Int} {f1:List Int} {v1:Value} (h0:xZ f0) (h1:Bo N w (Sl 1 xH) v1 f1):Bo N w (zX 2 zL) (.agg #[.int .i64 f0,v1]) (Atom.mk f0 f1):=by
  obtain⟨b1,k1,m1⟩:=h1;exact⟨_,zL.mk2 h0 k1,m1⟩
theorem zL.b {N:Nat→Prop} {w:World} {T:TypeId} {b:Nat} {f0:Int} {f1:List Int} {v1:Value} (K:Bk N w b [.int .i64 f0,v1] T) (h0:xZ f0) (h1:Bo N w (Sl 1 xH) v1 f1):Bo N w (Pt 2 zL) (.pointer (some ⟨b,0,none⟩)) (Atom.mk f0 f1):=by
  obtain⟨b1,k1,m1⟩:=h1;refine⟨_,zL.blk K.1 h0 k1,fun c hc=>?_⟩
  rcases List.mem_cons.1 hc with rfl | hc
  · exact K.2
  · exact(m1) c hc
theorem kP.m {N:Nat→Prop} {w:World} {f0:Int} {f1:Int} {f2:List Atom} {v2:Value} (h0:xZ f0) (h1:xZ f1) (h2:Bo N w (Sl 2 zL) v2 f2):Bo N w (zX 3 kP) (.agg #[.int .i64 f0,.int .i64 f1,v2]) (Formula.mk f0 f1 f2):=by
  obtain⟨b2,k2,m2⟩:=h2;exact⟨_,kP.mk2 h0 h1 k2,m2⟩
theorem kP.b {N:Nat→Prop} {w:World} {T:TypeId} {b:Nat} {f0:Int} {f1:Int} {f2:List Atom} {v2:Value} (K:Bk N w b [.int .i64 f0,.int .i64 f1,v2] T) (h0:xZ f0) (h1:xZ f1) (h2:Bo N w (Sl 2 zL) v2 f2):Bo N w (Pt 3 kP) (.pointer (some ⟨b,0,none⟩)) (Formula.mk f0 f1 f2):=by
  obtain⟨b2,k2,m2⟩:=h2;refine⟨_,kP.blk K.1 h0 h1 k2,fun c hc=>?_⟩
  rcases List.mem_cons.1 hc with rfl | hc
  · exact K.2
  · exact(m2) c hc
theorem vU.o {N:Nat→Prop} {w:World} {v:Value} {x:Con} (h:Bo N w (zX 2 vU) v x):∃ v1:Value,v= .agg #[.int .i64 x.rel,v1]∧xZ x.rel∧Bo N w (Sl 1 xH) v1 x.scope:=by
  obtain⟨bs,h1,h2⟩:=h;obtain⟨v1,b1,e,k0,k1,eb⟩:=vU.rd h1;exact⟨v1,e,k0,⟨b1,k1,fun c hc=>h2 c (by rw[eb];simp [hc])⟩⟩
theorem vU.m {N:Nat→Prop} {w:World} {f0:Int} {f1:List Int} {v1:Value} (h0:xZ f0) (h1:Bo N w (Sl 1 xH) v1 f1):Bo N w (zX 2 vU) (.agg #[.int .i64 f0,v1]) (Con.mk f0 f1):=by
  obtain⟨b1,k1,m1⟩:=h1;exact⟨_,vU.mk2 h0 k1,m1⟩
theorem vU.b {N:Nat→Prop} {w:World} {T:TypeId} {b:Nat} {f0:Int} {f1:List Int} {v1:Value} (K:Bk N w b [.int .i64 f0,v1] T) (h0:xZ f0) (h1:Bo N w (Sl 1 xH) v1 f1):Bo N w (Pt 2 vU) (.pointer (some ⟨b,0,none⟩)) (Con.mk f0 f1):=by
  obtain⟨b1,k1,m1⟩:=h1;refine⟨_,vU.blk K.1 h0 k1,fun c hc=>?_⟩
  rcases List.mem_cons.1 hc with rfl | hc
  · exact K.2
  · exact(m1) c hc
theorem vU.w {X:List Nat} {N:Nat→Prop} {w0 w:World} {D:List As} {f0:Int} {f1:List Int} {v1:Value} {E1:TypeId} (h0:xZ f0) (H:Sep X N w0 w (rl 1 xH E1 v1 f1::D)):Sep X N w0 w (ow (V:=zX 2 vU) (.agg #[.int .i64 f0,v1]) (Con.mk f0 f1)::D):=
  H.dt (fun {Y} hP hm=>by
    obtain⟨b1,c1,r1,o1,x1,y1⟩:=hP
    exact⟨_,vU.mk2 h0 r1.rd,(r1.own o1),(fun c hc=>(List.mem_append.1 hc).elim (x1 c) (y1 c))⟩)
theorem xO.o {N:Nat→Prop} {w:World} {v:Value} {x:Instance} (h:Bo N w (zX 2 xO) v x):∃ v1:Value,v= .agg #[.int .i64 x.vars,v1]∧xZ x.vars∧Bo N w (Sl 2 vU) v1 x.cons:=by
  obtain⟨bs,h1,h2⟩:=h;obtain⟨v1,b1,e,k0,k1,eb⟩:=xO.rd h1;exact⟨v1,e,k0,⟨b1,k1,fun c hc=>h2 c (by rw[eb];simp [hc])⟩⟩
theorem xO.m {N:Nat→Prop} {w:World} {f0:Int} {f1:List Con} {v1:Value} (h0:xZ f0) (h1:Bo N w (Sl 2 vU) v1 f1):Bo N w (zX 2 xO) (.agg #[.int .i64 f0,v1]) (Instance.mk f0 f1):=by
  obtain⟨b1,k1,m1⟩:=h1;exact⟨_,xO.mk2 h0 k1,m1⟩
theorem xO.b {N:Nat→Prop} {w:World} {T:TypeId} {b:Nat} {f0:Int} {f1:List Con} {v1:Value} (K:Bk N w b [.int .i64 f0,v1] T) (h0:xZ f0) (h1:Bo N w (Sl 2 vU) v1 f1):Bo N w (Pt 2 xO) (.pointer (some ⟨b,0,none⟩)) (Instance.mk f0 f1):=by
  obtain⟨b1,k1,m1⟩:=h1;refine⟨_,xO.blk K.1 h0 k1,fun c hc=>?_⟩
  rcases List.mem_cons.1 hc with rfl | hc
  · exact K.2
  · exact(m1) c hc
theorem qR.m {N:Nat→Prop} {w:World} {f0:Int} {f1:Int} {f2:Int}  (h0:xZ f0) (h1:xZ f1) (h2:xZ f2):Bo N w (zX 3 qR) (.agg #[.int .i64 f0,.int .i64 f1,.int .i64 f2]) (ArcStep.mk f0 f1 f2):=by
  exact⟨_,qR.mk2 h0 h1 h2,fun c hc=>nomatch hc⟩
theorem qR.b {N:Nat→Prop} {w:World} {T:TypeId} {b:Nat} {f0:Int} {f1:Int} {f2:Int}  (K:Bk N w b [.int .i64 f0,.int .i64 f1,.int .i64 f2] T) (h0:xZ f0) (h1:xZ f1) (h2:xZ f2):Bo N w (Pt 3 qR) (.pointer (some ⟨b,0,none⟩)) (ArcStep.mk f0 f1 f2):=by
  refine⟨_,qR.blk K.1 h0 h1 h2,fun c hc=>?_⟩
  rcases List.mem_cons.1 hc with rfl | hc
  · exact K.2
  · exact(fun c hc=>nomatch hc) c hc
instance:Flat qR:=⟨fun _ _ _ _ h=>h.2.2.2.2.2.2⟩
theorem oQ.o {N:Nat→Prop} {w:World} {v:Value} {x:PairStep} (h:Bo N w (zX 3 oQ) v x):v= .agg #[.int .i64 x.i,.int .i64 x.j,.int .i64 x.through]∧xZ x.i∧xZ x.j∧xZ x.through:=by
  obtain⟨bs,h1,h2⟩:=h;obtain⟨e,k0,k1,k2,eb⟩:=oQ.rd h1;exact⟨e,k0,k1,k2⟩
theorem oQ.m {N:Nat→Prop} {w:World} {f0:Int} {f1:Int} {f2:Int}  (h0:xZ f0) (h1:xZ f1) (h2:xZ f2):Bo N w (zX 3 oQ) (.agg #[.int .i64 f0,.int .i64 f1,.int .i64 f2]) (PairStep.mk f0 f1 f2):=by
  exact⟨_,oQ.mk2 h0 h1 h2,fun c hc=>nomatch hc⟩
theorem oQ.b {N:Nat→Prop} {w:World} {T:TypeId} {b:Nat} {f0:Int} {f1:Int} {f2:Int}  (K:Bk N w b [.int .i64 f0,.int .i64 f1,.int .i64 f2] T) (h0:xZ f0) (h1:xZ f1) (h2:xZ f2):Bo N w (Pt 3 oQ) (.pointer (some ⟨b,0,none⟩)) (PairStep.mk f0 f1 f2):=by
  refine⟨_,oQ.blk K.1 h0 h1 h2,fun c hc=>?_⟩
  rcases List.mem_cons.1 hc with rfl | hc
  · exact K.2
  · exact(fun c hc=>nomatch hc) c hc
instance:Flat oQ:=⟨fun _ _ _ _ h=>h.2.2.2.2.2.2⟩
theorem bS.m {N:Nat→Prop} {w:World} {f0:Int} {f1:List Int} {f2:List ArcStep} {f3:List PairStep} {f4:List Int} {v1:Value} {v2:Value} {v3:Value} {v4:Value} (h0:xZ f0) (h1:Bo N w (Sl 1 xH) v1 f1) (h2:Bo N w (Sl 3 qR) v2 f2) (h3:Bo N w (Sl 3 oQ) v3 f3) (h4:Bo N w (Sl 1 xH) v4 f4):Bo N w (zX 5 bS) (.agg #[.int .i64 f0,v1,v2,v3,v4]) (Verdict.mk f0 f1 f2 f3 f4):=by
  obtain⟨b1,k1,m1⟩:=h1;obtain⟨b2,k2,m2⟩:=h2;obtain⟨b3,k3,m3⟩:=h3;obtain⟨b4,k4,m4⟩:=h4;exact⟨_,bS.mk2 h0 k1 k2 k3 k4,(fun c hc=>(List.mem_append.1 hc).elim ((fun c hc=>(List.mem_append.1 hc).elim ((fun c hc=>(List.mem_append.1 hc).elim (m1 c) (m2 c)) c) (m3 c)) c) (m4 c))⟩
theorem bS.b {N:Nat→Prop} {w:World} {T:TypeId} {b:Nat} {f0:Int} {f1:List Int} {f2:List ArcStep} {f3:List PairStep} {f4:List Int} {v1:Value} {v2:Value} {v3:Value} {v4:Value} (K:Bk N w b [.int .i64 f0,v1,v2,v3,v4] T) (h0:xZ f0) (h1:Bo N w (Sl 1 xH) v1 f1) (h2:Bo N w (Sl 3 qR) v2 f2) (h3:Bo N w (Sl 3 oQ) v3 f3) (h4:Bo N w (Sl 1 xH) v4 f4):Bo N w (Pt 5 bS) (.pointer (some ⟨b,0,none⟩)) (Verdict.mk f0 f1 f2 f3 f4):=by
  obtain⟨b1,k1,m1⟩:=h1;obtain⟨b2,k2,m2⟩:=h2;obtain⟨b3,k3,m3⟩:=h3;obtain⟨b4,k4,m4⟩:=h4;refine⟨_,bS.blk K.1 h0 k1 k2 k3 k4,fun c hc=>?_⟩
  rcases List.mem_cons.1 hc with rfl | hc
  · exact K.2
  · exact((fun c hc=>(List.mem_append.1 hc).elim ((fun c hc=>(List.mem_append.1 hc).elim ((fun c hc=>(List.mem_append.1 hc).elim (m1 c) (m2 c)) c) (m3 c)) c) (m4 c))) c hc
theorem zF.o {N:Nat→Prop} {w:World} {v:Value} {x:Equation} (h:Bo N w (zX 2 zF) v x):∃ v0:Value,v= .agg #[v0,.int .i64 x.right]∧Bo N w (Sl 1 xH) v0 x.left∧xZ x.right:=by
  obtain⟨bs,h1,h2⟩:=h;obtain⟨v0,b0,e,k0,k1,eb⟩:=zF.rd h1;exact⟨v0,e,⟨b0,k0,fun c hc=>h2 c (by rw[eb];simp [hc])⟩,k1⟩
theorem zF.m {N:Nat→Prop} {w:World} {f0:List Int} {f1:Int} {v0:Value} (h0:Bo N w (Sl 1 xH) v0 f0) (h1:xZ f1):Bo N w (zX 2 zF) (.agg #[v0,.int .i64 f1]) (Equation.mk f0 f1):=by
  obtain⟨b0,k0,m0⟩:=h0;exact⟨_,zF.mk2 k0 h1,m0⟩
theorem zF.b {N:Nat→Prop} {w:World} {T:TypeId} {b:Nat} {f0:List Int} {f1:Int} {v0:Value} (K:Bk N w b [v0,.int .i64 f1] T) (h0:Bo N w (Sl 1 xH) v0 f0) (h1:xZ f1):Bo N w (Pt 2 zF) (.pointer (some ⟨b,0,none⟩)) (Equation.mk f0 f1):=by
  obtain⟨b0,k0,m0⟩:=h0;refine⟨_,zF.blk K.1 k0 h1,fun c hc=>?_⟩
  rcases List.mem_cons.1 hc with rfl | hc
  · exact K.2
  · exact(m0) c hc
theorem RLine.m {N:Nat→Prop} {w:World} {f0:Int} {f1:Int} {f2:Int} {f3:Int}  (h0:xZ f0) (h1:xZ f1) (h2:xZ f2) (h3:xZ f3):Bo N w (zX 4 RLine) (.agg #[.int .i64 f0,.int .i64 f1,.int .i64 f2,.int .i64 f3]) (Line.mk f0 f1 f2 f3):=by
  exact⟨_,RLine.mk2 h0 h1 h2 h3,fun c hc=>nomatch hc⟩
theorem RLine.b {N:Nat→Prop} {w:World} {T:TypeId} {b:Nat} {f0:Int} {f1:Int} {f2:Int} {f3:Int}  (K:Bk N w b [.int .i64 f0,.int .i64 f1,.int .i64 f2,.int .i64 f3] T) (h0:xZ f0) (h1:xZ f1) (h2:xZ f2) (h3:xZ f3):Bo N w (Pt 4 RLine) (.pointer (some ⟨b,0,none⟩)) (Line.mk f0 f1 f2 f3):=by
  refine⟨_,RLine.blk K.1 h0 h1 h2 h3,fun c hc=>?_⟩
  rcases List.mem_cons.1 hc with rfl | hc
  · exact K.2
  · exact(fun c hc=>nomatch hc) c hc
instance:Flat RLine:=⟨fun _ _ _ _ h=>h.2.2.2.2.2.2.2.2⟩
theorem bG.m {N:Nat→Prop} {w:World} {f0:Int} {f1:Int}  (h0:xZ f0) (h1:xZ f1):Bo N w (zX 2 bG) (.agg #[.int .i64 f0,.int .i64 f1]) (Literal.mk f0 f1):=by
  exact⟨_,bG.mk2 h0 h1,fun c hc=>nomatch hc⟩
theorem bG.b {N:Nat→Prop} {w:World} {T:TypeId} {b:Nat} {f0:Int} {f1:Int}  (K:Bk N w b [.int .i64 f0,.int .i64 f1] T) (h0:xZ f0) (h1:xZ f1):Bo N w (Pt 2 bG) (.pointer (some ⟨b,0,none⟩)) (Literal.mk f0 f1):=by
  refine⟨_,bG.blk K.1 h0 h1,fun c hc=>?_⟩
  rcases List.mem_cons.1 hc with rfl | hc
  · exact K.2
  · exact(fun c hc=>nomatch hc) c hc
instance:Flat bG:=⟨fun _ _ _ _ h=>h.2.2.2.2⟩
theorem bT.m {N:Nat→Prop} {w:World} {f0:List Formula} {v0:Value} (h0:Bo N w (Sl 3 kP) v0 f0):Bo N w (zX 1 bT) (.agg #[v0]) (Gadgets.mk f0):=by
  obtain⟨b0,k0,m0⟩:=h0;exact⟨_,bT.mk2 k0,m0⟩
theorem bT.b {N:Nat→Prop} {w:World} {T:TypeId} {b:Nat} {f0:List Formula} {v0:Value} (K:Bk N w b [v0] T) (h0:Bo N w (Sl 3 kP) v0 f0):Bo N w (Pt 1 bT) (.pointer (some ⟨b,0,none⟩)) (Gadgets.mk f0):=by
  obtain⟨b0,k0,m0⟩:=h0;refine⟨_,bT.blk K.1 k0,fun c hc=>?_⟩
  rcases List.mem_cons.1 hc with rfl | hc
  · exact K.2
  · exact(m0) c hc
theorem RDeed.m {N:Nat→Prop} {w:World} {f0:Int} {f1:Int} {f2:Int}  (h0:xZ f0) (h1:xZ f1) (h2:xZ f2):Bo N w (zX 3 RDeed) (.agg #[.int .i64 f0,.int .i64 f1,.int .i64 f2]) (Deed.mk f0 f1 f2):=by
  exact⟨_,RDeed.mk2 h0 h1 h2,fun c hc=>nomatch hc⟩
theorem RDeed.b {N:Nat→Prop} {w:World} {T:TypeId} {b:Nat} {f0:Int} {f1:Int} {f2:Int}  (K:Bk N w b [.int .i64 f0,.int .i64 f1,.int .i64 f2] T) (h0:xZ f0) (h1:xZ f1) (h2:xZ f2):Bo N w (Pt 3 RDeed) (.pointer (some ⟨b,0,none⟩)) (Deed.mk f0 f1 f2):=by
  refine⟨_,RDeed.blk K.1 h0 h1 h2,fun c hc=>?_⟩
  rcases List.mem_cons.1 hc with rfl | hc
  · exact K.2
  · exact(fun c hc=>nomatch hc) c hc
instance:Flat RDeed:=⟨fun _ _ _ _ h=>h.2.2.2.2.2.2⟩
theorem kF.m {N:Nat→Prop} {w:World} {f0:Int} {f1:List Rel} {f2:Int} {f3:List (List Atom)} {v1:Value} {v3:Value} (h0:xZ f0) (h1:Bo N w (Sl 2 qD) v1 f1) (h2:xZ f2) (h3:Bo N w (Sl 1 (vO 2 zL)) v3 f3):Bo N w (zX 4 kF) (.agg #[.int .i64 f0,v1,.int .i64 f2,v3]) (solver.mk (Template.mk f0 f1) f2 f3):=by
  obtain⟨b1,k1,m1⟩:=h1;obtain⟨b3,k3,m3⟩:=h3;exact⟨_,kF.mk2 h0 k1 h2 k3,(fun c hc=>(List.mem_append.1 hc).elim (m1 c) (m3 c))⟩
theorem kF.b {N:Nat→Prop} {w:World} {T:TypeId} {b:Nat} {f0:Int} {f1:List Rel} {f2:Int} {f3:List (List Atom)} {v1:Value} {v3:Value} (K:Bk N w b [.int .i64 f0,v1,.int .i64 f2,v3] T) (h0:xZ f0) (h1:Bo N w (Sl 2 qD) v1 f1) (h2:xZ f2) (h3:Bo N w (Sl 1 (vO 2 zL)) v3 f3):Bo N w (Pt 4 kF) (.pointer (some ⟨b,0,none⟩)) (solver.mk (Template.mk f0 f1) f2 f3):=by
  obtain⟨b1,k1,m1⟩:=h1;obtain⟨b3,k3,m3⟩:=h3;refine⟨_,kF.blk K.1 h0 k1 h2 k3,fun c hc=>?_⟩
  rcases List.mem_cons.1 hc with rfl | hc
  · exact K.2
  · exact((fun c hc=>(List.mem_append.1 hc).elim (m1 c) (m3 c))) c hc
theorem kL.m {N:Nat→Prop} {w:World} {f0:Template} {f1:Instance} {f2:Int} {f3:List (List Int)} {f4:Int} {v0:Value} {v1:Value} {v3:Value} (h0:Bo N w (Pt 2 xI) v0 f0) (h1:Bo N w (Pt 2 xO) v1 f1) (h2:xZ f2) (h3:Bo N w (Sl 1 iH) v3 f3) (h4:xZ f4):Bo N w (zX 5 kL) (.agg #[v0,v1,.int .i64 f2,v3,.int .i64 f4]) (l05Find.mk f0 f1 f2 f3 f4):=by
  obtain⟨b0,k0,m0⟩:=h0;obtain⟨b1,k1,m1⟩:=h1;obtain⟨b3,k3,m3⟩:=h3;exact⟨_,kL.mk2 k0 k1 h2 k3 h4,(fun c hc=>(List.mem_append.1 hc).elim ((fun c hc=>(List.mem_append.1 hc).elim (m0 c) (m1 c)) c) (m3 c))⟩
theorem kL.b {N:Nat→Prop} {w:World} {T:TypeId} {b:Nat} {f0:Template} {f1:Instance} {f2:Int} {f3:List (List Int)} {f4:Int} {v0:Value} {v1:Value} {v3:Value} (K:Bk N w b [v0,v1,.int .i64 f2,v3,.int .i64 f4] T) (h0:Bo N w (Pt 2 xI) v0 f0) (h1:Bo N w (Pt 2 xO) v1 f1) (h2:xZ f2) (h3:Bo N w (Sl 1 iH) v3 f3) (h4:xZ f4):Bo N w (Pt 5 kL) (.pointer (some ⟨b,0,none⟩)) (l05Find.mk f0 f1 f2 f3 f4):=by
  obtain⟨b0,k0,m0⟩:=h0;obtain⟨b1,k1,m1⟩:=h1;obtain⟨b3,k3,m3⟩:=h3;refine⟨_,kL.blk K.1 k0 k1 h2 k3 h4,fun c hc=>?_⟩
  rcases List.mem_cons.1 hc with rfl | hc
  · exact K.2
  · exact((fun c hc=>(List.mem_append.1 hc).elim ((fun c hc=>(List.mem_append.1 hc).elim (m0 c) (m1 c)) c) (m3 c))) c hc
theorem aC.o {N:Nat→Prop} {w:World} {v:Value} {x:told} (h:Bo N w (zX 2 aC) v x):∃ v0:Value,v= .agg #[v0,.int .i64 x.var]∧Bo N w (Sl 1 xH) v0 x.left∧xZ x.var:=by
  obtain⟨bs,h1,h2⟩:=h;obtain⟨v0,b0,e,k0,k1,eb⟩:=aC.rd h1;exact⟨v0,e,⟨b0,k0,fun c hc=>h2 c (by rw[eb];simp [hc])⟩,k1⟩
theorem aC.m {N:Nat→Prop} {w:World} {f0:List Int} {f1:Int} {v0:Value} (h0:Bo N w (Sl 1 xH) v0 f0) (h1:xZ f1):Bo N w (zX 2 aC) (.agg #[v0,.int .i64 f1]) (told.mk f0 f1):=by
  obtain⟨b0,k0,m0⟩:=h0;exact⟨_,aC.mk2 k0 h1,m0⟩
theorem aC.b {N:Nat→Prop} {w:World} {T:TypeId} {b:Nat} {f0:List Int} {f1:Int} {v0:Value} (K:Bk N w b [v0,.int .i64 f1] T) (h0:Bo N w (Sl 1 xH) v0 f0) (h1:xZ f1):Bo N w (Pt 2 aC) (.pointer (some ⟨b,0,none⟩)) (told.mk f0 f1):=by
  obtain⟨b0,k0,m0⟩:=h0;refine⟨_,aC.blk K.1 k0 h1,fun c hc=>?_⟩
  rcases List.mem_cons.1 hc with rfl | hc
  · exact K.2
  · exact(m0) c hc
theorem aC.w {X:List Nat} {N:Nat→Prop} {w0 w:World} {D:List As} {f0:List Int} {f1:Int} {v0:Value} {E0:TypeId} (h1:xZ f1) (H:Sep X N w0 w (rl 1 xH E0 v0 f0::D)):Sep X N w0 w (ow (V:=zX 2 aC) (.agg #[v0,.int .i64 f1]) (told.mk f0 f1)::D):=
  H.dt (fun {Y} hP hm=>by
    obtain⟨b0,c0,r0,o0,x0,y0⟩:=hP
    exact⟨_,aC.mk2 r0.rd h1,(r0.own o0),(fun c hc=>(List.mem_append.1 hc).elim (x0 c) (y0 c))⟩)
theorem kQ.m {N:Nat→Prop} {w:World} {f0:Int} {f1:Int} {f2:List Bool} {v2:Value} (h0:xZ f0) (h1:xZ f1) (h2:Bo N w (Sl 1 kN) v2 f2):Bo N w (zX 3 kQ) (.agg #[.int .i64 f0,.int .i64 f1,v2]) (l01Set.mk f0 f1 f2):=by
  obtain⟨b2,k2,m2⟩:=h2;exact⟨_,kQ.mk2 h0 h1 k2,m2⟩
theorem kQ.b {N:Nat→Prop} {w:World} {T:TypeId} {b:Nat} {f0:Int} {f1:Int} {f2:List Bool} {v2:Value} (K:Bk N w b [.int .i64 f0,.int .i64 f1,v2] T) (h0:xZ f0) (h1:xZ f1) (h2:Bo N w (Sl 1 kN) v2 f2):Bo N w (Pt 3 kQ) (.pointer (some ⟨b,0,none⟩)) (l01Set.mk f0 f1 f2):=by
  obtain⟨b2,k2,m2⟩:=h2;refine⟨_,kQ.blk K.1 h0 h1 k2,fun c hc=>?_⟩
  rcases List.mem_cons.1 hc with rfl | hc
  · exact K.2
  · exact(m2) c hc
end Go.Proofs.YtgnfibiaaipibaaGreat
