import Derived.Test.YtghihmkhdhjhiaaGreatDoorNC
import Derived.Test.YtghihmkhdhjhiaaGreatDoorUX
namespace Go.Proofs.YtghihmkhdhjhiaaGreatDoor
set_option linter.unusedVariables false
set_option linter.unusedSimpArgs false
open Go.RowKit
theorem c1I {N:Nat→Prop} {w:World} {T:TypeId} {b:Nat} {x:Int} (K:Bk N w b [.int .i64 x] T) (h:xO x):Bo N w (Pt 1 xI) (.pointer (some ⟨b,0,none⟩)) x:=⟨_,xNg K.1 h,fun c hc=>by rw[List.mem_singleton] at hc;subst hc;exact K.2⟩
theorem c1S {α:Type} {sz:Nat} {R:ER α} {N:Nat→Prop} {w:World} {T:TypeId} {b:Nat} {v:Value} {x:List α} (K:Bk N w b [v] T) (h:Bo N w (Sl sz R) v x):Bo N w (Pt 1 (qK sz R)) (.pointer (some ⟨b,0,none⟩)) x:=let ⟨_,h1,h2⟩:=h;⟨_,xNt K.1 h1,fun c hc=>by
  rcases List.mem_cons.1 hc with rfl | hc
  · exact K.2
  · exact h2 c hc⟩
theorem Bo.one {α:Type} {sz:Nat} {R:ER α} {N:Nat→Prop} {w:World} {v:Value} {x:List α} (h:Bo N w (Sl sz R) v x):v.oneCell'=true:=let ⟨_,h1,_⟩:=h;h1.r.one
theorem Bo.pone {α:Type} {sz:Nat} {R:ER α} {N:Nat→Prop} {w:World} {v:Value} {x:α} (h:Bo N w (Pt sz R) v x):v.oneCell'=true:=by
  obtain⟨_,⟨⟨b,o,bi,rfl,_⟩,_⟩,_⟩:=h
  rfl
theorem qG.o {N:Nat→Prop} {w:World} {v:Value} {x:Rel} (h:Bo N w (kJ 2 qG) v x):∃ v1:Value,v= .agg #[.int .i64 x.arity,v1]∧xO x.arity∧Bo N w (Sl 1 gH) v1 x.tuples:=by
  obtain⟨bs,h1,h2⟩:=h;obtain⟨v1,b1,e,k0,k1,eb⟩:=qG.rd h1;exact⟨v1,e,k0,⟨b1,k1,fun c hc=>h2 c (by rw[eb];simp [hc])⟩⟩
theorem qG.m {N:Nat→Prop} {w:World} {f0:Int} {f1:List (List Int)} {v1:Value} (h0:xO f0) (h1:Bo N w (Sl 1 gH) v1 f1):Bo N w (kJ 2 qG) (.agg #[.int .i64 f0,v1]) (Rel.mk f0 f1):=by
  obtain⟨b1,k1,m1⟩:=h1;exact⟨_,qG.mk2 h0 k1,m1⟩
theorem qG.b {N:Nat→Prop} {w:World} {T:TypeId} {b:Nat} {f0:Int} {f1:List (List Int)} {v1:Value} (K:Bk N w b [.int .i64 f0,v1] T) (h0:xO f0) (h1:Bo N w (Sl 1 gH) v1 f1):Bo N w (Pt 2 qG) (.pointer (some ⟨b,0,none⟩)) (Rel.mk f0 f1):=by
  obtain⟨b1,k1,m1⟩:=h1;refine⟨_,qG.blk K.1 h0 k1,fun c hc=>?_⟩
  rcases List.mem_cons.1 hc with rfl | hc
  · exact K.2
  · exact(m1) c hc
theorem qG.w {X:List Nat} {N:Nat→Prop} {w0 w:World} {D:List As} {f0:Int} {f1:List (List Int)} {v1:Value} {E1:TypeId} (h0:xO f0) (H:Sep X N w0 w (rl 1 gH E1 v1 f1::D)):Sep X N w0 w (ow (V:=kJ 2 qG) (.agg #[.int .i64 f0,v1]) (Rel.mk f0 f1)::D):=
  H.dt (fun {Y} hP hm=>by
    obtain⟨b1,c1,r1,o1,x1,y1⟩:=hP
    exact⟨_,qG.mk2 h0 r1.rd,(r1.own o1),(fun c hc=>(List.mem_append.1 hc).elim (x1 c) (y1 c))⟩)
theorem xJ.o {N:Nat→Prop} {w:World} {v:Value} {x:Template} (h:Bo N w (kJ 2 xJ) v x):∃ v1:Value,v= .agg #[.int .i64 x.size,v1]∧xO x.size∧Bo N w (Sl 2 qG) v1 x.rels:=by
  obtain⟨bs,h1,h2⟩:=h;obtain⟨v1,b1,e,k0,k1,eb⟩:=xJ.rd h1;exact⟨v1,e,k0,⟨b1,k1,fun c hc=>h2 c (by rw[eb];simp [hc])⟩⟩
theorem xJ.m {N:Nat→Prop} {w:World} {f0:Int} {f1:List Rel} {v1:Value} (h0:xO f0) (h1:Bo N w (Sl 2 qG) v1 f1):Bo N w (kJ 2 xJ) (.agg #[.int .i64 f0,v1]) (Template.mk f0 f1):=by
  obtain⟨b1,k1,m1⟩:=h1;exact⟨_,xJ.mk2 h0 k1,m1⟩
theorem xJ.b {N:Nat→Prop} {w:World} {T:TypeId} {b:Nat} {f0:Int} {f1:List Rel} {v1:Value} (K:Bk N w b [.int .i64 f0,v1] T) (h0:xO f0) (h1:Bo N w (Sl 2 qG) v1 f1):Bo N w (Pt 2 xJ) (.pointer (some ⟨b,0,none⟩)) (Template.mk f0 f1):=by
  obtain⟨b1,k1,m1⟩:=h1;refine⟨_,xJ.blk K.1 h0 k1,fun c hc=>?_⟩
  rcases List.mem_cons.1 hc with rfl | hc
  · exact K.2
  · exact(m1) c hc
theorem ROp.m {N:Nat→Prop} {w:World} {f0:Int} {f1:List Int} {v1:Value} (h0:xO f0) (h1:Bo N w (Sl 1 xI) v1 f1):Bo N w (kJ 2 ROp) (.agg #[.int .i64 f0,v1]) (Op.mk f0 f1):=by
  obtain⟨b1,k1,m1⟩:=h1;exact⟨_,ROp.mk2 h0 k1,m1⟩
theorem ROp.b {N:Nat→Prop} {w:World} {T:TypeId} {b:Nat} {f0:Int} {f1:List Int} {v1:Value} (K:Bk N w b [.int .i64 f0,v1] T) (h0:xO f0) (h1:Bo N w (Sl 1 xI) v1 f1):Bo N w (Pt 2 ROp) (.pointer (some ⟨b,0,none⟩)) (Op.mk f0 f1):=by
  obtain⟨b1,k1,m1⟩:=h1;refine⟨_,ROp.blk K.1 h0 k1,fun c hc=>?_⟩
  rcases List.mem_cons.1 hc with rfl | hc
  · exact K.2
  · exact(m1) c hc
theorem cL.m {N:Nat→Prop} {w:World} {f0:Int} {f1:List Int} {v1:Value} (h0:xO f0) (h1:Bo N w (Sl 1 xI) v1 f1):Bo N w (kJ 2 cL) (.agg #[.int .i64 f0,v1]) (Atom.mk f0 f1):=by
  obtain⟨b1,k1,m1⟩:=h1;exact⟨_,cL.mk2 h0 k1,m1⟩
theorem cL.b {N:Nat→Prop} {w:World} {T:TypeId} {b:Nat} {f0:Int} {f1:List Int} {v1:Value} (K:Bk N w b [.int .i64 f0,v1] T) (h0:xO f0) (h1:Bo N w (Sl 1 xI) v1 f1):Bo N w (Pt 2 cL) (.pointer (some ⟨b,0,none⟩)) (Atom.mk f0 f1):=by
  obtain⟨b1,k1,m1⟩:=h1;refine⟨_,cL.blk K.1 h0 k1,fun c hc=>?_⟩
  rcases List.mem_cons.1 hc with rfl | hc
  · exact K.2
  · exact(m1) c hc
theorem kE.m {N:Nat→Prop} {w:World} {f0:Int} {f1:Int} {f2:List Atom} {v2:Value} (h0:xO f0) (h1:xO f1) (h2:Bo N w (Sl 2 cL) v2 f2):Bo N w (kJ 3 kE) (.agg #[.int .i64 f0,.int .i64 f1,v2]) (Formula.mk f0 f1 f2):=by
  obtain⟨b2,k2,m2⟩:=h2;exact⟨_,kE.mk2 h0 h1 k2,m2⟩
theorem kE.b {N:Nat→Prop} {w:World} {T:TypeId} {b:Nat} {f0:Int} {f1:Int} {f2:List Atom} {v2:Value} (K:Bk N w b [.int .i64 f0,.int .i64 f1,v2] T) (h0:xO f0) (h1:xO f1) (h2:Bo N w (Sl 2 cL) v2 f2):Bo N w (Pt 3 kE) (.pointer (some ⟨b,0,none⟩)) (Formula.mk f0 f1 f2):=by
  obtain⟨b2,k2,m2⟩:=h2;refine⟨_,kE.blk K.1 h0 h1 k2,fun c hc=>?_⟩
  rcases List.mem_cons.1 hc with rfl | hc
  · exact K.2
  · exact(m2) c hc
theorem qH.o {N:Nat→Prop} {w:World} {v:Value} {x:Con} (h:Bo N w (kJ 2 qH) v x):∃ v1:Value,v= .agg #[.int .i64 x.rel,v1]∧xO x.rel∧Bo N w (Sl 1 xI) v1 x.scope:=by
  obtain⟨bs,h1,h2⟩:=h;obtain⟨v1,b1,e,k0,k1,eb⟩:=qH.rd h1;exact⟨v1,e,k0,⟨b1,k1,fun c hc=>h2 c (by rw[eb];simp [hc])⟩⟩
theorem qH.m {N:Nat→Prop} {w:World} {f0:Int} {f1:List Int} {v1:Value} (h0:xO f0) (h1:Bo N w (Sl 1 xI) v1 f1):Bo N w (kJ 2 qH) (.agg #[.int .i64 f0,v1]) (Con.mk f0 f1):=by
  obtain⟨b1,k1,m1⟩:=h1;exact⟨_,qH.mk2 h0 k1,m1⟩
theorem qH.b {N:Nat→Prop} {w:World} {T:TypeId} {b:Nat} {f0:Int} {f1:List Int} {v1:Value} (K:Bk N w b [.int .i64 f0,v1] T) (h0:xO f0) (h1:Bo N w (Sl 1 xI) v1 f1):Bo N w (Pt 2 qH) (.pointer (some ⟨b,0,none⟩)) (Con.mk f0 f1):=by
  obtain⟨b1,k1,m1⟩:=h1;refine⟨_,qH.blk K.1 h0 k1,fun c hc=>?_⟩
  rcases List.mem_cons.1 hc with rfl | hc
  · exact K.2
  · exact(m1) c hc
theorem qH.w {X:List Nat} {N:Nat→Prop} {w0 w:World} {D:List As} {f0:Int} {f1:List Int} {v1:Value} {E1:TypeId} (h0:xO f0) (H:Sep X N w0 w (rl 1 xI E1 v1 f1::D)):Sep X N w0 w (ow (V:=kJ 2 qH) (.agg #[.int .i64 f0,v1]) (Con.mk f0 f1)::D):=
  H.dt (fun {Y} hP hm=>by
    obtain⟨b1,c1,r1,o1,x1,y1⟩:=hP
    exact⟨_,qH.mk2 h0 r1.rd,(r1.own o1),(fun c hc=>(List.mem_append.1 hc).elim (x1 c) (y1 c))⟩)
theorem xK.o {N:Nat→Prop} {w:World} {v:Value} {x:Instance} (h:Bo N w (kJ 2 xK) v x):∃ v1:Value,v= .agg #[.int .i64 x.vars,v1]∧xO x.vars∧Bo N w (Sl 2 qH) v1 x.cons:=by
  obtain⟨bs,h1,h2⟩:=h;obtain⟨v1,b1,e,k0,k1,eb⟩:=xK.rd h1;exact⟨v1,e,k0,⟨b1,k1,fun c hc=>h2 c (by rw[eb];simp [hc])⟩⟩
theorem xK.m {N:Nat→Prop} {w:World} {f0:Int} {f1:List Con} {v1:Value} (h0:xO f0) (h1:Bo N w (Sl 2 qH) v1 f1):Bo N w (kJ 2 xK) (.agg #[.int .i64 f0,v1]) (Instance.mk f0 f1):=by
  obtain⟨b1,k1,m1⟩:=h1;exact⟨_,xK.mk2 h0 k1,m1⟩
theorem xK.b {N:Nat→Prop} {w:World} {T:TypeId} {b:Nat} {f0:Int} {f1:List Con} {v1:Value} (K:Bk N w b [.int .i64 f0,v1] T) (h0:xO f0) (h1:Bo N w (Sl 2 qH) v1 f1):Bo N w (Pt 2 xK) (.pointer (some ⟨b,0,none⟩)) (Instance.mk f0 f1):=by
  obtain⟨b1,k1,m1⟩:=h1;refine⟨_,xK.blk K.1 h0 k1,fun c hc=>?_⟩
  rcases List.mem_cons.1 hc with rfl | hc
  · exact K.2
  · exact(m1) c hc
theorem oU.o {N:Nat→Prop} {w:World} {v:Value} {x:ArcStep} (h:Bo N w (kJ 3 oU) v x):v= .agg #[.int .i64 x.var,.int .i64 x.value,.int .i64 x.con]∧xO x.var∧xO x.value∧xO x.con:=by
  obtain⟨bs,h1,h2⟩:=h;obtain⟨e,k0,k1,k2,eb⟩:=oU.rd h1;exact⟨e,k0,k1,k2⟩
theorem oU.m {N:Nat→Prop} {w:World} {f0:Int} {f1:Int} {f2:Int}  (h0:xO f0) (h1:xO f1) (h2:xO f2):Bo N w (kJ 3 oU) (.agg #[.int .i64 f0,.int .i64 f1,.int .i64 f2]) (ArcStep.mk f0 f1 f2):=by
  exact⟨_,oU.mk2 h0 h1 h2,fun c hc=>nomatch hc⟩
theorem oU.b {N:Nat→Prop} {w:World} {T:TypeId} {b:Nat} {f0:Int} {f1:Int} {f2:Int}  (K:Bk N w b [.int .i64 f0,.int .i64 f1,.int .i64 f2] T) (h0:xO f0) (h1:xO f1) (h2:xO f2):Bo N w (Pt 3 oU) (.pointer (some ⟨b,0,none⟩)) (ArcStep.mk f0 f1 f2):=by
  refine⟨_,oU.blk K.1 h0 h1 h2,fun c hc=>?_⟩
  rcases List.mem_cons.1 hc with rfl | hc
  · exact K.2
  · exact(fun c hc=>nomatch hc) c hc
instance:Flat oU:=⟨fun _ _ _ _ h=>h.2.2.2.2.2.2⟩
theorem zN.m {N:Nat→Prop} {w:World} {f0:Int} {f1:Int} {f2:Int}  (h0:xO f0) (h1:xO f1) (h2:xO f2):Bo N w (kJ 3 zN) (.agg #[.int .i64 f0,.int .i64 f1,.int .i64 f2]) (PairStep.mk f0 f1 f2):=by
  exact⟨_,zN.mk2 h0 h1 h2,fun c hc=>nomatch hc⟩
theorem zN.b {N:Nat→Prop} {w:World} {T:TypeId} {b:Nat} {f0:Int} {f1:Int} {f2:Int}  (K:Bk N w b [.int .i64 f0,.int .i64 f1,.int .i64 f2] T) (h0:xO f0) (h1:xO f1) (h2:xO f2):Bo N w (Pt 3 zN) (.pointer (some ⟨b,0,none⟩)) (PairStep.mk f0 f1 f2):=by
  refine⟨_,zN.blk K.1 h0 h1 h2,fun c hc=>?_⟩
  rcases List.mem_cons.1 hc with rfl | hc
  · exact K.2
  · exact(fun c hc=>nomatch hc) c hc
instance:Flat zN:=⟨fun _ _ _ _ h=>h.2.2.2.2.2.2⟩
theorem aZ.m {N:Nat→Prop} {w:World} {f0:Int} {f1:List Int} {f2:List ArcStep} {f3:List PairStep} {f4:List Int} {v1:Value} {v2:Value} {v3:Value} {v4:Value} (h0:xO f0) (h1:Bo N w (Sl 1 xI) v1 f1) (h2:Bo N w (Sl 3 oU) v2 f2) (h3:Bo N w (Sl 3 zN) v3 f3) (h4:Bo N w (Sl 1 xI) v4 f4):Bo N w (kJ 5 aZ) (.agg #[.int .i64 f0,v1,v2,v3,v4]) (Verdict.mk f0 f1 f2 f3 f4):=by
  obtain⟨b1,k1,m1⟩:=h1;obtain⟨b2,k2,m2⟩:=h2;obtain⟨b3,k3,m3⟩:=h3;obtain⟨b4,k4,m4⟩:=h4;exact⟨_,aZ.mk2 h0 k1 k2 k3 k4,(fun c hc=>(List.mem_append.1 hc).elim ((fun c hc=>(List.mem_append.1 hc).elim ((fun c hc=>(List.mem_append.1 hc).elim (m1 c) (m2 c)) c) (m3 c)) c) (m4 c))⟩
theorem aZ.b {N:Nat→Prop} {w:World} {T:TypeId} {b:Nat} {f0:Int} {f1:List Int} {f2:List ArcStep} {f3:List PairStep} {f4:List Int} {v1:Value} {v2:Value} {v3:Value} {v4:Value} (K:Bk N w b [.int .i64 f0,v1,v2,v3,v4] T) (h0:xO f0) (h1:Bo N w (Sl 1 xI) v1 f1) (h2:Bo N w (Sl 3 oU) v2 f2) (h3:Bo N w (Sl 3 zN) v3 f3) (h4:Bo N w (Sl 1 xI) v4 f4):Bo N w (Pt 5 aZ) (.pointer (some ⟨b,0,none⟩)) (Verdict.mk f0 f1 f2 f3 f4):=by
  obtain⟨b1,k1,m1⟩:=h1;obtain⟨b2,k2,m2⟩:=h2;obtain⟨b3,k3,m3⟩:=h3;obtain⟨b4,k4,m4⟩:=h4;refine⟨_,aZ.blk K.1 h0 k1 k2 k3 k4,fun c hc=>?_⟩
  rcases List.mem_cons.1 hc with rfl | hc
  · exact K.2
  · exact((fun c hc=>(List.mem_append.1 hc).elim ((fun c hc=>(List.mem_append.1 hc).elim ((fun c hc=>(List.mem_append.1 hc).elim (m1 c) (m2 c)) c) (m3 c)) c) (m4 c))) c hc
theorem aH.m {N:Nat→Prop} {w:World} {f0:List Int} {f1:Int} {v0:Value} (h0:Bo N w (Sl 1 xI) v0 f0) (h1:xO f1):Bo N w (kJ 2 aH) (.agg #[v0,.int .i64 f1]) (Equation.mk f0 f1):=by
  obtain⟨b0,k0,m0⟩:=h0;exact⟨_,aH.mk2 k0 h1,m0⟩
theorem aH.b {N:Nat→Prop} {w:World} {T:TypeId} {b:Nat} {f0:List Int} {f1:Int} {v0:Value} (K:Bk N w b [v0,.int .i64 f1] T) (h0:Bo N w (Sl 1 xI) v0 f0) (h1:xO f1):Bo N w (Pt 2 aH) (.pointer (some ⟨b,0,none⟩)) (Equation.mk f0 f1):=by
  obtain⟨b0,k0,m0⟩:=h0;refine⟨_,aH.blk K.1 k0 h1,fun c hc=>?_⟩
  rcases List.mem_cons.1 hc with rfl | hc
  · exact K.2
  · exact(m0) c hc
theorem oP.o {N:Nat→Prop} {w:World} {v:Value} {x:Line} (h:Bo N w (kJ 4 oP) v x):v= .agg #[.int .i64 x.kind,.int .i64 x.var,.int .i64 x.value,.int .i64 x.con]∧xO x.kind∧xO x.var∧xO x.value∧xO x.con:=by
  obtain⟨bs,h1,h2⟩:=h;obtain⟨e,k0,k1,k2,k3,eb⟩:=oP.rd h1;exact⟨e,k0,k1,k2,k3⟩
theorem oP.m {N:Nat→Prop} {w:World} {f0:Int} {f1:Int} {f2:Int} {f3:Int}  (h0:xO f0) (h1:xO f1) (h2:xO f2) (h3:xO f3):Bo N w (kJ 4 oP) (.agg #[.int .i64 f0,.int .i64 f1,.int .i64 f2,.int .i64 f3]) (Line.mk f0 f1 f2 f3):=by
  exact⟨_,oP.mk2 h0 h1 h2 h3,fun c hc=>nomatch hc⟩
theorem oP.b {N:Nat→Prop} {w:World} {T:TypeId} {b:Nat} {f0:Int} {f1:Int} {f2:Int} {f3:Int}  (K:Bk N w b [.int .i64 f0,.int .i64 f1,.int .i64 f2,.int .i64 f3] T) (h0:xO f0) (h1:xO f1) (h2:xO f2) (h3:xO f3):Bo N w (Pt 4 oP) (.pointer (some ⟨b,0,none⟩)) (Line.mk f0 f1 f2 f3):=by
  refine⟨_,oP.blk K.1 h0 h1 h2 h3,fun c hc=>?_⟩
  rcases List.mem_cons.1 hc with rfl | hc
  · exact K.2
  · exact(fun c hc=>nomatch hc) c hc
instance:Flat oP:=⟨fun _ _ _ _ h=>h.2.2.2.2.2.2.2.2⟩
theorem oE.o {N:Nat→Prop} {w:World} {v:Value} {x:Literal} (h:Bo N w (kJ 2 oE) v x):v= .agg #[.int .i64 x.var,.int .i64 x.value]∧xO x.var∧xO x.value:=by
  obtain⟨bs,h1,h2⟩:=h;obtain⟨e,k0,k1,eb⟩:=oE.rd h1;exact⟨e,k0,k1⟩
theorem oE.m {N:Nat→Prop} {w:World} {f0:Int} {f1:Int}  (h0:xO f0) (h1:xO f1):Bo N w (kJ 2 oE) (.agg #[.int .i64 f0,.int .i64 f1]) (Literal.mk f0 f1):=by
  exact⟨_,oE.mk2 h0 h1,fun c hc=>nomatch hc⟩
theorem oE.b {N:Nat→Prop} {w:World} {T:TypeId} {b:Nat} {f0:Int} {f1:Int}  (K:Bk N w b [.int .i64 f0,.int .i64 f1] T) (h0:xO f0) (h1:xO f1):Bo N w (Pt 2 oE) (.pointer (some ⟨b,0,none⟩)) (Literal.mk f0 f1):=by
  refine⟨_,oE.blk K.1 h0 h1,fun c hc=>?_⟩
  rcases List.mem_cons.1 hc with rfl | hc
  · exact K.2
  · exact(fun c hc=>nomatch hc) c hc
instance:Flat oE:=⟨fun _ _ _ _ h=>h.2.2.2.2⟩
theorem bA.m {N:Nat→Prop} {w:World} {f0:List Formula} {v0:Value} (h0:Bo N w (Sl 3 kE) v0 f0):Bo N w (kJ 1 bA) (.agg #[v0]) (Gadgets.mk f0):=by
  obtain⟨b0,k0,m0⟩:=h0;exact⟨_,bA.mk2 k0,m0⟩
theorem bA.b {N:Nat→Prop} {w:World} {T:TypeId} {b:Nat} {f0:List Formula} {v0:Value} (K:Bk N w b [v0] T) (h0:Bo N w (Sl 3 kE) v0 f0):Bo N w (Pt 1 bA) (.pointer (some ⟨b,0,none⟩)) (Gadgets.mk f0):=by
  obtain⟨b0,k0,m0⟩:=h0;refine⟨_,bA.blk K.1 k0,fun c hc=>?_⟩
  rcases List.mem_cons.1 hc with rfl | hc
  · exact K.2
  · exact(m0) c hc
theorem iB.m {N:Nat→Prop} {w:World} {f0:Int} {f1:Int} {f2:Int}  (h0:xO f0) (h1:xO f1) (h2:xO f2):Bo N w (kJ 3 iB) (.agg #[.int .i64 f0,.int .i64 f1,.int .i64 f2]) (Deed.mk f0 f1 f2):=by
  exact⟨_,iB.mk2 h0 h1 h2,fun c hc=>nomatch hc⟩
theorem iB.b {N:Nat→Prop} {w:World} {T:TypeId} {b:Nat} {f0:Int} {f1:Int} {f2:Int}  (K:Bk N w b [.int .i64 f0,.int .i64 f1,.int .i64 f2] T) (h0:xO f0) (h1:xO f1) (h2:xO f2):Bo N w (Pt 3 iB) (.pointer (some ⟨b,0,none⟩)) (Deed.mk f0 f1 f2):=by
  refine⟨_,iB.blk K.1 h0 h1 h2,fun c hc=>?_⟩
  rcases List.mem_cons.1 hc with rfl | hc
  · exact K.2
  · exact(fun c hc=>nomatch hc) c hc
instance:Flat iB:=⟨fun _ _ _ _ h=>h.2.2.2.2.2.2⟩
theorem eL.m {N:Nat→Prop} {w:World} {f0:Int} {f1:List Rel} {f2:Int} {f3:List (List Atom)} {v1:Value} {v3:Value} (h0:xO f0) (h1:Bo N w (Sl 2 qG) v1 f1) (h2:xO f2) (h3:Bo N w (Sl 1 (qK 2 cL)) v3 f3):Bo N w (kJ 4 eL) (.agg #[.int .i64 f0,v1,.int .i64 f2,v3]) (solver.mk (Template.mk f0 f1) f2 f3):=by
  obtain⟨b1,k1,m1⟩:=h1;obtain⟨b3,k3,m3⟩:=h3;exact⟨_,eL.mk2 h0 k1 h2 k3,(fun c hc=>(List.mem_append.1 hc).elim (m1 c) (m3 c))⟩
theorem eL.b {N:Nat→Prop} {w:World} {T:TypeId} {b:Nat} {f0:Int} {f1:List Rel} {f2:Int} {f3:List (List Atom)} {v1:Value} {v3:Value} (K:Bk N w b [.int .i64 f0,v1,.int .i64 f2,v3] T) (h0:xO f0) (h1:Bo N w (Sl 2 qG) v1 f1) (h2:xO f2) (h3:Bo N w (Sl 1 (qK 2 cL)) v3 f3):Bo N w (Pt 4 eL) (.pointer (some ⟨b,0,none⟩)) (solver.mk (Template.mk f0 f1) f2 f3):=by
  obtain⟨b1,k1,m1⟩:=h1;obtain⟨b3,k3,m3⟩:=h3;refine⟨_,eL.blk K.1 h0 k1 h2 k3,fun c hc=>?_⟩
  rcases List.mem_cons.1 hc with rfl | hc
  · exact K.2
  · exact((fun c hc=>(List.mem_append.1 hc).elim (m1 c) (m3 c))) c hc
theorem kG.m {N:Nat→Prop} {w:World} {f0:Template} {f1:Instance} {f2:Int} {f3:List (List Int)} {f4:Int} {v0:Value} {v1:Value} {v3:Value} (h0:Bo N w (Pt 2 xJ) v0 f0) (h1:Bo N w (Pt 2 xK) v1 f1) (h2:xO f2) (h3:Bo N w (Sl 1 gH) v3 f3) (h4:xO f4):Bo N w (kJ 5 kG) (.agg #[v0,v1,.int .i64 f2,v3,.int .i64 f4]) (l05Find.mk f0 f1 f2 f3 f4):=by
  obtain⟨b0,k0,m0⟩:=h0;obtain⟨b1,k1,m1⟩:=h1;obtain⟨b3,k3,m3⟩:=h3;exact⟨_,kG.mk2 k0 k1 h2 k3 h4,(fun c hc=>(List.mem_append.1 hc).elim ((fun c hc=>(List.mem_append.1 hc).elim (m0 c) (m1 c)) c) (m3 c))⟩
theorem kG.b {N:Nat→Prop} {w:World} {T:TypeId} {b:Nat} {f0:Template} {f1:Instance} {f2:Int} {f3:List (List Int)} {f4:Int} {v0:Value} {v1:Value} {v3:Value} (K:Bk N w b [v0,v1,.int .i64 f2,v3,.int .i64 f4] T) (h0:Bo N w (Pt 2 xJ) v0 f0) (h1:Bo N w (Pt 2 xK) v1 f1) (h2:xO f2) (h3:Bo N w (Sl 1 gH) v3 f3) (h4:xO f4):Bo N w (Pt 5 kG) (.pointer (some ⟨b,0,none⟩)) (l05Find.mk f0 f1 f2 f3 f4):=by
  obtain⟨b0,k0,m0⟩:=h0;obtain⟨b1,k1,m1⟩:=h1;obtain⟨b3,k3,m3⟩:=h3;refine⟨_,kG.blk K.1 k0 k1 h2 k3 h4,fun c hc=>?_⟩
  rcases List.mem_cons.1 hc with rfl | hc
  · exact K.2
  · exact((fun c hc=>(List.mem_append.1 hc).elim ((fun c hc=>(List.mem_append.1 hc).elim (m0 c) (m1 c)) c) (m3 c))) c hc
theorem lC.m {N:Nat→Prop} {w:World} {f0:List Int} {f1:Int} {v0:Value} (h0:Bo N w (Sl 1 xI) v0 f0) (h1:xO f1):Bo N w (kJ 2 lC) (.agg #[v0,.int .i64 f1]) (told.mk f0 f1):=by
  obtain⟨b0,k0,m0⟩:=h0;exact⟨_,lC.mk2 k0 h1,m0⟩
theorem lC.b {N:Nat→Prop} {w:World} {T:TypeId} {b:Nat} {f0:List Int} {f1:Int} {v0:Value} (K:Bk N w b [v0,.int .i64 f1] T) (h0:Bo N w (Sl 1 xI) v0 f0) (h1:xO f1):Bo N w (Pt 2 lC) (.pointer (some ⟨b,0,none⟩)) (told.mk f0 f1):=by
  obtain⟨b0,k0,m0⟩:=h0;refine⟨_,lC.blk K.1 k0 h1,fun c hc=>?_⟩
  rcases List.mem_cons.1 hc with rfl | hc
  · exact K.2
  · exact(m0) c hc
theorem eO.m {N:Nat→Prop} {w:World} {f0:Int} {f1:Int} {f2:List Bool} {v2:Value} (h0:xO f0) (h1:xO f1) (h2:Bo N w (Sl 1 pU) v2 f2):Bo N w (kJ 3 eO) (.agg #[.int .i64 f0,.int .i64 f1,v2]) (l01Set.mk f0 f1 f2):=by
  obtain⟨b2,k2,m2⟩:=h2;exact⟨_,eO.mk2 h0 h1 k2,m2⟩
theorem eO.b {N:Nat→Prop} {w:World} {T:TypeId} {b:Nat} {f0:Int} {f1:Int} {f2:List Bool} {v2:Value} (K:Bk N w b [.int .i64 f0,.int .i64 f1,v2] T) (h0:xO f0) (h1:xO f1) (h2:Bo N w (Sl 1 pU) v2 f2):Bo N w (Pt 3 eO) (.pointer (some ⟨b,0,none⟩)) (l01Set.mk f0 f1 f2):=by
  obtain⟨b2,k2,m2⟩:=h2;refine⟨_,eO.blk K.1 h0 h1 k2,fun c hc=>?_⟩
  rcases List.mem_cons.1 hc with rfl | hc
  · exact K.2
  · exact(m2) c hc
end Go.Proofs.YtghihmkhdhjhiaaGreatDoor
