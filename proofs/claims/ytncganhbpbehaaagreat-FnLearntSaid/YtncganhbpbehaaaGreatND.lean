import Derived.Test.YtncganhbpbehaaaGreatNC
import Derived.Test.YtncganhbpbehaaaGreatUX
namespace Go.Proofs.YtncganhbpbehaaaGreat
set_option linter.unusedVariables false
set_option linter.unusedSimpArgs false
open Go.RowKit
theorem Bk.of {w:World} {b:Nat} {cs:List Value} {T:TypeId} (h:eM w b cs.toArray T):Bk (All w) w b cs T:=⟨h,h.lt⟩
theorem c1I {N:Nat→Prop} {w:World} {T:TypeId} {b:Nat} {x:Int} (K:Bk N w b [.int .i64 x] T) (h:xS x):Bo N w (Pt 1 xI) (.pointer (some ⟨b,0,none⟩)) x:=⟨_,xOt K.1 h,fun c hc=>by rw[List.mem_singleton] at hc;subst hc;exact K.2⟩
theorem c1S {α:Type} {sz:Nat} {R:ER α} {N:Nat→Prop} {w:World} {T:TypeId} {b:Nat} {v:Value} {x:List α} (K:Bk N w b [v] T) (h:Bo N w (Sl sz R) v x):Bo N w (Pt 1 (vQ sz R)) (.pointer (some ⟨b,0,none⟩)) x:=let ⟨_,h1,h2⟩:=h;⟨_,xOe K.1 h1,fun c hc=>by
  rcases List.mem_cons.1 hc with rfl | hc
  · exact K.2
  · exact h2 c hc⟩
theorem Bo.one {α:Type} {sz:Nat} {R:ER α} {N:Nat→Prop} {w:World} {v:Value} {x:List α} (h:Bo N w (Sl sz R) v x):v.oneCell'=true:=let ⟨_,h1,_⟩:=h;h1.r.one
theorem Bo.pone {α:Type} {sz:Nat} {R:ER α} {N:Nat→Prop} {w:World} {v:Value} {x:α} (h:Bo N w (Pt sz R) v x):v.oneCell'=true:=by
  obtain⟨_,⟨⟨b,o,bi,rfl,_⟩,_⟩,_⟩:=h
  rfl
theorem c1P {α:Type} {sz:Nat} {R:ER α} {N:Nat→Prop} {w:World} {T:TypeId} {b:Nat} {v:Value} {x:α} (K:Bk N w b [v] T) (h:Bo N w (Pt sz R) v x):Bo N w (Pt 1 (RP sz R)) (.pointer (some ⟨b,0,none⟩)) x:=let ⟨_,h1,h2⟩:=h;⟨_,xNz K.1 h1,fun c hc=>by
  rcases List.mem_cons.1 hc with rfl | hc
  · exact K.2
  · exact h2 c hc⟩
theorem oV.o {N:Nat→Prop} {w:World} {v:Value} {x:Rel} (h:Bo N w (kK 2 oV) v x):∃ v1:Value,v= .agg #[.int .i64 x.arity,v1]∧xS x.arity∧Bo N w (Sl 1 iE) v1 x.tuples:=by
  obtain⟨bs,h1,h2⟩:=h;obtain⟨v1,b1,e,k0,k1,eb⟩:=oV.rd h1;exact⟨v1,e,k0,⟨b1,k1,fun c hc=>h2 c (by rw[eb];simp [hc])⟩⟩
theorem oV.m {N:Nat→Prop} {w:World} {f0:Int} {f1:List (List Int)} {v1:Value} (h0:xS f0) (h1:Bo N w (Sl 1 iE) v1 f1):Bo N w (kK 2 oV) (.agg #[.int .i64 f0,v1]) (Rel.mk f0 f1):=by
  obtain⟨b1,k1,m1⟩:=h1;exact⟨_,oV.mk2 h0 k1,m1⟩
theorem oV.b {N:Nat→Prop} {w:World} {T:TypeId} {b:Nat} {f0:Int} {f1:List (List Int)} {v1:Value} (K:Bk N w b [.int .i64 f0,v1] T) (h0:xS f0) (h1:Bo N w (Sl 1 iE) v1 f1):Bo N w (Pt 2 oV) (.pointer (some ⟨b,0,none⟩)) (Rel.mk f0 f1):=by
  obtain⟨b1,k1,m1⟩:=h1;refine⟨_,oV.blk K.1 h0 k1,fun c hc=>?_⟩
  rcases List.mem_cons.1 hc with rfl | hc
  · exact K.2
  · exact(m1) c hc
theorem oV.w {X:List Nat} {N:Nat→Prop} {w0 w:World} {D:List As} {f0:Int} {f1:List (List Int)} {v1:Value} {E1:TypeId} (h0:xS f0) (H:Sep X N w0 w (rl 1 iE E1 v1 f1::D)):Sep X N w0 w (ow (V:=kK 2 oV) (.agg #[.int .i64 f0,v1]) (Rel.mk f0 f1)::D):=
  H.dt (fun {Y} hP hm=>by
    obtain⟨b1,c1,r1,o1,x1,y1⟩:=hP
    exact⟨_,oV.mk2 h0 r1.rd,(r1.own o1),(fun c hc=>(List.mem_append.1 hc).elim (x1 c) (y1 c))⟩)
theorem xH.o {N:Nat→Prop} {w:World} {v:Value} {x:Template} (h:Bo N w (kK 2 xH) v x):∃ v1:Value,v= .agg #[.int .i64 x.size,v1]∧xS x.size∧Bo N w (Sl 2 oV) v1 x.rels:=by
  obtain⟨bs,h1,h2⟩:=h;obtain⟨v1,b1,e,k0,k1,eb⟩:=xH.rd h1;exact⟨v1,e,k0,⟨b1,k1,fun c hc=>h2 c (by rw[eb];simp [hc])⟩⟩
theorem xH.m {N:Nat→Prop} {w:World} {f0:Int} {f1:List Rel} {v1:Value} (h0:xS f0) (h1:Bo N w (Sl 2 oV) v1 f1):Bo N w (kK 2 xH) (.agg #[.int .i64 f0,v1]) (Template.mk f0 f1):=by
  obtain⟨b1,k1,m1⟩:=h1;exact⟨_,xH.mk2 h0 k1,m1⟩
theorem xH.b {N:Nat→Prop} {w:World} {T:TypeId} {b:Nat} {f0:Int} {f1:List Rel} {v1:Value} (K:Bk N w b [.int .i64 f0,v1] T) (h0:xS f0) (h1:Bo N w (Sl 2 oV) v1 f1):Bo N w (Pt 2 xH) (.pointer (some ⟨b,0,none⟩)) (Template.mk f0 f1):=by
  obtain⟨b1,k1,m1⟩:=h1;refine⟨_,xH.blk K.1 h0 k1,fun c hc=>?_⟩
  rcases List.mem_cons.1 hc with rfl | hc
  · exact K.2
  · exact(m1) c hc
theorem ROp.m {N:Nat→Prop} {w:World} {f0:Int} {f1:List Int} {v1:Value} (h0:xS f0) (h1:Bo N w (Sl 1 xI) v1 f1):Bo N w (kK 2 ROp) (.agg #[.int .i64 f0,v1]) (Op.mk f0 f1):=by
  obtain⟨b1,k1,m1⟩:=h1;exact⟨_,ROp.mk2 h0 k1,m1⟩
theorem ROp.b {N:Nat→Prop} {w:World} {T:TypeId} {b:Nat} {f0:Int} {f1:List Int} {v1:Value} (K:Bk N w b [.int .i64 f0,v1] T) (h0:xS f0) (h1:Bo N w (Sl 1 xI) v1 f1):Bo N w (Pt 2 ROp) (.pointer (some ⟨b,0,none⟩)) (Op.mk f0 f1):=by
  obtain⟨b1,k1,m1⟩:=h1;refine⟨_,ROp.blk K.1 h0 k1,fun c hc=>?_⟩
  rcases List.mem_cons.1 hc with rfl | hc
  · exact K.2
  · exact(m1) c hc
theorem zW.o {N:Nat→Prop} {w:World} {v:Value} {x:Atom} (h:Bo N w (kK 2 zW) v x):∃ v1:Value,v= .agg #[.int .i64 x.rel,v1]∧xS x.rel∧Bo N w (Sl 1 xI) v1 x.args:=by
  obtain⟨bs,h1,h2⟩:=h;obtain⟨v1,b1,e,k0,k1,eb⟩:=zW.rd h1;exact⟨v1,e,k0,⟨b1,k1,fun c hc=>h2 c (by rw[eb];simp [hc])⟩⟩
theorem zW.m {N:Nat→Prop} {w:World} {f0:Int} {f1:List Int} {v1:Value} (h0:xS f0) (h1:Bo N w (Sl 1 xI) v1 f1):Bo N w (kK 2 zW) (.agg #[.int .i64 f0,v1]) (Atom.mk f0 f1):=by
  obtain⟨b1,k1,m1⟩:=h1;exact⟨_,zW.mk2 h0 k1,m1⟩
theorem zW.b {N:Nat→Prop} {w:World} {T:TypeId} {b:Nat} {f0:Int} {f1:List Int} {v1:Value} (K:Bk N w b [.int .i64 f0,v1] T) (h0:xS f0) (h1:Bo N w (Sl 1 xI) v1 f1):Bo N w (Pt 2 zW) (.pointer (some ⟨b,0,none⟩)) (Atom.mk f0 f1):=by
  obtain⟨b1,k1,m1⟩:=h1;refine⟨_,zW.blk K.1 h0 k1,fun c hc=>?_⟩
  rcases List.mem_cons.1 hc with rfl | hc
  · exact K.2
  · exact(m1) c hc
theorem aC.m {N:Nat→Prop} {w:World} {f0:Int} {f1:Int} {f2:List Atom} {v2:Value} (h0:xS f0) (h1:xS f1) (h2:Bo N w (Sl 2 zW) v2 f2):Bo N w (kK 3 aC) (.agg #[.int .i64 f0,.int .i64 f1,v2]) (Formula.mk f0 f1 f2):=by
  obtain⟨b2,k2,m2⟩:=h2;exact⟨_,aC.mk2 h0 h1 k2,m2⟩
theorem aC.b {N:Nat→Prop} {w:World} {T:TypeId} {b:Nat} {f0:Int} {f1:Int} {f2:List Atom} {v2:Value} (K:Bk N w b [.int .i64 f0,.int .i64 f1,v2] T) (h0:xS f0) (h1:xS f1) (h2:Bo N w (Sl 2 zW) v2 f2):Bo N w (Pt 3 aC) (.pointer (some ⟨b,0,none⟩)) (Formula.mk f0 f1 f2):=by
  obtain⟨b2,k2,m2⟩:=h2;refine⟨_,aC.blk K.1 h0 h1 k2,fun c hc=>?_⟩
  rcases List.mem_cons.1 hc with rfl | hc
  · exact K.2
  · exact(m2) c hc
theorem oR.o {N:Nat→Prop} {w:World} {v:Value} {x:Con} (h:Bo N w (kK 2 oR) v x):∃ v1:Value,v= .agg #[.int .i64 x.rel,v1]∧xS x.rel∧Bo N w (Sl 1 xI) v1 x.scope:=by
  obtain⟨bs,h1,h2⟩:=h;obtain⟨v1,b1,e,k0,k1,eb⟩:=oR.rd h1;exact⟨v1,e,k0,⟨b1,k1,fun c hc=>h2 c (by rw[eb];simp [hc])⟩⟩
theorem oR.m {N:Nat→Prop} {w:World} {f0:Int} {f1:List Int} {v1:Value} (h0:xS f0) (h1:Bo N w (Sl 1 xI) v1 f1):Bo N w (kK 2 oR) (.agg #[.int .i64 f0,v1]) (Con.mk f0 f1):=by
  obtain⟨b1,k1,m1⟩:=h1;exact⟨_,oR.mk2 h0 k1,m1⟩
theorem oR.b {N:Nat→Prop} {w:World} {T:TypeId} {b:Nat} {f0:Int} {f1:List Int} {v1:Value} (K:Bk N w b [.int .i64 f0,v1] T) (h0:xS f0) (h1:Bo N w (Sl 1 xI) v1 f1):Bo N w (Pt 2 oR) (.pointer (some ⟨b,0,none⟩)) (Con.mk f0 f1):=by
  obtain⟨b1,k1,m1⟩:=h1;refine⟨_,oR.blk K.1 h0 k1,fun c hc=>?_⟩
  rcases List.mem_cons.1 hc with rfl | hc
  · exact K.2
  · exact(m1) c hc
theorem oR.w {X:List Nat} {N:Nat→Prop} {w0 w:World} {D:List As} {f0:Int} {f1:List Int} {v1:Value} {E1:TypeId} (h0:xS f0) (H:Sep X N w0 w (rl 1 xI E1 v1 f1::D)):Sep X N w0 w (ow (V:=kK 2 oR) (.agg #[.int .i64 f0,v1]) (Con.mk f0 f1)::D):=
  H.dt (fun {Y} hP hm=>by
    obtain⟨b1,c1,r1,o1,x1,y1⟩:=hP
    exact⟨_,oR.mk2 h0 r1.rd,(r1.own o1),(fun c hc=>(List.mem_append.1 hc).elim (x1 c) (y1 c))⟩)
theorem xK.o {N:Nat→Prop} {w:World} {v:Value} {x:Instance} (h:Bo N w (kK 2 xK) v x):∃ v1:Value,v= .agg #[.int .i64 x.vars,v1]∧xS x.vars∧Bo N w (Sl 2 oR) v1 x.cons:=by
  obtain⟨bs,h1,h2⟩:=h;obtain⟨v1,b1,e,k0,k1,eb⟩:=xK.rd h1;exact⟨v1,e,k0,⟨b1,k1,fun c hc=>h2 c (by rw[eb];simp [hc])⟩⟩
theorem xK.m {N:Nat→Prop} {w:World} {f0:Int} {f1:List Con} {v1:Value} (h0:xS f0) (h1:Bo N w (Sl 2 oR) v1 f1):Bo N w (kK 2 xK) (.agg #[.int .i64 f0,v1]) (Instance.mk f0 f1):=by
  obtain⟨b1,k1,m1⟩:=h1;exact⟨_,xK.mk2 h0 k1,m1⟩
theorem xK.b {N:Nat→Prop} {w:World} {T:TypeId} {b:Nat} {f0:Int} {f1:List Con} {v1:Value} (K:Bk N w b [.int .i64 f0,v1] T) (h0:xS f0) (h1:Bo N w (Sl 2 oR) v1 f1):Bo N w (Pt 2 xK) (.pointer (some ⟨b,0,none⟩)) (Instance.mk f0 f1):=by
  obtain⟨b1,k1,m1⟩:=h1;refine⟨_,xK.blk K.1 h0 k1,fun c hc=>?_⟩
  rcases List.mem_cons.1 hc with rfl | hc
  · exact K.2
  · exact(m1) c hc
theorem qH.o {N:Nat→Prop} {w:World} {v:Value} {x:ArcStep} (h:Bo N w (kK 3 qH) v x):v= .agg #[.int .i64 x.var,.int .i64 x.value,.int .i64 x.con]∧xS x.var∧xS x.value∧xS x.con:=by
  obtain⟨bs,h1,h2⟩:=h;obtain⟨e,k0,k1,k2,eb⟩:=qH.rd h1;exact⟨e,k0,k1,k2⟩
theorem qH.m {N:Nat→Prop} {w:World} {f0:Int} {f1:Int} {f2:Int}  (h0:xS f0) (h1:xS f1) (h2:xS f2):Bo N w (kK 3 qH) (.agg #[.int .i64 f0,.int .i64 f1,.int .i64 f2]) (ArcStep.mk f0 f1 f2):=by
  exact⟨_,qH.mk2 h0 h1 h2,fun c hc=>nomatch hc⟩
theorem qH.b {N:Nat→Prop} {w:World} {T:TypeId} {b:Nat} {f0:Int} {f1:Int} {f2:Int}  (K:Bk N w b [.int .i64 f0,.int .i64 f1,.int .i64 f2] T) (h0:xS f0) (h1:xS f1) (h2:xS f2):Bo N w (Pt 3 qH) (.pointer (some ⟨b,0,none⟩)) (ArcStep.mk f0 f1 f2):=by
  refine⟨_,qH.blk K.1 h0 h1 h2,fun c hc=>?_⟩
  rcases List.mem_cons.1 hc with rfl | hc
  · exact K.2
  · exact(fun c hc=>nomatch hc) c hc
instance:Flat qH:=⟨fun _ _ _ _ h=>h.2.2.2.2.2.2⟩
theorem kA.m {N:Nat→Prop} {w:World} {f0:Int} {f1:Int} {f2:Int}  (h0:xS f0) (h1:xS f1) (h2:xS f2):Bo N w (kK 3 kA) (.agg #[.int .i64 f0,.int .i64 f1,.int .i64 f2]) (PairStep.mk f0 f1 f2):=by
  exact⟨_,kA.mk2 h0 h1 h2,fun c hc=>nomatch hc⟩
theorem kA.b {N:Nat→Prop} {w:World} {T:TypeId} {b:Nat} {f0:Int} {f1:Int} {f2:Int}  (K:Bk N w b [.int .i64 f0,.int .i64 f1,.int .i64 f2] T) (h0:xS f0) (h1:xS f1) (h2:xS f2):Bo N w (Pt 3 kA) (.pointer (some ⟨b,0,none⟩)) (PairStep.mk f0 f1 f2):=by
  refine⟨_,kA.blk K.1 h0 h1 h2,fun c hc=>?_⟩
  rcases List.mem_cons.1 hc with rfl | hc
  · exact K.2
  · exact(fun c hc=>nomatch hc) c hc
instance:Flat kA:=⟨fun _ _ _ _ h=>h.2.2.2.2.2.2⟩
theorem cA.m {N:Nat→Prop} {w:World} {f0:Int} {f1:List Int} {f2:List ArcStep} {f3:List PairStep} {f4:List Int} {v1:Value} {v2:Value} {v3:Value} {v4:Value} (h0:xS f0) (h1:Bo N w (Sl 1 xI) v1 f1) (h2:Bo N w (Sl 3 qH) v2 f2) (h3:Bo N w (Sl 3 kA) v3 f3) (h4:Bo N w (Sl 1 xI) v4 f4):Bo N w (kK 5 cA) (.agg #[.int .i64 f0,v1,v2,v3,v4]) (Verdict.mk f0 f1 f2 f3 f4):=by
  obtain⟨b1,k1,m1⟩:=h1;obtain⟨b2,k2,m2⟩:=h2;obtain⟨b3,k3,m3⟩:=h3;obtain⟨b4,k4,m4⟩:=h4;exact⟨_,cA.mk2 h0 k1 k2 k3 k4,(fun c hc=>(List.mem_append.1 hc).elim ((fun c hc=>(List.mem_append.1 hc).elim ((fun c hc=>(List.mem_append.1 hc).elim (m1 c) (m2 c)) c) (m3 c)) c) (m4 c))⟩
theorem cA.b {N:Nat→Prop} {w:World} {T:TypeId} {b:Nat} {f0:Int} {f1:List Int} {f2:List ArcStep} {f3:List PairStep} {f4:List Int} {v1:Value} {v2:Value} {v3:Value} {v4:Value} (K:Bk N w b [.int .i64 f0,v1,v2,v3,v4] T) (h0:xS f0) (h1:Bo N w (Sl 1 xI) v1 f1) (h2:Bo N w (Sl 3 qH) v2 f2) (h3:Bo N w (Sl 3 kA) v3 f3) (h4:Bo N w (Sl 1 xI) v4 f4):Bo N w (Pt 5 cA) (.pointer (some ⟨b,0,none⟩)) (Verdict.mk f0 f1 f2 f3 f4):=by
  obtain⟨b1,k1,m1⟩:=h1;obtain⟨b2,k2,m2⟩:=h2;obtain⟨b3,k3,m3⟩:=h3;obtain⟨b4,k4,m4⟩:=h4;refine⟨_,cA.blk K.1 h0 k1 k2 k3 k4,fun c hc=>?_⟩
  rcases List.mem_cons.1 hc with rfl | hc
  · exact K.2
  · exact((fun c hc=>(List.mem_append.1 hc).elim ((fun c hc=>(List.mem_append.1 hc).elim ((fun c hc=>(List.mem_append.1 hc).elim (m1 c) (m2 c)) c) (m3 c)) c) (m4 c))) c hc
theorem aT.m {N:Nat→Prop} {w:World} {f0:List Int} {f1:Int} {v0:Value} (h0:Bo N w (Sl 1 xI) v0 f0) (h1:xS f1):Bo N w (kK 2 aT) (.agg #[v0,.int .i64 f1]) (Equation.mk f0 f1):=by
  obtain⟨b0,k0,m0⟩:=h0;exact⟨_,aT.mk2 k0 h1,m0⟩
theorem aT.b {N:Nat→Prop} {w:World} {T:TypeId} {b:Nat} {f0:List Int} {f1:Int} {v0:Value} (K:Bk N w b [v0,.int .i64 f1] T) (h0:Bo N w (Sl 1 xI) v0 f0) (h1:xS f1):Bo N w (Pt 2 aT) (.pointer (some ⟨b,0,none⟩)) (Equation.mk f0 f1):=by
  obtain⟨b0,k0,m0⟩:=h0;refine⟨_,aT.blk K.1 k0 h1,fun c hc=>?_⟩
  rcases List.mem_cons.1 hc with rfl | hc
  · exact K.2
  · exact(m0) c hc
theorem qY.o {N:Nat→Prop} {w:World} {v:Value} {x:Line} (h:Bo N w (kK 4 qY) v x):v= .agg #[.int .i64 x.kind,.int .i64 x.var,.int .i64 x.value,.int .i64 x.con]∧xS x.kind∧xS x.var∧xS x.value∧xS x.con:=by
  obtain⟨bs,h1,h2⟩:=h;obtain⟨e,k0,k1,k2,k3,eb⟩:=qY.rd h1;exact⟨e,k0,k1,k2,k3⟩
theorem qY.m {N:Nat→Prop} {w:World} {f0:Int} {f1:Int} {f2:Int} {f3:Int}  (h0:xS f0) (h1:xS f1) (h2:xS f2) (h3:xS f3):Bo N w (kK 4 qY) (.agg #[.int .i64 f0,.int .i64 f1,.int .i64 f2,.int .i64 f3]) (Line.mk f0 f1 f2 f3):=by
  exact⟨_,qY.mk2 h0 h1 h2 h3,fun c hc=>nomatch hc⟩
theorem qY.b {N:Nat→Prop} {w:World} {T:TypeId} {b:Nat} {f0:Int} {f1:Int} {f2:Int} {f3:Int}  (K:Bk N w b [.int .i64 f0,.int .i64 f1,.int .i64 f2,.int .i64 f3] T) (h0:xS f0) (h1:xS f1) (h2:xS f2) (h3:xS f3):Bo N w (Pt 4 qY) (.pointer (some ⟨b,0,none⟩)) (Line.mk f0 f1 f2 f3):=by
  refine⟨_,qY.blk K.1 h0 h1 h2 h3,fun c hc=>?_⟩
  rcases List.mem_cons.1 hc with rfl | hc
  · exact K.2
  · exact(fun c hc=>nomatch hc) c hc
instance:Flat qY:=⟨fun _ _ _ _ h=>h.2.2.2.2.2.2.2.2⟩
theorem xU.o {N:Nat→Prop} {w:World} {v:Value} {x:Literal} (h:Bo N w (kK 2 xU) v x):v= .agg #[.int .i64 x.var,.int .i64 x.value]∧xS x.var∧xS x.value:=by
  obtain⟨bs,h1,h2⟩:=h;obtain⟨e,k0,k1,eb⟩:=xU.rd h1;exact⟨e,k0,k1⟩
theorem xU.m {N:Nat→Prop} {w:World} {f0:Int} {f1:Int}  (h0:xS f0) (h1:xS f1):Bo N w (kK 2 xU) (.agg #[.int .i64 f0,.int .i64 f1]) (Literal.mk f0 f1):=by
  exact⟨_,xU.mk2 h0 h1,fun c hc=>nomatch hc⟩
theorem xU.b {N:Nat→Prop} {w:World} {T:TypeId} {b:Nat} {f0:Int} {f1:Int}  (K:Bk N w b [.int .i64 f0,.int .i64 f1] T) (h0:xS f0) (h1:xS f1):Bo N w (Pt 2 xU) (.pointer (some ⟨b,0,none⟩)) (Literal.mk f0 f1):=by
  refine⟨_,xU.blk K.1 h0 h1,fun c hc=>?_⟩
  rcases List.mem_cons.1 hc with rfl | hc
  · exact K.2
  · exact(fun c hc=>nomatch hc) c hc
instance:Flat xU:=⟨fun _ _ _ _ h=>h.2.2.2.2⟩
theorem bX.m {N:Nat→Prop} {w:World} {f0:List Formula} {v0:Value} (h0:Bo N w (Sl 3 aC) v0 f0):Bo N w (kK 1 bX) (.agg #[v0]) (Gadgets.mk f0):=by
  obtain⟨b0,k0,m0⟩:=h0;exact⟨_,bX.mk2 k0,m0⟩
theorem bX.b {N:Nat→Prop} {w:World} {T:TypeId} {b:Nat} {f0:List Formula} {v0:Value} (K:Bk N w b [v0] T) (h0:Bo N w (Sl 3 aC) v0 f0):Bo N w (Pt 1 bX) (.pointer (some ⟨b,0,none⟩)) (Gadgets.mk f0):=by
  obtain⟨b0,k0,m0⟩:=h0;refine⟨_,bX.blk K.1 k0,fun c hc=>?_⟩
  rcases List.mem_cons.1 hc with rfl | hc
  · exact K.2
  · exact(m0) c hc
theorem jA.m {N:Nat→Prop} {w:World} {f0:Int} {f1:Int} {f2:Int}  (h0:xS f0) (h1:xS f1) (h2:xS f2):Bo N w (kK 3 jA) (.agg #[.int .i64 f0,.int .i64 f1,.int .i64 f2]) (Deed.mk f0 f1 f2):=by
  exact⟨_,jA.mk2 h0 h1 h2,fun c hc=>nomatch hc⟩
theorem jA.b {N:Nat→Prop} {w:World} {T:TypeId} {b:Nat} {f0:Int} {f1:Int} {f2:Int}  (K:Bk N w b [.int .i64 f0,.int .i64 f1,.int .i64 f2] T) (h0:xS f0) (h1:xS f1) (h2:xS f2):Bo N w (Pt 3 jA) (.pointer (some ⟨b,0,none⟩)) (Deed.mk f0 f1 f2):=by
  refine⟨_,jA.blk K.1 h0 h1 h2,fun c hc=>?_⟩
  rcases List.mem_cons.1 hc with rfl | hc
  · exact K.2
  · exact(fun c hc=>nomatch hc) c hc
instance:Flat jA:=⟨fun _ _ _ _ h=>h.2.2.2.2.2.2⟩
theorem kU.m {N:Nat→Prop} {w:World} {f0:Int} {f1:List Rel} {f2:Int} {f3:List (List Atom)} {v1:Value} {v3:Value} (h0:xS f0) (h1:Bo N w (Sl 2 oV) v1 f1) (h2:xS f2) (h3:Bo N w (Sl 1 (vQ 2 zW)) v3 f3):Bo N w (kK 4 kU) (.agg #[.int .i64 f0,v1,.int .i64 f2,v3]) (solver.mk (Template.mk f0 f1) f2 f3):=by
  obtain⟨b1,k1,m1⟩:=h1;obtain⟨b3,k3,m3⟩:=h3;exact⟨_,kU.mk2 h0 k1 h2 k3,(fun c hc=>(List.mem_append.1 hc).elim (m1 c) (m3 c))⟩
theorem kU.b {N:Nat→Prop} {w:World} {T:TypeId} {b:Nat} {f0:Int} {f1:List Rel} {f2:Int} {f3:List (List Atom)} {v1:Value} {v3:Value} (K:Bk N w b [.int .i64 f0,v1,.int .i64 f2,v3] T) (h0:xS f0) (h1:Bo N w (Sl 2 oV) v1 f1) (h2:xS f2) (h3:Bo N w (Sl 1 (vQ 2 zW)) v3 f3):Bo N w (Pt 4 kU) (.pointer (some ⟨b,0,none⟩)) (solver.mk (Template.mk f0 f1) f2 f3):=by
  obtain⟨b1,k1,m1⟩:=h1;obtain⟨b3,k3,m3⟩:=h3;refine⟨_,kU.blk K.1 h0 k1 h2 k3,fun c hc=>?_⟩
  rcases List.mem_cons.1 hc with rfl | hc
  · exact K.2
  · exact((fun c hc=>(List.mem_append.1 hc).elim (m1 c) (m3 c))) c hc
theorem aD.m {N:Nat→Prop} {w:World} {f0:Template} {f1:Instance} {f2:Int} {f3:List (List Int)} {f4:Int} {v0:Value} {v1:Value} {v3:Value} (h0:Bo N w (Pt 2 xH) v0 f0) (h1:Bo N w (Pt 2 xK) v1 f1) (h2:xS f2) (h3:Bo N w (Sl 1 iE) v3 f3) (h4:xS f4):Bo N w (kK 5 aD) (.agg #[v0,v1,.int .i64 f2,v3,.int .i64 f4]) (l05Find.mk f0 f1 f2 f3 f4):=by
  obtain⟨b0,k0,m0⟩:=h0;obtain⟨b1,k1,m1⟩:=h1;obtain⟨b3,k3,m3⟩:=h3;exact⟨_,aD.mk2 k0 k1 h2 k3 h4,(fun c hc=>(List.mem_append.1 hc).elim ((fun c hc=>(List.mem_append.1 hc).elim (m0 c) (m1 c)) c) (m3 c))⟩
theorem aD.b {N:Nat→Prop} {w:World} {T:TypeId} {b:Nat} {f0:Template} {f1:Instance} {f2:Int} {f3:List (List Int)} {f4:Int} {v0:Value} {v1:Value} {v3:Value} (K:Bk N w b [v0,v1,.int .i64 f2,v3,.int .i64 f4] T) (h0:Bo N w (Pt 2 xH) v0 f0) (h1:Bo N w (Pt 2 xK) v1 f1) (h2:xS f2) (h3:Bo N w (Sl 1 iE) v3 f3) (h4:xS f4):Bo N w (Pt 5 aD) (.pointer (some ⟨b,0,none⟩)) (l05Find.mk f0 f1 f2 f3 f4):=by
  obtain⟨b0,k0,m0⟩:=h0;obtain⟨b1,k1,m1⟩:=h1;obtain⟨b3,k3,m3⟩:=h3;refine⟨_,aD.blk K.1 k0 k1 h2 k3 h4,fun c hc=>?_⟩
  rcases List.mem_cons.1 hc with rfl | hc
  · exact K.2
  · exact((fun c hc=>(List.mem_append.1 hc).elim ((fun c hc=>(List.mem_append.1 hc).elim (m0 c) (m1 c)) c) (m3 c))) c hc
theorem mK.m {N:Nat→Prop} {w:World} {f0:List Int} {f1:Int} {v0:Value} (h0:Bo N w (Sl 1 xI) v0 f0) (h1:xS f1):Bo N w (kK 2 mK) (.agg #[v0,.int .i64 f1]) (told.mk f0 f1):=by
  obtain⟨b0,k0,m0⟩:=h0;exact⟨_,mK.mk2 k0 h1,m0⟩
theorem mK.b {N:Nat→Prop} {w:World} {T:TypeId} {b:Nat} {f0:List Int} {f1:Int} {v0:Value} (K:Bk N w b [v0,.int .i64 f1] T) (h0:Bo N w (Sl 1 xI) v0 f0) (h1:xS f1):Bo N w (Pt 2 mK) (.pointer (some ⟨b,0,none⟩)) (told.mk f0 f1):=by
  obtain⟨b0,k0,m0⟩:=h0;refine⟨_,mK.blk K.1 k0 h1,fun c hc=>?_⟩
  rcases List.mem_cons.1 hc with rfl | hc
  · exact K.2
  · exact(m0) c hc
theorem fR.m {N:Nat→Prop} {w:World} {f0:Int} {f1:Int} {f2:List Bool} {v2:Value} (h0:xS f0) (h1:xS f1) (h2:Bo N w (Sl 1 rW) v2 f2):Bo N w (kK 3 fR) (.agg #[.int .i64 f0,.int .i64 f1,v2]) (l01Set.mk f0 f1 f2):=by
  obtain⟨b2,k2,m2⟩:=h2;exact⟨_,fR.mk2 h0 h1 k2,m2⟩
theorem fR.b {N:Nat→Prop} {w:World} {T:TypeId} {b:Nat} {f0:Int} {f1:Int} {f2:List Bool} {v2:Value} (K:Bk N w b [.int .i64 f0,.int .i64 f1,v2] T) (h0:xS f0) (h1:xS f1) (h2:Bo N w (Sl 1 rW) v2 f2):Bo N w (Pt 3 fR) (.pointer (some ⟨b,0,none⟩)) (l01Set.mk f0 f1 f2):=by
  obtain⟨b2,k2,m2⟩:=h2;refine⟨_,fR.blk K.1 h0 h1 k2,fun c hc=>?_⟩
  rcases List.mem_cons.1 hc with rfl | hc
  · exact K.2
  · exact(m2) c hc
end Go.Proofs.YtncganhbpbehaaaGreat
