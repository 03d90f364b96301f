import Derived.Test.YtlommebgedmjdaaGreatDoorNC
import Derived.Test.YtlommebgedmjdaaGreatDoorUX
namespace Go.Proofs.YtlommebgedmjdaaGreatDoor
set_option linter.unusedVariables false
set_option linter.unusedSimpArgs false
open Go.RowKit
theorem Bk.of {w:World} {b:Nat} {cs:List Value} {T:TypeId} (h:fI w b cs.toArray T):Bk (All w) w b cs T:=⟨h,h.lt⟩
theorem c1I {N:Nat→Prop} {w:World} {T:TypeId} {b:Nat} {x:Int} (K:Bk N w b [.int .i64 x] T) (h:xH x):Bo N w (Pt 1 xG) (.pointer (some ⟨b,0,none⟩)) x:=⟨_,xYz K.1 h,fun c hc=>by rw[List.mem_singleton] at hc;subst hc;exact K.2⟩
theorem c1S {α:Type} {sz:Nat} {R:ER α} {N:Nat→Prop} {w:World} {T:TypeId} {b:Nat} {v:Value} {x:List α} (K:Bk N w b [v] T) (h:Bo N w (Sl sz R) v x):Bo N w (Pt 1 (fG sz R)) (.pointer (some ⟨b,0,none⟩)) x:=let ⟨_,h1,h2⟩:=h;⟨_,xZn K.1 h1,fun c hc=>by
  rcases List.mem_cons.1 hc with rfl | hc
  · exact K.2
  · exact h2 c hc⟩
theorem Bo.one {α:Type} {sz:Nat} {R:ER α} {N:Nat→Prop} {w:World} {v:Value} {x:List α} (h:Bo N w (Sl sz R) v x):v.oneCell'=true:=let ⟨_,h1,_⟩:=h;h1.r.one
theorem Bo.pone {α:Type} {sz:Nat} {R:ER α} {N:Nat→Prop} {w:World} {v:Value} {x:α} (h:Bo N w (Pt sz R) v x):v.oneCell'=true:=by
  obtain⟨_,⟨⟨b,o,bi,rfl,_⟩,_⟩,_⟩:=h
  rfl
theorem c1P {α:Type} {sz:Nat} {R:ER α} {N:Nat→Prop} {w:World} {T:TypeId} {b:Nat} {v:Value} {x:α} (K:Bk N w b [v] T) (h:Bo N w (Pt sz R) v x):Bo N w (Pt 1 (RP sz R)) (.pointer (some ⟨b,0,none⟩)) x:=let ⟨_,h1,h2⟩:=h;⟨_,xYn K.1 h1,fun c hc=>by
  rcases List.mem_cons.1 hc with rfl | hc
  · exact K.2
  · exact h2 c hc⟩
theorem oV.o {N:Nat→Prop} {w:World} {v:Value} {x:Rel} (h:Bo N w (qG 2 oV) v x):∃ v1:Value,v= .agg #[.int .i64 x.arity,v1]∧xH x.arity∧Bo N w (Sl 1 dM) v1 x.tuples:=by
  obtain⟨bs,h1,h2⟩:=h;obtain⟨v1,b1,e,k0,k1,eb⟩:=oV.rd h1;exact⟨v1,e,k0,⟨b1,k1,fun c hc=>h2 c (by rw[eb];simp [hc])⟩⟩
theorem oV.m {N:Nat→Prop} {w:World} {f0:Int} {f1:List (List Int)} {v1:Value} (h0:xH f0) (h1:Bo N w (Sl 1 dM) v1 f1):Bo N w (qG 2 oV) (.agg #[.int .i64 f0,v1]) (Rel.mk f0 f1):=by
  obtain⟨b1,k1,m1⟩:=h1;exact⟨_,oV.mk2 h0 k1,m1⟩
theorem oV.b {N:Nat→Prop} {w:World} {T:TypeId} {b:Nat} {f0:Int} {f1:List (List Int)} {v1:Value} (K:Bk N w b [.int .i64 f0,v1] T) (h0:xH f0) (h1:Bo N w (Sl 1 dM) v1 f1):Bo N w (Pt 2 oV) (.pointer (some ⟨b,0,none⟩)) (Rel.mk f0 f1):=by
  obtain⟨b1,k1,m1⟩:=h1;refine⟨_,oV.blk K.1 h0 k1,fun c hc=>?_⟩
  rcases List.mem_cons.1 hc with rfl | hc
  · exact K.2
  · exact(m1) c hc
theorem oV.w {X:List Nat} {N:Nat→Prop} {w0 w:World} {D:List As} {f0:Int} {f1:List (List Int)} {v1:Value} {E1:TypeId} (h0:xH f0) (H:Sep X N w0 w (rl 1 dM E1 v1 f1::D)):Sep X N w0 w (ow (V:=qG 2 oV) (.agg #[.int .i64 f0,v1]) (Rel.mk f0 f1)::D):=
  H.dt (fun {Y} hP hm=>by
    obtain⟨b1,c1,r1,o1,x1,y1⟩:=hP
    exact⟨_,oV.mk2 h0 r1.rd,(r1.own o1),(fun c hc=>(List.mem_append.1 hc).elim (x1 c) (y1 c))⟩)
theorem xA.o {N:Nat→Prop} {w:World} {v:Value} {x:Template} (h:Bo N w (qG 2 xA) v x):∃ v1:Value,v= .agg #[.int .i64 x.size,v1]∧xH x.size∧Bo N w (Sl 2 oV) v1 x.rels:=by
  obtain⟨bs,h1,h2⟩:=h;obtain⟨v1,b1,e,k0,k1,eb⟩:=xA.rd h1;exact⟨v1,e,k0,⟨b1,k1,fun c hc=>h2 c (by rw[eb];simp [hc])⟩⟩
theorem xA.m {N:Nat→Prop} {w:World} {f0:Int} {f1:List Rel} {v1:Value} (h0:xH f0) (h1:Bo N w (Sl 2 oV) v1 f1):Bo N w (qG 2 xA) (.agg #[.int .i64 f0,v1]) (Template.mk f0 f1):=by
  obtain⟨b1,k1,m1⟩:=h1;exact⟨_,xA.mk2 h0 k1,m1⟩
theorem xA.b {N:Nat→Prop} {w:World} {T:TypeId} {b:Nat} {f0:Int} {f1:List Rel} {v1:Value} (K:Bk N w b [.int .i64 f0,v1] T) (h0:xH f0) (h1:Bo N w (Sl 2 oV) v1 f1):Bo N w (Pt 2 xA) (.pointer (some ⟨b,0,none⟩)) (Template.mk f0 f1):=by
  obtain⟨b1,k1,m1⟩:=h1;refine⟨_,xA.blk K.1 h0 k1,fun c hc=>?_⟩
  rcases List.mem_cons.1 hc with rfl | hc
  · exact K.2
  · exact(m1) c hc
theorem ROp.o {N:Nat→Prop} {w:World} {v:Value} {x:Op} (h:Bo N w (qG 2 ROp) v x):∃ v1:Value,v= .agg #[.int .i64 x.arity,v1]∧xH x.arity∧Bo N w (Sl 1 xG) v1 x.table:=by
  obtain⟨bs,h1,h2⟩:=h;obtain⟨v1,b1,e,k0,k1,eb⟩:=ROp.rd h1;exact⟨v1,e,k0,⟨b1,k1,fun c hc=>h2 c (by rw[eb];simp [hc])⟩⟩
theorem ROp.m {N:Nat→Prop} {w:World} {f0:Int} {f1:List Int} {v1:Value} (h0:xH f0) (h1:Bo N w (Sl 1 xG) v1 f1):Bo N w (qG 2 ROp) (.agg #[.int .i64 f0,v1]) (Op.mk f0 f1):=by
  obtain⟨b1,k1,m1⟩:=h1;exact⟨_,ROp.mk2 h0 k1,m1⟩
theorem ROp.b {N:Nat→Prop} {w:World} {T:TypeId} {b:Nat} {f0:Int} {f1:List Int} {v1:Value} (K:Bk N w b [.int .i64 f0,v1] T) (h0:xH f0) (h1:Bo N w (Sl 1 xG) v1 f1):Bo N w (Pt 2 ROp) (.pointer (some ⟨b,0,none⟩)) (Op.mk f0 f1):=by
  obtain⟨b1,k1,m1⟩:=h1;refine⟨_,ROp.blk K.1 h0 k1,fun c hc=>?_⟩
  rcases List.mem_cons.1 hc with rfl | hc
  · exact K.2
  · exact(m1) c hc
theorem xM.o {N:Nat→Prop} {w:World} {v:Value} {x:Atom} (h:Bo N w (qG 2 xM) v x):∃ v1:Value,v= .agg #[.int .i64 x.rel,v1]∧xH x.rel∧Bo N w (Sl 1 xG) v1 x.args:=by
  obtain⟨bs,h1,h2⟩:=h;obtain⟨v1,b1,e,k0,k1,eb⟩:=xM.rd h1;exact⟨v1,e,k0,⟨b1,k1,fun c hc=>h2 c (by rw[eb];simp [hc])⟩⟩
theorem xM.m {N:Nat→Prop} {w:World} {f0:Int} {f1:List Int} {v1:Value} (h0:xH f0) (h1:Bo N w (Sl 1 xG) v1 f1):Bo N w (qG 2 xM) (.agg #[.int .i64 f0,v1]) (Atom.mk f0 f1):=by
  obtain⟨b1,k1,m1⟩:=h1;exact⟨_,xM.mk2 h0 k1,m1⟩
theorem xM.b {N:Nat→Prop} {w:World} {T:TypeId} {b:Nat} {f0:Int} {f1:List Int} {v1:Value} (K:Bk N w b [.int .i64 f0,v1] T) (h0:xH f0) (h1:Bo N w (Sl 1 xG) v1 f1):Bo N w (Pt 2 xM) (.pointer (some ⟨b,0,none⟩)) (Atom.mk f0 f1):=by
  obtain⟨b1,k1,m1⟩:=h1;refine⟨_,xM.blk K.1 h0 k1,fun c hc=>?_⟩
  rcases List.mem_cons.1 hc with rfl | hc
  · exact K.2
  · exact(m1) c hc
theorem xM.w {X:List Nat} {N:Nat→Prop} {w0 w:World} {D:List As} {f0:Int} {f1:List Int} {v1:Value} {E1:TypeId} (h0:xH f0) (H:Sep X N w0 w (rl 1 xG E1 v1 f1::D)):Sep X N w0 w (ow (V:=qG 2 xM) (.agg #[.int .i64 f0,v1]) (Atom.mk f0 f1)::D):=
  H.dt (fun {Y} hP hm=>by
    obtain⟨b1,c1,r1,o1,x1,y1⟩:=hP
    exact⟨_,xM.mk2 h0 r1.rd,(r1.own o1),(fun c hc=>(List.mem_append.1 hc).elim (x1 c) (y1 c))⟩)
theorem xC.o {N:Nat→Prop} {w:World} {v:Value} {x:Formula} (h:Bo N w (qG 3 xC) v x):∃ v2:Value,v= .agg #[.int .i64 x.free,.int .i64 x.vars,v2]∧xH x.free∧xH x.vars∧Bo N w (Sl 2 xM) v2 x.atoms:=by
  obtain⟨bs,h1,h2⟩:=h;obtain⟨v2,b2,e,k0,k1,k2,eb⟩:=xC.rd h1;exact⟨v2,e,k0,k1,⟨b2,k2,fun c hc=>h2 c (by rw[eb];simp [hc])⟩⟩
theorem xC.m {N:Nat→Prop} {w:World} {f0:Int} {f1:Int} {f2:List Atom} {v2:Value} (h0:xH f0) (h1:xH f1) (h2:Bo N w (Sl 2 xM) v2 f2):Bo N w (qG 3 xC) (.agg #[.int .i64 f0,.int .i64 f1,v2]) (Formula.mk f0 f1 f2):=by
  obtain⟨b2,k2,m2⟩:=h2;exact⟨_,xC.mk2 h0 h1 k2,m2⟩
theorem xC.b {N:Nat→Prop} {w:World} {T:TypeId} {b:Nat} {f0:Int} {f1:Int} {f2:List Atom} {v2:Value} (K:Bk N w b [.int .i64 f0,.int .i64 f1,v2] T) (h0:xH f0) (h1:xH f1) (h2:Bo N w (Sl 2 xM) v2 f2):Bo N w (Pt 3 xC) (.pointer (some ⟨b,0,none⟩)) (Formula.mk f0 f1 f2):=by
  obtain⟨b2,k2,m2⟩:=h2;refine⟨_,xC.blk K.1 h0 h1 k2,fun c hc=>?_⟩
  rcases List.mem_cons.1 hc with rfl | hc
  · exact K.2
  · exact(m2) c hc
theorem xC.w {X:List Nat} {N:Nat→Prop} {w0 w:World} {D:List As} {f0:Int} {f1:Int} {f2:List Atom} {v2:Value} {E2:TypeId} (h0:xH f0) (h1:xH f1) (H:Sep X N w0 w (rl 2 xM E2 v2 f2::D)):Sep X N w0 w (ow (V:=qG 3 xC) (.agg #[.int .i64 f0,.int .i64 f1,v2]) (Formula.mk f0 f1 f2)::D):=
  H.dt (fun {Y} hP hm=>by
    obtain⟨b2,c2,r2,o2,x2,y2⟩:=hP
    exact⟨_,xC.mk2 h0 h1 r2.rd,(r2.own o2),(fun c hc=>(List.mem_append.1 hc).elim (x2 c) (y2 c))⟩)
theorem oU.o {N:Nat→Prop} {w:World} {v:Value} {x:Con} (h:Bo N w (qG 2 oU) v x):∃ v1:Value,v= .agg #[.int .i64 x.rel,v1]∧xH x.rel∧Bo N w (Sl 1 xG) v1 x.scope:=by
  obtain⟨bs,h1,h2⟩:=h;obtain⟨v1,b1,e,k0,k1,eb⟩:=oU.rd h1;exact⟨v1,e,k0,⟨b1,k1,fun c hc=>h2 c (by rw[eb];simp [hc])⟩⟩
theorem oU.m {N:Nat→Prop} {w:World} {f0:Int} {f1:List Int} {v1:Value} (h0:xH f0) (h1:Bo N w (Sl 1 xG) v1 f1):Bo N w (qG 2 oU) (.agg #[.int .i64 f0,v1]) (Con.mk f0 f1):=by
  obtain⟨b1,k1,m1⟩:=h1;exact⟨_,oU.mk2 h0 k1,m1⟩
theorem oU.b {N:Nat→Prop} {w:World} {T:TypeId} {b:Nat} {f0:Int} {f1:List Int} {v1:Value} (K:Bk N w b [.int .i64 f0,v1] T) (h0:xH f0) (h1:Bo N w (Sl 1 xG) v1 f1):Bo N w (Pt 2 oU) (.pointer (some ⟨b,0,none⟩)) (Con.mk f0 f1):=by
  obtain⟨b1,k1,m1⟩:=h1;refine⟨_,oU.blk K.1 h0 k1,fun c hc=>?_⟩
  rcases List.mem_cons.1 hc with rfl | hc
  · exact K.2
  · exact(m1) c hc
theorem oU.w {X:List Nat} {N:Nat→Prop} {w0 w:World} {D:List As} {f0:Int} {f1:List Int} {v1:Value} {E1:TypeId} (h0:xH f0) (H:Sep X N w0 w (rl 1 xG E1 v1 f1::D)):Sep X N w0 w (ow (V:=qG 2 oU) (.agg #[.int .i64 f0,v1]) (Con.mk f0 f1)::D):=
  H.dt (fun {Y} hP hm=>by
    obtain⟨b1,c1,r1,o1,x1,y1⟩:=hP
    exact⟨_,oU.mk2 h0 r1.rd,(r1.own o1),(fun c hc=>(List.mem_append.1 hc).elim (x1 c) (y1 c))⟩)
theorem xB.o {N:Nat→Prop} {w:World} {v:Value} {x:Instance} (h:Bo N w (qG 2 xB) v x):∃ v1:Value,v= .agg #[.int .i64 x.vars,v1]∧xH x.vars∧Bo N w (Sl 2 oU) v1 x.cons:=by
  obtain⟨bs,h1,h2⟩:=h;obtain⟨v1,b1,e,k0,k1,eb⟩:=xB.rd h1;exact⟨v1,e,k0,⟨b1,k1,fun c hc=>h2 c (by rw[eb];simp [hc])⟩⟩
theorem xB.m {N:Nat→Prop} {w:World} {f0:Int} {f1:List Con} {v1:Value} (h0:xH f0) (h1:Bo N w (Sl 2 oU) v1 f1):Bo N w (qG 2 xB) (.agg #[.int .i64 f0,v1]) (Instance.mk f0 f1):=by
  obtain⟨b1,k1,m1⟩:=h1;exact⟨_,xB.mk2 h0 k1,m1⟩
theorem xB.b {N:Nat→Prop} {w:World} {T:TypeId} {b:Nat} {f0:Int} {f1:List Con} {v1:Value} (K:Bk N w b [.int .i64 f0,v1] T) (h0:xH f0) (h1:Bo N w (Sl 2 oU) v1 f1):Bo N w (Pt 2 xB) (.pointer (some ⟨b,0,none⟩)) (Instance.mk f0 f1):=by
  obtain⟨b1,k1,m1⟩:=h1;refine⟨_,xB.blk K.1 h0 k1,fun c hc=>?_⟩
  rcases List.mem_cons.1 hc with rfl | hc
  · exact K.2
  · exact(m1) c hc
theorem qP.o {N:Nat→Prop} {w:World} {v:Value} {x:ArcStep} (h:Bo N w (qG 3 qP) v x):v= .agg #[.int .i64 x.var,.int .i64 x.value,.int .i64 x.con]∧xH x.var∧xH x.value∧xH x.con:=by
  obtain⟨bs,h1,h2⟩:=h;obtain⟨e,k0,k1,k2,eb⟩:=qP.rd h1;exact⟨e,k0,k1,k2⟩
theorem qP.m {N:Nat→Prop} {w:World} {f0:Int} {f1:Int} {f2:Int}  (h0:xH f0) (h1:xH f1) (h2:xH f2):Bo N w (qG 3 qP) (.agg #[.int .i64 f0,.int .i64 f1,.int .i64 f2]) (ArcStep.mk f0 f1 f2):=by
  exact⟨_,qP.mk2 h0 h1 h2,fun c hc=>nomatch hc⟩
theorem qP.b {N:Nat→Prop} {w:World} {T:TypeId} {b:Nat} {f0:Int} {f1:Int} {f2:Int}  (K:Bk N w b [.int .i64 f0,.int .i64 f1,.int .i64 f2] T) (h0:xH f0) (h1:xH f1) (h2:xH f2):Bo N w (Pt 3 qP) (.pointer (some ⟨b,0,none⟩)) (ArcStep.mk f0 f1 f2):=by
  refine⟨_,qP.blk K.1 h0 h1 h2,fun c hc=>?_⟩
  rcases List.mem_cons.1 hc with rfl | hc
  · exact K.2
  · exact(fun c hc=>nomatch hc) c hc
instance:Flat qP:=⟨fun _ _ _ _ h=>h.2.2.2.2.2.2⟩
theorem oR.o {N:Nat→Prop} {w:World} {v:Value} {x:PairStep} (h:Bo N w (qG 3 oR) v x):v= .agg #[.int .i64 x.i,.int .i64 x.j,.int .i64 x.through]∧xH x.i∧xH x.j∧xH x.through:=by
  obtain⟨bs,h1,h2⟩:=h;obtain⟨e,k0,k1,k2,eb⟩:=oR.rd h1;exact⟨e,k0,k1,k2⟩
theorem oR.m {N:Nat→Prop} {w:World} {f0:Int} {f1:Int} {f2:Int}  (h0:xH f0) (h1:xH f1) (h2:xH f2):Bo N w (qG 3 oR) (.agg #[.int .i64 f0,.int .i64 f1,.int .i64 f2]) (PairStep.mk f0 f1 f2):=by
  exact⟨_,oR.mk2 h0 h1 h2,fun c hc=>nomatch hc⟩
theorem oR.b {N:Nat→Prop} {w:World} {T:TypeId} {b:Nat} {f0:Int} {f1:Int} {f2:Int}  (K:Bk N w b [.int .i64 f0,.int .i64 f1,.int .i64 f2] T) (h0:xH f0) (h1:xH f1) (h2:xH f2):Bo N w (Pt 3 oR) (.pointer (some ⟨b,0,none⟩)) (PairStep.mk f0 f1 f2):=by
  refine⟨_,oR.blk K.1 h0 h1 h2,fun c hc=>?_⟩
  rcases List.mem_cons.1 hc with rfl | hc
  · exact K.2
  · exact(fun c hc=>nomatch hc) c hc
instance:Flat oR:=⟨fun _ _ _ _ h=>h.2.2.2.2.2.2⟩
theorem zR.o {N:Nat→Prop} {w:World} {v:Value} {x:Verdict} (h:Bo N w (qG 5 zR) v x):∃ v1 v2 v3 v4:Value,v= .agg #[.int .i64 x.kind,v1,v2,v3,v4]∧xH x.kind∧Bo N w (Sl 1 xG) v1 x.values∧Bo N w (Sl 3 qP) v2 x.arcs∧Bo N w (Sl 3 oR) v3 x.pairs∧Bo N w (Sl 1 xG) v4 x.numbers:=by
  obtain⟨bs,h1,h2⟩:=h;obtain⟨v1,v2,v3,v4,b1,b2,b3,b4,e,k0,k1,k2,k3,k4,eb⟩:=zR.rd h1;exact⟨v1,v2,v3,v4,e,k0,⟨b1,k1,fun c hc=>h2 c (by rw[eb];simp [hc])⟩,⟨b2,k2,fun c hc=>h2 c (by rw[eb];simp [hc])⟩,⟨b3,k3,fun c hc=>h2 c (by rw[eb];simp [hc])⟩,⟨b4,k4,fun c hc=>h2 c (by rw[eb];simp [hc])⟩⟩
theorem zR.m {N:Nat→Prop} {w:World} {f0:Int} {f1:List Int} {f2:List ArcStep} {f3:List PairStep} {f4:List Int} {v1:Value} {v2:Value} {v3:Value} {v4:Value} (h0:xH f0) (h1:Bo N w (Sl 1 xG) v1 f1) (h2:Bo N w (Sl 3 qP) v2 f2) (h3:Bo N w (Sl 3 oR) v3 f3) (h4:Bo N w (Sl 1 xG) v4 f4):Bo N w (qG 5 zR) (.agg #[.int .i64 f0,v1,v2,v3,v4]) (Verdict.mk f0 f1 f2 f3 f4):=by
  obtain⟨b1,k1,m1⟩:=h1;obtain⟨b2,k2,m2⟩:=h2;obtain⟨b3,k3,m3⟩:=h3;obtain⟨b4,k4,m4⟩:=h4;exact⟨_,zR.mk2 h0 k1 k2 k3 k4,(fun c hc=>(List.mem_append.1 hc).elim ((fun c hc=>(List.mem_append.1 hc).elim ((fun c hc=>(List.mem_append.1 hc).elim (m1 c) (m2 c)) c) (m3 c)) c) (m4 c))⟩
theorem zR.b {N:Nat→Prop} {w:World} {T:TypeId} {b:Nat} {f0:Int} {f1:List Int} {f2:List ArcStep} {f3:List PairStep} {f4:List Int} {v1:Value} {v2:Value} {v3:Value} {v4:Value} (K:Bk N w b [.int .i64 f0,v1,v2,v3,v4] T) (h0:xH f0) (h1:Bo N w (Sl 1 xG) v1 f1) (h2:Bo N w (Sl 3 qP) v2 f2) (h3:Bo N w (Sl 3 oR) v3 f3) (h4:Bo N w (Sl 1 xG) v4 f4):Bo N w (Pt 5 zR) (.pointer (some ⟨b,0,none⟩)) (Verdict.mk f0 f1 f2 f3 f4):=by
  obtain⟨b1,k1,m1⟩:=h1;obtain⟨b2,k2,m2⟩:=h2;obtain⟨b3,k3,m3⟩:=h3;obtain⟨b4,k4,m4⟩:=h4;refine⟨_,zR.blk K.1 h0 k1 k2 k3 k4,fun c hc=>?_⟩
  rcases List.mem_cons.1 hc with rfl | hc
  · exact K.2
  · exact((fun c hc=>(List.mem_append.1 hc).elim ((fun c hc=>(List.mem_append.1 hc).elim ((fun c hc=>(List.mem_append.1 hc).elim (m1 c) (m2 c)) c) (m3 c)) c) (m4 c))) c hc
theorem vQ.o {N:Nat→Prop} {w:World} {v:Value} {x:Equation} (h:Bo N w (qG 2 vQ) v x):∃ v0:Value,v= .agg #[v0,.int .i64 x.right]∧Bo N w (Sl 1 xG) v0 x.left∧xH x.right:=by
  obtain⟨bs,h1,h2⟩:=h;obtain⟨v0,b0,e,k0,k1,eb⟩:=vQ.rd h1;exact⟨v0,e,⟨b0,k0,fun c hc=>h2 c (by rw[eb];simp [hc])⟩,k1⟩
theorem vQ.m {N:Nat→Prop} {w:World} {f0:List Int} {f1:Int} {v0:Value} (h0:Bo N w (Sl 1 xG) v0 f0) (h1:xH f1):Bo N w (qG 2 vQ) (.agg #[v0,.int .i64 f1]) (Equation.mk f0 f1):=by
  obtain⟨b0,k0,m0⟩:=h0;exact⟨_,vQ.mk2 k0 h1,m0⟩
theorem vQ.b {N:Nat→Prop} {w:World} {T:TypeId} {b:Nat} {f0:List Int} {f1:Int} {v0:Value} (K:Bk N w b [v0,.int .i64 f1] T) (h0:Bo N w (Sl 1 xG) v0 f0) (h1:xH f1):Bo N w (Pt 2 vQ) (.pointer (some ⟨b,0,none⟩)) (Equation.mk f0 f1):=by
  obtain⟨b0,k0,m0⟩:=h0;refine⟨_,vQ.blk K.1 k0 h1,fun c hc=>?_⟩
  rcases List.mem_cons.1 hc with rfl | hc
  · exact K.2
  · exact(m0) c hc
theorem fH.o {N:Nat→Prop} {w:World} {v:Value} {x:Line} (h:Bo N w (qG 4 fH) v x):v= .agg #[.int .i64 x.kind,.int .i64 x.var,.int .i64 x.value,.int .i64 x.con]∧xH x.kind∧xH x.var∧xH x.value∧xH x.con:=by
  obtain⟨bs,h1,h2⟩:=h;obtain⟨e,k0,k1,k2,k3,eb⟩:=fH.rd h1;exact⟨e,k0,k1,k2,k3⟩
theorem fH.m {N:Nat→Prop} {w:World} {f0:Int} {f1:Int} {f2:Int} {f3:Int}  (h0:xH f0) (h1:xH f1) (h2:xH f2) (h3:xH f3):Bo N w (qG 4 fH) (.agg #[.int .i64 f0,.int .i64 f1,.int .i64 f2,.int .i64 f3]) (Line.mk f0 f1 f2 f3):=by
  exact⟨_,fH.mk2 h0 h1 h2 h3,fun c hc=>nomatch hc⟩
theorem fH.b {N:Nat→Prop} {w:World} {T:TypeId} {b:Nat} {f0:Int} {f1:Int} {f2:Int} {f3:Int}  (K:Bk N w b [.int .i64 f0,.int .i64 f1,.int .i64 f2,.int .i64 f3] T) (h0:xH f0) (h1:xH f1) (h2:xH f2) (h3:xH f3):Bo N w (Pt 4 fH) (.pointer (some ⟨b,0,none⟩)) (Line.mk f0 f1 f2 f3):=by
  refine⟨_,fH.blk K.1 h0 h1 h2 h3,fun c hc=>?_⟩
  rcases List.mem_cons.1 hc with rfl | hc
  · exact K.2
  · exact(fun c hc=>nomatch hc) c hc
instance:Flat fH:=⟨fun _ _ _ _ h=>h.2.2.2.2.2.2.2.2⟩
theorem zK.o {N:Nat→Prop} {w:World} {v:Value} {x:Literal} (h:Bo N w (qG 2 zK) v x):v= .agg #[.int .i64 x.var,.int .i64 x.value]∧xH x.var∧xH x.value:=by
  obtain⟨bs,h1,h2⟩:=h;obtain⟨e,k0,k1,eb⟩:=zK.rd h1;exact⟨e,k0,k1⟩
theorem zK.m {N:Nat→Prop} {w:World} {f0:Int} {f1:Int}  (h0:xH f0) (h1:xH f1):Bo N w (qG 2 zK) (.agg #[.int .i64 f0,.int .i64 f1]) (Literal.mk f0 f1):=by
  exact⟨_,zK.mk2 h0 h1,fun c hc=>nomatch hc⟩
theorem zK.b {N:Nat→Prop} {w:World} {T:TypeId} {b:Nat} {f0:Int} {f1:Int}  (K:Bk N w b [.int .i64 f0,.int .i64 f1] T) (h0:xH f0) (h1:xH f1):Bo N w (Pt 2 zK) (.pointer (some ⟨b,0,none⟩)) (Literal.mk f0 f1):=by
  refine⟨_,zK.blk K.1 h0 h1,fun c hc=>?_⟩
  rcases List.mem_cons.1 hc with rfl | hc
  · exact K.2
  · exact(fun c hc=>nomatch hc) c hc
instance:Flat zK:=⟨fun _ _ _ _ h=>h.2.2.2.2⟩
theorem xJ.o {N:Nat→Prop} {w:World} {v:Value} {x:Gadgets} (h:Bo N w (qG 1 xJ) v x):∃ v0:Value,v= .agg #[v0]∧Bo N w (Sl 3 xC) v0 x.formulas:=by
  obtain⟨bs,h1,h2⟩:=h;obtain⟨v0,b0,e,k0,eb⟩:=xJ.rd h1;exact⟨v0,e,⟨b0,k0,fun c hc=>h2 c (by rw[eb];simp [hc])⟩⟩
theorem xJ.m {N:Nat→Prop} {w:World} {f0:List Formula} {v0:Value} (h0:Bo N w (Sl 3 xC) v0 f0):Bo N w (qG 1 xJ) (.agg #[v0]) (Gadgets.mk f0):=by
  obtain⟨b0,k0,m0⟩:=h0;exact⟨_,xJ.mk2 k0,m0⟩
theorem xJ.b {N:Nat→Prop} {w:World} {T:TypeId} {b:Nat} {f0:List Formula} {v0:Value} (K:Bk N w b [v0] T) (h0:Bo N w (Sl 3 xC) v0 f0):Bo N w (Pt 1 xJ) (.pointer (some ⟨b,0,none⟩)) (Gadgets.mk f0):=by
  obtain⟨b0,k0,m0⟩:=h0;refine⟨_,xJ.blk K.1 k0,fun c hc=>?_⟩
  rcases List.mem_cons.1 hc with rfl | hc
  · exact K.2
  · exact(m0) c hc
theorem fK.o {N:Nat→Prop} {w:World} {v:Value} {x:Deed} (h:Bo N w (qG 3 fK) v x):v= .agg #[.int .i64 x.kind,.int .i64 x.a,.int .i64 x.b]∧xH x.kind∧xH x.a∧xH x.b:=by
  obtain⟨bs,h1,h2⟩:=h;obtain⟨e,k0,k1,k2,eb⟩:=fK.rd h1;exact⟨e,k0,k1,k2⟩
theorem fK.m {N:Nat→Prop} {w:World} {f0:Int} {f1:Int} {f2:Int}  (h0:xH f0) (h1:xH f1) (h2:xH f2):Bo N w (qG 3 fK) (.agg #[.int .i64 f0,.int .i64 f1,.int .i64 f2]) (Deed.mk f0 f1 f2):=by
  exact⟨_,fK.mk2 h0 h1 h2,fun c hc=>nomatch hc⟩
theorem fK.b {N:Nat→Prop} {w:World} {T:TypeId} {b:Nat} {f0:Int} {f1:Int} {f2:Int}  (K:Bk N w b [.int .i64 f0,.int .i64 f1,.int .i64 f2] T) (h0:xH f0) (h1:xH f1) (h2:xH f2):Bo N w (Pt 3 fK) (.pointer (some ⟨b,0,none⟩)) (Deed.mk f0 f1 f2):=by
  refine⟨_,fK.blk K.1 h0 h1 h2,fun c hc=>?_⟩
  rcases List.mem_cons.1 hc with rfl | hc
  · exact K.2
  · exact(fun c hc=>nomatch hc) c hc
instance:Flat fK:=⟨fun _ _ _ _ h=>h.2.2.2.2.2.2⟩
theorem qZ.o {N:Nat→Prop} {w:World} {v:Value} {x:solver} (h:Bo N w (qG 4 qZ) v x):∃ v1 v3:Value,v= .agg #[.int .i64 x.t.size,v1,.int .i64 x.vars,v3]∧xH x.t.size∧Bo N w (Sl 2 oV) v1 x.t.rels∧xH x.vars∧Bo N w (Sl 1 (fG 2 xM)) v3 x.due:=by
  obtain⟨bs,h1,h2⟩:=h;obtain⟨v1,v3,b1,b3,e,k0,k1,k2,k3,eb⟩:=qZ.rd h1;exact⟨v1,v3,e,k0,⟨b1,k1,fun c hc=>h2 c (by rw[eb];simp [hc])⟩,k2,⟨b3,k3,fun c hc=>h2 c (by rw[eb];simp [hc])⟩⟩
theorem qZ.m {N:Nat→Prop} {w:World} {f0:Int} {f1:List Rel} {f2:Int} {f3:List (List Atom)} {v1:Value} {v3:Value} (h0:xH f0) (h1:Bo N w (Sl 2 oV) v1 f1) (h2:xH f2) (h3:Bo N w (Sl 1 (fG 2 xM)) v3 f3):Bo N w (qG 4 qZ) (.agg #[.int .i64 f0,v1,.int .i64 f2,v3]) (solver.mk (Template.mk f0 f1) f2 f3):=by
  obtain⟨b1,k1,m1⟩:=h1;obtain⟨b3,k3,m3⟩:=h3;exact⟨_,qZ.mk2 h0 k1 h2 k3,(fun c hc=>(List.mem_append.1 hc).elim (m1 c) (m3 c))⟩
theorem qZ.b {N:Nat→Prop} {w:World} {T:TypeId} {b:Nat} {f0:Int} {f1:List Rel} {f2:Int} {f3:List (List Atom)} {v1:Value} {v3:Value} (K:Bk N w b [.int .i64 f0,v1,.int .i64 f2,v3] T) (h0:xH f0) (h1:Bo N w (Sl 2 oV) v1 f1) (h2:xH f2) (h3:Bo N w (Sl 1 (fG 2 xM)) v3 f3):Bo N w (Pt 4 qZ) (.pointer (some ⟨b,0,none⟩)) (solver.mk (Template.mk f0 f1) f2 f3):=by
  obtain⟨b1,k1,m1⟩:=h1;obtain⟨b3,k3,m3⟩:=h3;refine⟨_,qZ.blk K.1 h0 k1 h2 k3,fun c hc=>?_⟩
  rcases List.mem_cons.1 hc with rfl | hc
  · exact K.2
  · exact((fun c hc=>(List.mem_append.1 hc).elim (m1 c) (m3 c))) c hc
theorem vO.o {N:Nat→Prop} {w:World} {v:Value} {x:l05Find} (h:Bo N w (qG 5 vO) v x):∃ v0 v1 v3:Value,v= .agg #[v0,v1,.int .i64 x.most,v3,.int .i64 x.n]∧Bo N w (Pt 2 xA) v0 x.t∧Bo N w (Pt 2 xB) v1 x.x∧xH x.most∧Bo N w (Sl 1 dM) v3 x.list∧xH x.n:=by
  obtain⟨bs,h1,h2⟩:=h;obtain⟨v0,v1,v3,b0,b1,b3,e,k0,k1,k2,k3,k4,eb⟩:=vO.rd h1;exact⟨v0,v1,v3,e,⟨b0,k0,fun c hc=>h2 c (by rw[eb];simp [hc])⟩,⟨b1,k1,fun c hc=>h2 c (by rw[eb];simp [hc])⟩,k2,⟨b3,k3,fun c hc=>h2 c (by rw[eb];simp [hc])⟩,k4⟩
theorem vO.m {N:Nat→Prop} {w:World} {f0:Template} {f1:Instance} {f2:Int} {f3:List (List Int)} {f4:Int} {v0:Value} {v1:Value} {v3:Value} (h0:Bo N w (Pt 2 xA) v0 f0) (h1:Bo N w (Pt 2 xB) v1 f1) (h2:xH f2) (h3:Bo N w (Sl 1 dM) v3 f3) (h4:xH f4):Bo N w (qG 5 vO) (.agg #[v0,v1,.int .i64 f2,v3,.int .i64 f4]) (l05Find.mk f0 f1 f2 f3 f4):=by
  obtain⟨b0,k0,m0⟩:=h0;obtain⟨b1,k1,m1⟩:=h1;obtain⟨b3,k3,m3⟩:=h3;exact⟨_,vO.mk2 k0 k1 h2 k3 h4,(fun c hc=>(List.mem_append.1 hc).elim ((fun c hc=>(List.mem_append.1 hc).elim (m0 c) (m1 c)) c) (m3 c))⟩
theorem vO.b {N:Nat→Prop} {w:World} {T:TypeId} {b:Nat} {f0:Template} {f1:Instance} {f2:Int} {f3:List (List Int)} {f4:Int} {v0:Value} {v1:Value} {v3:Value} (K:Bk N w b [v0,v1,.int .i64 f2,v3,.int .i64 f4] T) (h0:Bo N w (Pt 2 xA) v0 f0) (h1:Bo N w (Pt 2 xB) v1 f1) (h2:xH f2) (h3:Bo N w (Sl 1 dM) v3 f3) (h4:xH f4):Bo N w (Pt 5 vO) (.pointer (some ⟨b,0,none⟩)) (l05Find.mk f0 f1 f2 f3 f4):=by
  obtain⟨b0,k0,m0⟩:=h0;obtain⟨b1,k1,m1⟩:=h1;obtain⟨b3,k3,m3⟩:=h3;refine⟨_,vO.blk K.1 k0 k1 h2 k3 h4,fun c hc=>?_⟩
  rcases List.mem_cons.1 hc with rfl | hc
  · exact K.2
  · exact((fun c hc=>(List.mem_append.1 hc).elim ((fun c hc=>(List.mem_append.1 hc).elim (m0 c) (m1 c)) c) (m3 c))) c hc
theorem lL.o {N:Nat→Prop} {w:World} {v:Value} {x:told} (h:Bo N w (qG 2 lL) v x):∃ v0:Value,v= .agg #[v0,.int .i64 x.var]∧Bo N w (Sl 1 xG) v0 x.left∧xH x.var:=by
  obtain⟨bs,h1,h2⟩:=h;obtain⟨v0,b0,e,k0,k1,eb⟩:=lL.rd h1;exact⟨v0,e,⟨b0,k0,fun c hc=>h2 c (by rw[eb];simp [hc])⟩,k1⟩
theorem lL.m {N:Nat→Prop} {w:World} {f0:List Int} {f1:Int} {v0:Value} (h0:Bo N w (Sl 1 xG) v0 f0) (h1:xH f1):Bo N w (qG 2 lL) (.agg #[v0,.int .i64 f1]) (told.mk f0 f1):=by
  obtain⟨b0,k0,m0⟩:=h0;exact⟨_,lL.mk2 k0 h1,m0⟩
theorem lL.b {N:Nat→Prop} {w:World} {T:TypeId} {b:Nat} {f0:List Int} {f1:Int} {v0:Value} (K:Bk N w b [v0,.int .i64 f1] T) (h0:Bo N w (Sl 1 xG) v0 f0) (h1:xH f1):Bo N w (Pt 2 lL) (.pointer (some ⟨b,0,none⟩)) (told.mk f0 f1):=by
  obtain⟨b0,k0,m0⟩:=h0;refine⟨_,lL.blk K.1 k0 h1,fun c hc=>?_⟩
  rcases List.mem_cons.1 hc with rfl | hc
  · exact K.2
  · exact(m0) c hc
theorem kO.o {N:Nat→Prop} {w:World} {v:Value} {x:l08Level} (h:Bo N w (qG 3 kO) v x):∃ v0:Value,v= .agg #[v0,.int .i64 x.chosen.var,.int .i64 x.chosen.value]∧Bo N w (Sl 1 dM) v0 x.domains∧xH x.chosen.var∧xH x.chosen.value:=by
  obtain⟨bs,h1,h2⟩:=h;obtain⟨v0,b0,e,k0,k1,k2,eb⟩:=kO.rd h1;exact⟨v0,e,⟨b0,k0,fun c hc=>h2 c (by rw[eb];simp [hc])⟩,k1,k2⟩
theorem kO.m {N:Nat→Prop} {w:World} {f0:List (List Int)} {f1:Int} {f2:Int} {v0:Value} (h0:Bo N w (Sl 1 dM) v0 f0) (h1:xH f1) (h2:xH f2):Bo N w (qG 3 kO) (.agg #[v0,.int .i64 f1,.int .i64 f2]) (l08Level.mk f0 (Literal.mk f1 f2)):=by
  obtain⟨b0,k0,m0⟩:=h0;exact⟨_,kO.mk2 k0 h1 h2,m0⟩
theorem kO.b {N:Nat→Prop} {w:World} {T:TypeId} {b:Nat} {f0:List (List Int)} {f1:Int} {f2:Int} {v0:Value} (K:Bk N w b [v0,.int .i64 f1,.int .i64 f2] T) (h0:Bo N w (Sl 1 dM) v0 f0) (h1:xH f1) (h2:xH f2):Bo N w (Pt 3 kO) (.pointer (some ⟨b,0,none⟩)) (l08Level.mk f0 (Literal.mk f1 f2)):=by
  obtain⟨b0,k0,m0⟩:=h0;refine⟨_,kO.blk K.1 k0 h1 h2,fun c hc=>?_⟩
  rcases List.mem_cons.1 hc with rfl | hc
  · exact K.2
  · exact(m0) c hc
theorem fT.o {N:Nat→Prop} {w:World} {v:Value} {x:House} (h:Bo N w (qG 4 fT) v x):∃ v1 v2:Value,v= .agg #[.int .i64 x.template.size,v1,v2,.int .i64 x.clerks]∧xH x.template.size∧Bo N w (Sl 2 oV) v1 x.template.rels∧Bo N w (Sl 2 xB) v2 x.jobs∧xH x.clerks:=by
  obtain⟨bs,h1,h2⟩:=h;obtain⟨v1,v2,b1,b2,e,k0,k1,k2,k3,eb⟩:=fT.rd h1;exact⟨v1,v2,e,k0,⟨b1,k1,fun c hc=>h2 c (by rw[eb];simp [hc])⟩,⟨b2,k2,fun c hc=>h2 c (by rw[eb];simp [hc])⟩,k3⟩
theorem fT.m {N:Nat→Prop} {w:World} {f0:Int} {f1:List Rel} {f2:List Instance} {f3:Int} {v1:Value} {v2:Value} (h0:xH f0) (h1:Bo N w (Sl 2 oV) v1 f1) (h2:Bo N w (Sl 2 xB) v2 f2) (h3:xH f3):Bo N w (qG 4 fT) (.agg #[.int .i64 f0,v1,v2,.int .i64 f3]) (House.mk (Template.mk f0 f1) f2 f3):=by
  obtain⟨b1,k1,m1⟩:=h1;obtain⟨b2,k2,m2⟩:=h2;exact⟨_,fT.mk2 h0 k1 k2 h3,(fun c hc=>(List.mem_append.1 hc).elim (m1 c) (m2 c))⟩
theorem fT.b {N:Nat→Prop} {w:World} {T:TypeId} {b:Nat} {f0:Int} {f1:List Rel} {f2:List Instance} {f3:Int} {v1:Value} {v2:Value} (K:Bk N w b [.int .i64 f0,v1,v2,.int .i64 f3] T) (h0:xH f0) (h1:Bo N w (Sl 2 oV) v1 f1) (h2:Bo N w (Sl 2 xB) v2 f2) (h3:xH f3):Bo N w (Pt 4 fT) (.pointer (some ⟨b,0,none⟩)) (House.mk (Template.mk f0 f1) f2 f3):=by
  obtain⟨b1,k1,m1⟩:=h1;obtain⟨b2,k2,m2⟩:=h2;refine⟨_,fT.blk K.1 h0 k1 k2 h3,fun c hc=>?_⟩
  rcases List.mem_cons.1 hc with rfl | hc
  · exact K.2
  · exact((fun c hc=>(List.mem_append.1 hc).elim (m1 c) (m2 c))) c hc
theorem cS.o {N:Nat→Prop} {w:World} {v:Value} {x:l01Set} (h:Bo N w (qG 3 cS) v x):∃ v2:Value,v= .agg #[.int .i64 x.size,.int .i64 x.arity,v2]∧xH x.size∧xH x.arity∧Bo N w (Sl 1 wU) v2 x.has:=by
  obtain⟨bs,h1,h2⟩:=h;obtain⟨v2,b2,e,k0,k1,k2,eb⟩:=cS.rd h1;exact⟨v2,e,k0,k1,⟨b2,k2,fun c hc=>h2 c (by rw[eb];simp [hc])⟩⟩
theorem cS.m {N:Nat→Prop} {w:World} {f0:Int} {f1:Int} {f2:List Bool} {v2:Value} (h0:xH f0) (h1:xH f1) (h2:Bo N w (Sl 1 wU) v2 f2):Bo N w (qG 3 cS) (.agg #[.int .i64 f0,.int .i64 f1,v2]) (l01Set.mk f0 f1 f2):=by
  obtain⟨b2,k2,m2⟩:=h2;exact⟨_,cS.mk2 h0 h1 k2,m2⟩
theorem cS.b {N:Nat→Prop} {w:World} {T:TypeId} {b:Nat} {f0:Int} {f1:Int} {f2:List Bool} {v2:Value} (K:Bk N w b [.int .i64 f0,.int .i64 f1,v2] T) (h0:xH f0) (h1:xH f1) (h2:Bo N w (Sl 1 wU) v2 f2):Bo N w (Pt 3 cS) (.pointer (some ⟨b,0,none⟩)) (l01Set.mk f0 f1 f2):=by
  obtain⟨b2,k2,m2⟩:=h2;refine⟨_,cS.blk K.1 h0 h1 k2,fun c hc=>?_⟩
  rcases List.mem_cons.1 hc with rfl | hc
  · exact K.2
  · exact(m2) c hc
end Go.Proofs.YtlommebgedmjdaaGreatDoor
