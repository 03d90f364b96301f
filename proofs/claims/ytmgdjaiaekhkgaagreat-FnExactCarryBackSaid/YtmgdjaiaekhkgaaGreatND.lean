/-
  The structs, as readings in blocks of N. Printed by gen_nd.py. No program.
-/
import Derived.Test.YtmgdjaiaekhkgaaGreatNC
import Derived.Test.YtmgdjaiaekhkgaaGreatUX
namespace Go.Proofs.YtmgdjaiaekhkgaaGreat
set_option linter.unusedVariables false
set_option linter.unusedSimpArgs false
open Go.RowKit
theorem Bk.of {w : World} {b : Nat} {cs : List Value} {T : TypeId} (h : Blk w b cs.toArray T) : Bk (All w) w b cs T := ⟨h, h.lt⟩
theorem c1I {N : Nat → Prop} {w : World} {T : TypeId} {b : Nat} {x : Int} (K : Bk N w b [.int .i64 x] T) (h : I64 x) : Bo N w (Pt 1 RInt) (.pointer (some ⟨b, 0, none⟩)) x := ⟨_, cell1I K.1 h, fun c hc => by rw [List.mem_singleton] at hc; subst hc; exact K.2⟩
theorem c1S {α : Type} {sz : Nat} {R : ER α} {N : Nat → Prop} {w : World} {T : TypeId} {b : Nat} {v : Value} {x : List α} (K : Bk N w b [v] T) (h : Bo N w (Sl sz R) v x) : Bo N w (Pt 1 (RSl sz R)) (.pointer (some ⟨b, 0, none⟩)) x := let ⟨_, h1, h2⟩ := h; ⟨_, cell1S K.1 h1, fun c hc => by
  rcases List.mem_cons.1 hc with rfl | hc
  · exact K.2
  · exact h2 c hc⟩
theorem Bo.one {α : Type} {sz : Nat} {R : ER α} {N : Nat → Prop} {w : World} {v : Value} {x : List α} (h : Bo N w (Sl sz R) v x) : v.oneCell' = true := let ⟨_, h1, _⟩ := h; h1.r.one
theorem Bo.pone {α : Type} {sz : Nat} {R : ER α} {N : Nat → Prop} {w : World} {v : Value} {x : α} (h : Bo N w (Pt sz R) v x) : v.oneCell' = true := by
  obtain ⟨_, ⟨⟨b, o, bi, rfl, _⟩, _⟩, _⟩ := h
  rfl
theorem c1P {α : Type} {sz : Nat} {R : ER α} {N : Nat → Prop} {w : World} {T : TypeId} {b : Nat} {v : Value} {x : α} (K : Bk N w b [v] T) (h : Bo N w (Pt sz R) v x) : Bo N w (Pt 1 (RP sz R)) (.pointer (some ⟨b, 0, none⟩)) x := let ⟨_, h1, h2⟩ := h; ⟨_, cell1P K.1 h1, fun c hc => by
  rcases List.mem_cons.1 hc with rfl | hc
  · exact K.2
  · exact h2 c hc⟩
theorem RRel.o {N : Nat → Prop} {w : World} {v : Value} {x : Rel} (h : Bo N w (Agg 2 RRel) v x) : ∃ v1 : Value, v = .agg #[.int .i64 x.arity, v1] ∧ I64 x.arity ∧ Bo N w (Sl 1 RInts) v1 x.tuples := by
  obtain ⟨bs, h1, h2⟩ := h
  obtain ⟨v1, b1, e, k0, k1, eb⟩ := RRel.rd h1
  exact ⟨v1, e, k0, ⟨b1, k1, fun c hc => h2 c (by rw [eb]; simp [hc])⟩⟩
theorem RRel.m {N : Nat → Prop} {w : World} {f0 : Int} {f1 : List (List Int)} {v1 : Value} (h0 : I64 f0) (h1 : Bo N w (Sl 1 RInts) v1 f1) : Bo N w (Agg 2 RRel) (.agg #[.int .i64 f0, v1]) (Rel.mk f0 f1) := by
  obtain ⟨b1, k1, m1⟩ := h1
  exact ⟨_, RRel.mk2 h0 k1, m1⟩
theorem RRel.b {N : Nat → Prop} {w : World} {T : TypeId} {b : Nat} {f0 : Int} {f1 : List (List Int)} {v1 : Value} (K : Bk N w b [.int .i64 f0, v1] T) (h0 : I64 f0) (h1 : Bo N w (Sl 1 RInts) v1 f1) : Bo N w (Pt 2 RRel) (.pointer (some ⟨b, 0, none⟩)) (Rel.mk f0 f1) := by
  obtain ⟨b1, k1, m1⟩ := h1
  refine ⟨_, RRel.blk K.1 h0 k1, fun c hc => ?_⟩
  rcases List.mem_cons.1 hc with rfl | hc
  · exact K.2
  · exact (m1) c hc
theorem RRel.w {X : List Nat} {N : Nat → Prop} {w0 w : World} {D : List As} {f0 : Int} {f1 : List (List Int)} {v1 : Value} {E1 : TypeId} (h0 : I64 f0) (H : Sep X N w0 w (rl 1 RInts E1 v1 f1 :: D)) : Sep X N w0 w (ow (V := Agg 2 RRel) (.agg #[.int .i64 f0, v1]) (Rel.mk f0 f1) :: D) :=
  H.dt (fun {Y} hP hm => by
    obtain ⟨b1, c1, r1, o1, x1, y1⟩ := hP
    exact ⟨_, RRel.mk2 h0 r1.rd, (r1.own o1), (fun c hc => (List.mem_append.1 hc).elim (x1 c) (y1 c))⟩)
theorem RTemplate.o {N : Nat → Prop} {w : World} {v : Value} {x : Template} (h : Bo N w (Agg 2 RTemplate) v x) : ∃ v1 : Value, v = .agg #[.int .i64 x.size, v1] ∧ I64 x.size ∧ Bo N w (Sl 2 RRel) v1 x.rels := by
  obtain ⟨bs, h1, h2⟩ := h
  obtain ⟨v1, b1, e, k0, k1, eb⟩ := RTemplate.rd h1
  exact ⟨v1, e, k0, ⟨b1, k1, fun c hc => h2 c (by rw [eb]; simp [hc])⟩⟩
theorem RTemplate.m {N : Nat → Prop} {w : World} {f0 : Int} {f1 : List Rel} {v1 : Value} (h0 : I64 f0) (h1 : Bo N w (Sl 2 RRel) v1 f1) : Bo N w (Agg 2 RTemplate) (.agg #[.int .i64 f0, v1]) (Template.mk f0 f1) := by
  obtain ⟨b1, k1, m1⟩ := h1
  exact ⟨_, RTemplate.mk2 h0 k1, m1⟩
theorem RTemplate.b {N : Nat → Prop} {w : World} {T : TypeId} {b : Nat} {f0 : Int} {f1 : List Rel} {v1 : Value} (K : Bk N w b [.int .i64 f0, v1] T) (h0 : I64 f0) (h1 : Bo N w (Sl 2 RRel) v1 f1) : Bo N w (Pt 2 RTemplate) (.pointer (some ⟨b, 0, none⟩)) (Template.mk f0 f1) := by
  obtain ⟨b1, k1, m1⟩ := h1
  refine ⟨_, RTemplate.blk K.1 h0 k1, fun c hc => ?_⟩
  rcases List.mem_cons.1 hc with rfl | hc
  · exact K.2
  · exact (m1) c hc
theorem RTemplate.w {X : List Nat} {N : Nat → Prop} {w0 w : World} {D : List As} {f0 : Int} {f1 : List Rel} {v1 : Value} {E1 : TypeId} (h0 : I64 f0) (H : Sep X N w0 w (rl 2 RRel E1 v1 f1 :: D)) : Sep X N w0 w (ow (V := Agg 2 RTemplate) (.agg #[.int .i64 f0, v1]) (Template.mk f0 f1) :: D) :=
  H.dt (fun {Y} hP hm => by
    obtain ⟨b1, c1, r1, o1, x1, y1⟩ := hP
    exact ⟨_, RTemplate.mk2 h0 r1.rd, (r1.own o1), (fun c hc => (List.mem_append.1 hc).elim (x1 c) (y1 c))⟩)
theorem ROp.o {N : Nat → Prop} {w : World} {v : Value} {x : Op} (h : Bo N w (Agg 2 ROp) v x) : ∃ v1 : Value, v = .agg #[.int .i64 x.arity, v1] ∧ I64 x.arity ∧ Bo N w (Sl 1 RInt) v1 x.table := by
  obtain ⟨bs, h1, h2⟩ := h
  obtain ⟨v1, b1, e, k0, k1, eb⟩ := ROp.rd h1
  exact ⟨v1, e, k0, ⟨b1, k1, fun c hc => h2 c (by rw [eb]; simp [hc])⟩⟩
theorem ROp.m {N : Nat → Prop} {w : World} {f0 : Int} {f1 : List Int} {v1 : Value} (h0 : I64 f0) (h1 : Bo N w (Sl 1 RInt) v1 f1) : Bo N w (Agg 2 ROp) (.agg #[.int .i64 f0, v1]) (Op.mk f0 f1) := by
  obtain ⟨b1, k1, m1⟩ := h1
  exact ⟨_, ROp.mk2 h0 k1, m1⟩
theorem ROp.b {N : Nat → Prop} {w : World} {T : TypeId} {b : Nat} {f0 : Int} {f1 : List Int} {v1 : Value} (K : Bk N w b [.int .i64 f0, v1] T) (h0 : I64 f0) (h1 : Bo N w (Sl 1 RInt) v1 f1) : Bo N w (Pt 2 ROp) (.pointer (some ⟨b, 0, none⟩)) (Op.mk f0 f1) := by
  obtain ⟨b1, k1, m1⟩ := h1
  refine ⟨_, ROp.blk K.1 h0 k1, fun c hc => ?_⟩
  rcases List.mem_cons.1 hc with rfl | hc
  · exact K.2
  · exact (m1) c hc
theorem ROp.w {X : List Nat} {N : Nat → Prop} {w0 w : World} {D : List As} {f0 : Int} {f1 : List Int} {v1 : Value} {E1 : TypeId} (h0 : I64 f0) (H : Sep X N w0 w (rl 1 RInt E1 v1 f1 :: D)) : Sep X N w0 w (ow (V := Agg 2 ROp) (.agg #[.int .i64 f0, v1]) (Op.mk f0 f1) :: D) :=
  H.dt (fun {Y} hP hm => by
    obtain ⟨b1, c1, r1, o1, x1, y1⟩ := hP
    exact ⟨_, ROp.mk2 h0 r1.rd, (r1.own o1), (fun c hc => (List.mem_append.1 hc).elim (x1 c) (y1 c))⟩)
theorem RAtom.o {N : Nat → Prop} {w : World} {v : Value} {x : Atom} (h : Bo N w (Agg 2 RAtom) v x) : ∃ v1 : Value, v = .agg #[.int .i64 x.rel, v1] ∧ I64 x.rel ∧ Bo N w (Sl 1 RInt) v1 x.args := by
  obtain ⟨bs, h1, h2⟩ := h
  obtain ⟨v1, b1, e, k0, k1, eb⟩ := RAtom.rd h1
  exact ⟨v1, e, k0, ⟨b1, k1, fun c hc => h2 c (by rw [eb]; simp [hc])⟩⟩
theorem RAtom.m {N : Nat → Prop} {w : World} {f0 : Int} {f1 : List Int} {v1 : Value} (h0 : I64 f0) (h1 : Bo N w (Sl 1 RInt) v1 f1) : Bo N w (Agg 2 RAtom) (.agg #[.int .i64 f0, v1]) (Atom.mk f0 f1) := by
  obtain ⟨b1, k1, m1⟩ := h1
  exact ⟨_, RAtom.mk2 h0 k1, m1⟩
theorem RAtom.b {N : Nat → Prop} {w : World} {T : TypeId} {b : Nat} {f0 : Int} {f1 : List Int} {v1 : Value} (K : Bk N w b [.int .i64 f0, v1] T) (h0 : I64 f0) (h1 : Bo N w (Sl 1 RInt) v1 f1) : Bo N w (Pt 2 RAtom) (.pointer (some ⟨b, 0, none⟩)) (Atom.mk f0 f1) := by
  obtain ⟨b1, k1, m1⟩ := h1
  refine ⟨_, RAtom.blk K.1 h0 k1, fun c hc => ?_⟩
  rcases List.mem_cons.1 hc with rfl | hc
  · exact K.2
  · exact (m1) c hc
theorem RAtom.w {X : List Nat} {N : Nat → Prop} {w0 w : World} {D : List As} {f0 : Int} {f1 : List Int} {v1 : Value} {E1 : TypeId} (h0 : I64 f0) (H : Sep X N w0 w (rl 1 RInt E1 v1 f1 :: D)) : Sep X N w0 w (ow (V := Agg 2 RAtom) (.agg #[.int .i64 f0, v1]) (Atom.mk f0 f1) :: D) :=
  H.dt (fun {Y} hP hm => by
    obtain ⟨b1, c1, r1, o1, x1, y1⟩ := hP
    exact ⟨_, RAtom.mk2 h0 r1.rd, (r1.own o1), (fun c hc => (List.mem_append.1 hc).elim (x1 c) (y1 c))⟩)
theorem RFormula.o {N : Nat → Prop} {w : World} {v : Value} {x : Formula} (h : Bo N w (Agg 3 RFormula) v x) : ∃ v2 : Value, v = .agg #[.int .i64 x.free, .int .i64 x.vars, v2] ∧ I64 x.free ∧ I64 x.vars ∧ Bo N w (Sl 2 RAtom) v2 x.atoms := by
  obtain ⟨bs, h1, h2⟩ := h
  obtain ⟨v2, b2, e, k0, k1, k2, eb⟩ := RFormula.rd h1
  exact ⟨v2, e, k0, k1, ⟨b2, k2, fun c hc => h2 c (by rw [eb]; simp [hc])⟩⟩
theorem RFormula.m {N : Nat → Prop} {w : World} {f0 : Int} {f1 : Int} {f2 : List Atom} {v2 : Value} (h0 : I64 f0) (h1 : I64 f1) (h2 : Bo N w (Sl 2 RAtom) v2 f2) : Bo N w (Agg 3 RFormula) (.agg #[.int .i64 f0, .int .i64 f1, v2]) (Formula.mk f0 f1 f2) := by
  obtain ⟨b2, k2, m2⟩ := h2
  exact ⟨_, RFormula.mk2 h0 h1 k2, m2⟩
theorem RFormula.b {N : Nat → Prop} {w : World} {T : TypeId} {b : Nat} {f0 : Int} {f1 : Int} {f2 : List Atom} {v2 : Value} (K : Bk N w b [.int .i64 f0, .int .i64 f1, v2] T) (h0 : I64 f0) (h1 : I64 f1) (h2 : Bo N w (Sl 2 RAtom) v2 f2) : Bo N w (Pt 3 RFormula) (.pointer (some ⟨b, 0, none⟩)) (Formula.mk f0 f1 f2) := by
  obtain ⟨b2, k2, m2⟩ := h2
  refine ⟨_, RFormula.blk K.1 h0 h1 k2, fun c hc => ?_⟩
  rcases List.mem_cons.1 hc with rfl | hc
  · exact K.2
  · exact (m2) c hc
theorem RFormula.w {X : List Nat} {N : Nat → Prop} {w0 w : World} {D : List As} {f0 : Int} {f1 : Int} {f2 : List Atom} {v2 : Value} {E2 : TypeId} (h0 : I64 f0) (h1 : I64 f1) (H : Sep X N w0 w (rl 2 RAtom E2 v2 f2 :: D)) : Sep X N w0 w (ow (V := Agg 3 RFormula) (.agg #[.int .i64 f0, .int .i64 f1, v2]) (Formula.mk f0 f1 f2) :: D) :=
  H.dt (fun {Y} hP hm => by
    obtain ⟨b2, c2, r2, o2, x2, y2⟩ := hP
    exact ⟨_, RFormula.mk2 h0 h1 r2.rd, (r2.own o2), (fun c hc => (List.mem_append.1 hc).elim (x2 c) (y2 c))⟩)
theorem RCon.o {N : Nat → Prop} {w : World} {v : Value} {x : Con} (h : Bo N w (Agg 2 RCon) v x) : ∃ v1 : Value, v = .agg #[.int .i64 x.rel, v1] ∧ I64 x.rel ∧ Bo N w (Sl 1 RInt) v1 x.scope := by
  obtain ⟨bs, h1, h2⟩ := h
  obtain ⟨v1, b1, e, k0, k1, eb⟩ := RCon.rd h1
  exact ⟨v1, e, k0, ⟨b1, k1, fun c hc => h2 c (by rw [eb]; simp [hc])⟩⟩
theorem RCon.m {N : Nat → Prop} {w : World} {f0 : Int} {f1 : List Int} {v1 : Value} (h0 : I64 f0) (h1 : Bo N w (Sl 1 RInt) v1 f1) : Bo N w (Agg 2 RCon) (.agg #[.int .i64 f0, v1]) (Con.mk f0 f1) := by
  obtain ⟨b1, k1, m1⟩ := h1
  exact ⟨_, RCon.mk2 h0 k1, m1⟩
theorem RCon.b {N : Nat → Prop} {w : World} {T : TypeId} {b : Nat} {f0 : Int} {f1 : List Int} {v1 : Value} (K : Bk N w b [.int .i64 f0, v1] T) (h0 : I64 f0) (h1 : Bo N w (Sl 1 RInt) v1 f1) : Bo N w (Pt 2 RCon) (.pointer (some ⟨b, 0, none⟩)) (Con.mk f0 f1) := by
  obtain ⟨b1, k1, m1⟩ := h1
  refine ⟨_, RCon.blk K.1 h0 k1, fun c hc => ?_⟩
  rcases List.mem_cons.1 hc with rfl | hc
  · exact K.2
  · exact (m1) c hc
theorem RCon.w {X : List Nat} {N : Nat → Prop} {w0 w : World} {D : List As} {f0 : Int} {f1 : List Int} {v1 : Value} {E1 : TypeId} (h0 : I64 f0) (H : Sep X N w0 w (rl 1 RInt E1 v1 f1 :: D)) : Sep X N w0 w (ow (V := Agg 2 RCon) (.agg #[.int .i64 f0, v1]) (Con.mk f0 f1) :: D) :=
  H.dt (fun {Y} hP hm => by
    obtain ⟨b1, c1, r1, o1, x1, y1⟩ := hP
    exact ⟨_, RCon.mk2 h0 r1.rd, (r1.own o1), (fun c hc => (List.mem_append.1 hc).elim (x1 c) (y1 c))⟩)
theorem RInstance.o {N : Nat → Prop} {w : World} {v : Value} {x : Instance} (h : Bo N w (Agg 2 RInstance) v x) : ∃ v1 : Value, v = .agg #[.int .i64 x.vars, v1] ∧ I64 x.vars ∧ Bo N w (Sl 2 RCon) v1 x.cons := by
  obtain ⟨bs, h1, h2⟩ := h
  obtain ⟨v1, b1, e, k0, k1, eb⟩ := RInstance.rd h1
  exact ⟨v1, e, k0, ⟨b1, k1, fun c hc => h2 c (by rw [eb]; simp [hc])⟩⟩
theorem RInstance.m {N : Nat → Prop} {w : World} {f0 : Int} {f1 : List Con} {v1 : Value} (h0 : I64 f0) (h1 : Bo N w (Sl 2 RCon) v1 f1) : Bo N w (Agg 2 RInstance) (.agg #[.int .i64 f0, v1]) (Instance.mk f0 f1) := by
  obtain ⟨b1, k1, m1⟩ := h1
  exact ⟨_, RInstance.mk2 h0 k1, m1⟩
theorem RInstance.b {N : Nat → Prop} {w : World} {T : TypeId} {b : Nat} {f0 : Int} {f1 : List Con} {v1 : Value} (K : Bk N w b [.int .i64 f0, v1] T) (h0 : I64 f0) (h1 : Bo N w (Sl 2 RCon) v1 f1) : Bo N w (Pt 2 RInstance) (.pointer (some ⟨b, 0, none⟩)) (Instance.mk f0 f1) := by
  obtain ⟨b1, k1, m1⟩ := h1
  refine ⟨_, RInstance.blk K.1 h0 k1, fun c hc => ?_⟩
  rcases List.mem_cons.1 hc with rfl | hc
  · exact K.2
  · exact (m1) c hc
theorem RInstance.w {X : List Nat} {N : Nat → Prop} {w0 w : World} {D : List As} {f0 : Int} {f1 : List Con} {v1 : Value} {E1 : TypeId} (h0 : I64 f0) (H : Sep X N w0 w (rl 2 RCon E1 v1 f1 :: D)) : Sep X N w0 w (ow (V := Agg 2 RInstance) (.agg #[.int .i64 f0, v1]) (Instance.mk f0 f1) :: D) :=
  H.dt (fun {Y} hP hm => by
    obtain ⟨b1, c1, r1, o1, x1, y1⟩ := hP
    exact ⟨_, RInstance.mk2 h0 r1.rd, (r1.own o1), (fun c hc => (List.mem_append.1 hc).elim (x1 c) (y1 c))⟩)
theorem RArcStep.o {N : Nat → Prop} {w : World} {v : Value} {x : ArcStep} (h : Bo N w (Agg 3 RArcStep) v x) : v = .agg #[.int .i64 x.var, .int .i64 x.value, .int .i64 x.con] ∧ I64 x.var ∧ I64 x.value ∧ I64 x.con := by
  obtain ⟨bs, h1, h2⟩ := h
  obtain ⟨e, k0, k1, k2, eb⟩ := RArcStep.rd h1
  exact ⟨e, k0, k1, k2⟩
theorem RArcStep.m {N : Nat → Prop} {w : World} {f0 : Int} {f1 : Int} {f2 : Int}  (h0 : I64 f0) (h1 : I64 f1) (h2 : I64 f2) : Bo N w (Agg 3 RArcStep) (.agg #[.int .i64 f0, .int .i64 f1, .int .i64 f2]) (ArcStep.mk f0 f1 f2) := by
  exact ⟨_, RArcStep.mk2 h0 h1 h2, fun c hc => nomatch hc⟩
theorem RArcStep.b {N : Nat → Prop} {w : World} {T : TypeId} {b : Nat} {f0 : Int} {f1 : Int} {f2 : Int}  (K : Bk N w b [.int .i64 f0, .int .i64 f1, .int .i64 f2] T) (h0 : I64 f0) (h1 : I64 f1) (h2 : I64 f2) : Bo N w (Pt 3 RArcStep) (.pointer (some ⟨b, 0, none⟩)) (ArcStep.mk f0 f1 f2) := by
  refine ⟨_, RArcStep.blk K.1 h0 h1 h2, fun c hc => ?_⟩
  rcases List.mem_cons.1 hc with rfl | hc
  · exact K.2
  · exact (fun c hc => nomatch hc) c hc
theorem RArcStep.w {X : List Nat} {N : Nat → Prop} {w0 w : World} {D : List As} {f0 : Int} {f1 : Int} {f2 : Int}   (h0 : I64 f0) (h1 : I64 f1) (h2 : I64 f2) (H : Sep X N w0 w (D)) : Sep X N w0 w (ow (V := Agg 3 RArcStep) (.agg #[.int .i64 f0, .int .i64 f1, .int .i64 f2]) (ArcStep.mk f0 f1 f2) :: D) :=
  H.d0 (RArcStep.mk2 h0 h1 h2)
instance : Flat RArcStep := ⟨fun _ _ _ _ h => h.2.2.2.2.2.2⟩
theorem RPairStep.o {N : Nat → Prop} {w : World} {v : Value} {x : PairStep} (h : Bo N w (Agg 3 RPairStep) v x) : v = .agg #[.int .i64 x.i, .int .i64 x.j, .int .i64 x.through] ∧ I64 x.i ∧ I64 x.j ∧ I64 x.through := by
  obtain ⟨bs, h1, h2⟩ := h
  obtain ⟨e, k0, k1, k2, eb⟩ := RPairStep.rd h1
  exact ⟨e, k0, k1, k2⟩
theorem RPairStep.m {N : Nat → Prop} {w : World} {f0 : Int} {f1 : Int} {f2 : Int}  (h0 : I64 f0) (h1 : I64 f1) (h2 : I64 f2) : Bo N w (Agg 3 RPairStep) (.agg #[.int .i64 f0, .int .i64 f1, .int .i64 f2]) (PairStep.mk f0 f1 f2) := by
  exact ⟨_, RPairStep.mk2 h0 h1 h2, fun c hc => nomatch hc⟩
theorem RPairStep.b {N : Nat → Prop} {w : World} {T : TypeId} {b : Nat} {f0 : Int} {f1 : Int} {f2 : Int}  (K : Bk N w b [.int .i64 f0, .int .i64 f1, .int .i64 f2] T) (h0 : I64 f0) (h1 : I64 f1) (h2 : I64 f2) : Bo N w (Pt 3 RPairStep) (.pointer (some ⟨b, 0, none⟩)) (PairStep.mk f0 f1 f2) := by
  refine ⟨_, RPairStep.blk K.1 h0 h1 h2, fun c hc => ?_⟩
  rcases List.mem_cons.1 hc with rfl | hc
  · exact K.2
  · exact (fun c hc => nomatch hc) c hc
theorem RPairStep.w {X : List Nat} {N : Nat → Prop} {w0 w : World} {D : List As} {f0 : Int} {f1 : Int} {f2 : Int}   (h0 : I64 f0) (h1 : I64 f1) (h2 : I64 f2) (H : Sep X N w0 w (D)) : Sep X N w0 w (ow (V := Agg 3 RPairStep) (.agg #[.int .i64 f0, .int .i64 f1, .int .i64 f2]) (PairStep.mk f0 f1 f2) :: D) :=
  H.d0 (RPairStep.mk2 h0 h1 h2)
instance : Flat RPairStep := ⟨fun _ _ _ _ h => h.2.2.2.2.2.2⟩
theorem RVerdict.o {N : Nat → Prop} {w : World} {v : Value} {x : Verdict} (h : Bo N w (Agg 5 RVerdict) v x) : ∃ v1 v2 v3 v4 : Value, v = .agg #[.int .i64 x.kind, v1, v2, v3, v4] ∧ I64 x.kind ∧ Bo N w (Sl 1 RInt) v1 x.values ∧ Bo N w (Sl 3 RArcStep) v2 x.arcs ∧ Bo N w (Sl 3 RPairStep) v3 x.pairs ∧ Bo N w (Sl 1 RInt) v4 x.numbers := by
  obtain ⟨bs, h1, h2⟩ := h
  obtain ⟨v1, v2, v3, v4, b1, b2, b3, b4, e, k0, k1, k2, k3, k4, eb⟩ := RVerdict.rd h1
  exact ⟨v1, v2, v3, v4, e, k0, ⟨b1, k1, fun c hc => h2 c (by rw [eb]; simp [hc])⟩, ⟨b2, k2, fun c hc => h2 c (by rw [eb]; simp [hc])⟩, ⟨b3, k3, fun c hc => h2 c (by rw [eb]; simp [hc])⟩, ⟨b4, k4, fun c hc => h2 c (by rw [eb]; simp [hc])⟩⟩
theorem RVerdict.m {N : Nat → Prop} {w : World} {f0 : Int} {f1 : List Int} {f2 : List ArcStep} {f3 : List PairStep} {f4 : List Int} {v1 : Value} {v2 : Value} {v3 : Value} {v4 : Value} (h0 : I64 f0) (h1 : Bo N w (Sl 1 RInt) v1 f1) (h2 : Bo N w (Sl 3 RArcStep) v2 f2) (h3 : Bo N w (Sl 3 RPairStep) v3 f3) (h4 : Bo N w (Sl 1 RInt) v4 f4) : Bo N w (Agg 5 RVerdict) (.agg #[.int .i64 f0, v1, v2, v3, v4]) (Verdict.mk f0 f1 f2 f3 f4) := by
  obtain ⟨b1, k1, m1⟩ := h1
  obtain ⟨b2, k2, m2⟩ := h2
  obtain ⟨b3, k3, m3⟩ := h3
  obtain ⟨b4, k4, m4⟩ := h4
  exact ⟨_, RVerdict.mk2 h0 k1 k2 k3 k4, (fun c hc => (List.mem_append.1 hc).elim ((fun c hc => (List.mem_append.1 hc).elim ((fun c hc => (List.mem_append.1 hc).elim (m1 c) (m2 c)) c) (m3 c)) c) (m4 c))⟩
theorem RVerdict.b {N : Nat → Prop} {w : World} {T : TypeId} {b : Nat} {f0 : Int} {f1 : List Int} {f2 : List ArcStep} {f3 : List PairStep} {f4 : List Int} {v1 : Value} {v2 : Value} {v3 : Value} {v4 : Value} (K : Bk N w b [.int .i64 f0, v1, v2, v3, v4] T) (h0 : I64 f0) (h1 : Bo N w (Sl 1 RInt) v1 f1) (h2 : Bo N w (Sl 3 RArcStep) v2 f2) (h3 : Bo N w (Sl 3 RPairStep) v3 f3) (h4 : Bo N w (Sl 1 RInt) v4 f4) : Bo N w (Pt 5 RVerdict) (.pointer (some ⟨b, 0, none⟩)) (Verdict.mk f0 f1 f2 f3 f4) := by
  obtain ⟨b1, k1, m1⟩ := h1
  obtain ⟨b2, k2, m2⟩ := h2
  obtain ⟨b3, k3, m3⟩ := h3
  obtain ⟨b4, k4, m4⟩ := h4
  refine ⟨_, RVerdict.blk K.1 h0 k1 k2 k3 k4, fun c hc => ?_⟩
  rcases List.mem_cons.1 hc with rfl | hc
  · exact K.2
  · exact ((fun c hc => (List.mem_append.1 hc).elim ((fun c hc => (List.mem_append.1 hc).elim ((fun c hc => (List.mem_append.1 hc).elim (m1 c) (m2 c)) c) (m3 c)) c) (m4 c))) c hc
theorem RVerdict.w {X : List Nat} {N : Nat → Prop} {w0 w : World} {D : List As} {f0 : Int} {f1 : List Int} {f2 : List ArcStep} {f3 : List PairStep} {f4 : List Int} {v1 : Value} {v2 : Value} {v3 : Value} {v4 : Value} {E1 : TypeId} {E2 : TypeId} {E3 : TypeId} {E4 : TypeId} (h0 : I64 f0) (H : Sep X N w0 w (rl 1 RInt E1 v1 f1 :: rl 3 RArcStep E2 v2 f2 :: rl 3 RPairStep E3 v3 f3 :: rl 1 RInt E4 v4 f4 :: D)) : Sep X N w0 w (ow (V := Agg 5 RVerdict) (.agg #[.int .i64 f0, v1, v2, v3, v4]) (Verdict.mk f0 f1 f2 f3 f4) :: D) :=
  H.mg.mg.mg.dt (fun {Y} hP hm => by
    obtain ⟨Y4a, Y4b, ⟨Y3a, Y3b, ⟨Y2a, Y2b, ⟨b1, c1, r1, o1, x1, y1⟩, ⟨b2, c2, r2, o2, x2, y2⟩, d2, z2a, z2b⟩, ⟨b3, c3, r3, o3, x3, y3⟩, d3, z3a, z3b⟩, ⟨b4, c4, r4, o4, x4, y4⟩, d4, z4a, z4b⟩ := hP
    exact ⟨_, RVerdict.mk2 h0 r1.rd r2.rd r3.rd r4.rd, ((((r1.own o1).append (r2.own o2) (fun c h1 h2 => d2 c ((fun c hc => (List.mem_append.1 hc).elim (x1 c) (y1 c)) c h1) ((fun c hc => (List.mem_append.1 hc).elim (x2 c) (y2 c)) c h2))).append (r3.own o3) (fun c h1 h2 => d3 c ((fun c hc => (List.mem_append.1 hc).elim (fun h => z2a c ((fun c hc => (List.mem_append.1 hc).elim (x1 c) (y1 c)) c h)) (fun h => z2b c ((fun c hc => (List.mem_append.1 hc).elim (x2 c) (y2 c)) c h))) c h1) ((fun c hc => (List.mem_append.1 hc).elim (x3 c) (y3 c)) c h2))).append (r4.own o4) (fun c h1 h2 => d4 c ((fun c hc => (List.mem_append.1 hc).elim (fun h => z3a c ((fun c hc => (List.mem_append.1 hc).elim (fun h => z2a c ((fun c hc => (List.mem_append.1 hc).elim (x1 c) (y1 c)) c h)) (fun h => z2b c ((fun c hc => (List.mem_append.1 hc).elim (x2 c) (y2 c)) c h))) c h)) (fun h => z3b c ((fun c hc => (List.mem_append.1 hc).elim (x3 c) (y3 c)) c h))) c h1) ((fun c hc => (List.mem_append.1 hc).elim (x4 c) (y4 c)) c h2))), (fun c hc => (List.mem_append.1 hc).elim (fun h => z4a c ((fun c hc => (List.mem_append.1 hc).elim (fun h => z3a c ((fun c hc => (List.mem_append.1 hc).elim (fun h => z2a c ((fun c hc => (List.mem_append.1 hc).elim (x1 c) (y1 c)) c h)) (fun h => z2b c ((fun c hc => (List.mem_append.1 hc).elim (x2 c) (y2 c)) c h))) c h)) (fun h => z3b c ((fun c hc => (List.mem_append.1 hc).elim (x3 c) (y3 c)) c h))) c h)) (fun h => z4b c ((fun c hc => (List.mem_append.1 hc).elim (x4 c) (y4 c)) c h)))⟩)
theorem REquation.o {N : Nat → Prop} {w : World} {v : Value} {x : Equation} (h : Bo N w (Agg 2 REquation) v x) : ∃ v0 : Value, v = .agg #[v0, .int .i64 x.right] ∧ Bo N w (Sl 1 RInt) v0 x.left ∧ I64 x.right := by
  obtain ⟨bs, h1, h2⟩ := h
  obtain ⟨v0, b0, e, k0, k1, eb⟩ := REquation.rd h1
  exact ⟨v0, e, ⟨b0, k0, fun c hc => h2 c (by rw [eb]; simp [hc])⟩, k1⟩
theorem REquation.m {N : Nat → Prop} {w : World} {f0 : List Int} {f1 : Int} {v0 : Value} (h0 : Bo N w (Sl 1 RInt) v0 f0) (h1 : I64 f1) : Bo N w (Agg 2 REquation) (.agg #[v0, .int .i64 f1]) (Equation.mk f0 f1) := by
  obtain ⟨b0, k0, m0⟩ := h0
  exact ⟨_, REquation.mk2 k0 h1, m0⟩
theorem REquation.b {N : Nat → Prop} {w : World} {T : TypeId} {b : Nat} {f0 : List Int} {f1 : Int} {v0 : Value} (K : Bk N w b [v0, .int .i64 f1] T) (h0 : Bo N w (Sl 1 RInt) v0 f0) (h1 : I64 f1) : Bo N w (Pt 2 REquation) (.pointer (some ⟨b, 0, none⟩)) (Equation.mk f0 f1) := by
  obtain ⟨b0, k0, m0⟩ := h0
  refine ⟨_, REquation.blk K.1 k0 h1, fun c hc => ?_⟩
  rcases List.mem_cons.1 hc with rfl | hc
  · exact K.2
  · exact (m0) c hc
theorem REquation.w {X : List Nat} {N : Nat → Prop} {w0 w : World} {D : List As} {f0 : List Int} {f1 : Int} {v0 : Value} {E0 : TypeId} (h1 : I64 f1) (H : Sep X N w0 w (rl 1 RInt E0 v0 f0 :: D)) : Sep X N w0 w (ow (V := Agg 2 REquation) (.agg #[v0, .int .i64 f1]) (Equation.mk f0 f1) :: D) :=
  H.dt (fun {Y} hP hm => by
    obtain ⟨b0, c0, r0, o0, x0, y0⟩ := hP
    exact ⟨_, REquation.mk2 r0.rd h1, (r0.own o0), (fun c hc => (List.mem_append.1 hc).elim (x0 c) (y0 c))⟩)
theorem RLine.o {N : Nat → Prop} {w : World} {v : Value} {x : Line} (h : Bo N w (Agg 4 RLine) v x) : v = .agg #[.int .i64 x.kind, .int .i64 x.var, .int .i64 x.value, .int .i64 x.con] ∧ I64 x.kind ∧ I64 x.var ∧ I64 x.value ∧ I64 x.con := by
  obtain ⟨bs, h1, h2⟩ := h
  obtain ⟨e, k0, k1, k2, k3, eb⟩ := RLine.rd h1
  exact ⟨e, k0, k1, k2, k3⟩
theorem RLine.m {N : Nat → Prop} {w : World} {f0 : Int} {f1 : Int} {f2 : Int} {f3 : Int}  (h0 : I64 f0) (h1 : I64 f1) (h2 : I64 f2) (h3 : I64 f3) : Bo N w (Agg 4 RLine) (.agg #[.int .i64 f0, .int .i64 f1, .int .i64 f2, .int .i64 f3]) (Line.mk f0 f1 f2 f3) := by
  exact ⟨_, RLine.mk2 h0 h1 h2 h3, fun c hc => nomatch hc⟩
theorem RLine.b {N : Nat → Prop} {w : World} {T : TypeId} {b : Nat} {f0 : Int} {f1 : Int} {f2 : Int} {f3 : Int}  (K : Bk N w b [.int .i64 f0, .int .i64 f1, .int .i64 f2, .int .i64 f3] T) (h0 : I64 f0) (h1 : I64 f1) (h2 : I64 f2) (h3 : I64 f3) : Bo N w (Pt 4 RLine) (.pointer (some ⟨b, 0, none⟩)) (Line.mk f0 f1 f2 f3) := by
  refine ⟨_, RLine.blk K.1 h0 h1 h2 h3, fun c hc => ?_⟩
  rcases List.mem_cons.1 hc with rfl | hc
  · exact K.2
  · exact (fun c hc => nomatch hc) c hc
theorem RLine.w {X : List Nat} {N : Nat → Prop} {w0 w : World} {D : List As} {f0 : Int} {f1 : Int} {f2 : Int} {f3 : Int}   (h0 : I64 f0) (h1 : I64 f1) (h2 : I64 f2) (h3 : I64 f3) (H : Sep X N w0 w (D)) : Sep X N w0 w (ow (V := Agg 4 RLine) (.agg #[.int .i64 f0, .int .i64 f1, .int .i64 f2, .int .i64 f3]) (Line.mk f0 f1 f2 f3) :: D) :=
  H.d0 (RLine.mk2 h0 h1 h2 h3)
instance : Flat RLine := ⟨fun _ _ _ _ h => h.2.2.2.2.2.2.2.2⟩
theorem RLiteral.o {N : Nat → Prop} {w : World} {v : Value} {x : Literal} (h : Bo N w (Agg 2 RLiteral) v x) : v = .agg #[.int .i64 x.var, .int .i64 x.value] ∧ I64 x.var ∧ I64 x.value := by
  obtain ⟨bs, h1, h2⟩ := h
  obtain ⟨e, k0, k1, eb⟩ := RLiteral.rd h1
  exact ⟨e, k0, k1⟩
theorem RLiteral.m {N : Nat → Prop} {w : World} {f0 : Int} {f1 : Int}  (h0 : I64 f0) (h1 : I64 f1) : Bo N w (Agg 2 RLiteral) (.agg #[.int .i64 f0, .int .i64 f1]) (Literal.mk f0 f1) := by
  exact ⟨_, RLiteral.mk2 h0 h1, fun c hc => nomatch hc⟩
theorem RLiteral.b {N : Nat → Prop} {w : World} {T : TypeId} {b : Nat} {f0 : Int} {f1 : Int}  (K : Bk N w b [.int .i64 f0, .int .i64 f1] T) (h0 : I64 f0) (h1 : I64 f1) : Bo N w (Pt 2 RLiteral) (.pointer (some ⟨b, 0, none⟩)) (Literal.mk f0 f1) := by
  refine ⟨_, RLiteral.blk K.1 h0 h1, fun c hc => ?_⟩
  rcases List.mem_cons.1 hc with rfl | hc
  · exact K.2
  · exact (fun c hc => nomatch hc) c hc
theorem RLiteral.w {X : List Nat} {N : Nat → Prop} {w0 w : World} {D : List As} {f0 : Int} {f1 : Int}   (h0 : I64 f0) (h1 : I64 f1) (H : Sep X N w0 w (D)) : Sep X N w0 w (ow (V := Agg 2 RLiteral) (.agg #[.int .i64 f0, .int .i64 f1]) (Literal.mk f0 f1) :: D) :=
  H.d0 (RLiteral.mk2 h0 h1)
instance : Flat RLiteral := ⟨fun _ _ _ _ h => h.2.2.2.2⟩
theorem RGadgets.o {N : Nat → Prop} {w : World} {v : Value} {x : Gadgets} (h : Bo N w (Agg 1 RGadgets) v x) : ∃ v0 : Value, v = .agg #[v0] ∧ Bo N w (Sl 3 RFormula) v0 x.formulas := by
  obtain ⟨bs, h1, h2⟩ := h
  obtain ⟨v0, b0, e, k0, eb⟩ := RGadgets.rd h1
  exact ⟨v0, e, ⟨b0, k0, fun c hc => h2 c (by rw [eb]; simp [hc])⟩⟩
theorem RGadgets.m {N : Nat → Prop} {w : World} {f0 : List Formula} {v0 : Value} (h0 : Bo N w (Sl 3 RFormula) v0 f0) : Bo N w (Agg 1 RGadgets) (.agg #[v0]) (Gadgets.mk f0) := by
  obtain ⟨b0, k0, m0⟩ := h0
  exact ⟨_, RGadgets.mk2 k0, m0⟩
theorem RGadgets.b {N : Nat → Prop} {w : World} {T : TypeId} {b : Nat} {f0 : List Formula} {v0 : Value} (K : Bk N w b [v0] T) (h0 : Bo N w (Sl 3 RFormula) v0 f0) : Bo N w (Pt 1 RGadgets) (.pointer (some ⟨b, 0, none⟩)) (Gadgets.mk f0) := by
  obtain ⟨b0, k0, m0⟩ := h0
  refine ⟨_, RGadgets.blk K.1 k0, fun c hc => ?_⟩
  rcases List.mem_cons.1 hc with rfl | hc
  · exact K.2
  · exact (m0) c hc
theorem RGadgets.w {X : List Nat} {N : Nat → Prop} {w0 w : World} {D : List As} {f0 : List Formula} {v0 : Value} {E0 : TypeId}  (H : Sep X N w0 w (rl 3 RFormula E0 v0 f0 :: D)) : Sep X N w0 w (ow (V := Agg 1 RGadgets) (.agg #[v0]) (Gadgets.mk f0) :: D) :=
  H.dt (fun {Y} hP hm => by
    obtain ⟨b0, c0, r0, o0, x0, y0⟩ := hP
    exact ⟨_, RGadgets.mk2 r0.rd, (r0.own o0), (fun c hc => (List.mem_append.1 hc).elim (x0 c) (y0 c))⟩)
theorem RDeed.o {N : Nat → Prop} {w : World} {v : Value} {x : Deed} (h : Bo N w (Agg 3 RDeed) v x) : v = .agg #[.int .i64 x.kind, .int .i64 x.a, .int .i64 x.b] ∧ I64 x.kind ∧ I64 x.a ∧ I64 x.b := by
  obtain ⟨bs, h1, h2⟩ := h
  obtain ⟨e, k0, k1, k2, eb⟩ := RDeed.rd h1
  exact ⟨e, k0, k1, k2⟩
theorem RDeed.m {N : Nat → Prop} {w : World} {f0 : Int} {f1 : Int} {f2 : Int}  (h0 : I64 f0) (h1 : I64 f1) (h2 : I64 f2) : Bo N w (Agg 3 RDeed) (.agg #[.int .i64 f0, .int .i64 f1, .int .i64 f2]) (Deed.mk f0 f1 f2) := by
  exact ⟨_, RDeed.mk2 h0 h1 h2, fun c hc => nomatch hc⟩
theorem RDeed.b {N : Nat → Prop} {w : World} {T : TypeId} {b : Nat} {f0 : Int} {f1 : Int} {f2 : Int}  (K : Bk N w b [.int .i64 f0, .int .i64 f1, .int .i64 f2] T) (h0 : I64 f0) (h1 : I64 f1) (h2 : I64 f2) : Bo N w (Pt 3 RDeed) (.pointer (some ⟨b, 0, none⟩)) (Deed.mk f0 f1 f2) := by
  refine ⟨_, RDeed.blk K.1 h0 h1 h2, fun c hc => ?_⟩
  rcases List.mem_cons.1 hc with rfl | hc
  · exact K.2
  · exact (fun c hc => nomatch hc) c hc
theorem RDeed.w {X : List Nat} {N : Nat → Prop} {w0 w : World} {D : List As} {f0 : Int} {f1 : Int} {f2 : Int}   (h0 : I64 f0) (h1 : I64 f1) (h2 : I64 f2) (H : Sep X N w0 w (D)) : Sep X N w0 w (ow (V := Agg 3 RDeed) (.agg #[.int .i64 f0, .int .i64 f1, .int .i64 f2]) (Deed.mk f0 f1 f2) :: D) :=
  H.d0 (RDeed.mk2 h0 h1 h2)
instance : Flat RDeed := ⟨fun _ _ _ _ h => h.2.2.2.2.2.2⟩
theorem Rsolver.o {N : Nat → Prop} {w : World} {v : Value} {x : solver} (h : Bo N w (Agg 4 Rsolver) v x) : ∃ v1 v3 : Value, v = .agg #[.int .i64 x.t.size, v1, .int .i64 x.vars, v3] ∧ I64 x.t.size ∧ Bo N w (Sl 2 RRel) v1 x.t.rels ∧ I64 x.vars ∧ Bo N w (Sl 1 (RSl 2 RAtom)) v3 x.due := by
  obtain ⟨bs, h1, h2⟩ := h
  obtain ⟨v1, v3, b1, b3, e, k0, k1, k2, k3, eb⟩ := Rsolver.rd h1
  exact ⟨v1, v3, e, k0, ⟨b1, k1, fun c hc => h2 c (by rw [eb]; simp [hc])⟩, k2, ⟨b3, k3, fun c hc => h2 c (by rw [eb]; simp [hc])⟩⟩
theorem Rsolver.m {N : Nat → Prop} {w : World} {f0 : Int} {f1 : List Rel} {f2 : Int} {f3 : List (List Atom)} {v1 : Value} {v3 : Value} (h0 : I64 f0) (h1 : Bo N w (Sl 2 RRel) v1 f1) (h2 : I64 f2) (h3 : Bo N w (Sl 1 (RSl 2 RAtom)) v3 f3) : Bo N w (Agg 4 Rsolver) (.agg #[.int .i64 f0, v1, .int .i64 f2, v3]) (solver.mk (Template.mk f0 f1) f2 f3) := by
  obtain ⟨b1, k1, m1⟩ := h1
  obtain ⟨b3, k3, m3⟩ := h3
  exact ⟨_, Rsolver.mk2 h0 k1 h2 k3, (fun c hc => (List.mem_append.1 hc).elim (m1 c) (m3 c))⟩
theorem Rsolver.b {N : Nat → Prop} {w : World} {T : TypeId} {b : Nat} {f0 : Int} {f1 : List Rel} {f2 : Int} {f3 : List (List Atom)} {v1 : Value} {v3 : Value} (K : Bk N w b [.int .i64 f0, v1, .int .i64 f2, v3] T) (h0 : I64 f0) (h1 : Bo N w (Sl 2 RRel) v1 f1) (h2 : I64 f2) (h3 : Bo N w (Sl 1 (RSl 2 RAtom)) v3 f3) : Bo N w (Pt 4 Rsolver) (.pointer (some ⟨b, 0, none⟩)) (solver.mk (Template.mk f0 f1) f2 f3) := by
  obtain ⟨b1, k1, m1⟩ := h1
  obtain ⟨b3, k3, m3⟩ := h3
  refine ⟨_, Rsolver.blk K.1 h0 k1 h2 k3, fun c hc => ?_⟩
  rcases List.mem_cons.1 hc with rfl | hc
  · exact K.2
  · exact ((fun c hc => (List.mem_append.1 hc).elim (m1 c) (m3 c))) c hc
theorem Rsolver.w {X : List Nat} {N : Nat → Prop} {w0 w : World} {D : List As} {f0 : Int} {f1 : List Rel} {f2 : Int} {f3 : List (List Atom)} {v1 : Value} {v3 : Value} {E1 : TypeId} {E3 : TypeId} (h0 : I64 f0) (h2 : I64 f2) (H : Sep X N w0 w (rl 2 RRel E1 v1 f1 :: rl 1 (RSl 2 RAtom) E3 v3 f3 :: D)) : Sep X N w0 w (ow (V := Agg 4 Rsolver) (.agg #[.int .i64 f0, v1, .int .i64 f2, v3]) (solver.mk (Template.mk f0 f1) f2 f3) :: D) :=
  H.mg.dt (fun {Y} hP hm => by
    obtain ⟨Y3a, Y3b, ⟨b1, c1, r1, o1, x1, y1⟩, ⟨b3, c3, r3, o3, x3, y3⟩, d3, z3a, z3b⟩ := hP
    exact ⟨_, Rsolver.mk2 h0 r1.rd h2 r3.rd, ((r1.own o1).append (r3.own o3) (fun c h1 h2 => d3 c ((fun c hc => (List.mem_append.1 hc).elim (x1 c) (y1 c)) c h1) ((fun c hc => (List.mem_append.1 hc).elim (x3 c) (y3 c)) c h2))), (fun c hc => (List.mem_append.1 hc).elim (fun h => z3a c ((fun c hc => (List.mem_append.1 hc).elim (x1 c) (y1 c)) c h)) (fun h => z3b c ((fun c hc => (List.mem_append.1 hc).elim (x3 c) (y3 c)) c h)))⟩)
end Go.Proofs.YtmgdjaiaekhkgaaGreat
