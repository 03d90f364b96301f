/-
  The structs, as readings in blocks of N. Printed by gen_nd.py. No program.
-/
import Derived.Test.YtmgdjaiaekhkgaaGreatNC
import Derived.Test.YtmgdjaiaekhkgaaGreatUX
namespace Go.Proofs.YtmgdjaiaekhkgaaGreat
set_option linter.unusedVariables false
set_option linter.unusedSimpArgs false
open Go.RowKit
theorem Bk.of {w : World} {b : Nat} {cs : List Value} {T : TypeId} (h : vS w b cs.toArray T) : Bk (All w) w b cs T := ⟨h, h.lt⟩
theorem c1I {N : Nat → Prop} {w : World} {T : TypeId} {b : Nat} {x : Int} (K : Bk N w b [.int .i64 x] T) (h : xY x) : Bo N w (Pt 1 xK) (.pointer (some ⟨b, 0, none⟩)) x := ⟨_, cell1I K.1 h, fun c hc => by rw [List.mem_singleton] at hc; subst hc; exact K.2⟩
theorem c1S {α : Type} {sz : Nat} {R : ER α} {N : Nat → Prop} {w : World} {T : TypeId} {b : Nat} {v : Value} {x : List α} (K : Bk N w b [v] T) (h : Bo N w (Sl sz R) v x) : Bo N w (Pt 1 (RSl sz R)) (.pointer (some ⟨b, 0, none⟩)) x := let ⟨_, h1, h2⟩ := h; ⟨_, cell1S K.1 h1, fun c hc => by
  rcases List.mem_cons.1 hc with rfl | hc
  · exact K.2
  · exact h2 c hc⟩
theorem Bo.one {α : Type} {sz : Nat} {R : ER α} {N : Nat → Prop} {w : World} {v : Value} {x : List α} (h : Bo N w (Sl sz R) v x) : v.oneCell' = true := let ⟨_, h1, _⟩ := h; h1.r.one
theorem Bo.pone {α : Type} {sz : Nat} {R : ER α} {N : Nat → Prop} {w : World} {v : Value} {x : α} (h : Bo N w (Pt sz R) v x) : v.oneCell' = true := by
  obtain ⟨_, ⟨⟨b, o, bi, rfl, _⟩, _⟩, _⟩ := h
  rfl
theorem c1P {α : Type} {sz : Nat} {R : ER α} {N : Nat → Prop} {w : World} {T : TypeId} {b : Nat} {v : Value} {x : α} (K : Bk N w b [v] T) (h : Bo N w (Pt sz R) v x) : Bo N w (Pt 1 (RP sz R)) (.pointer (some ⟨b, 0, none⟩)) x := let ⟨_, h1, h2⟩ := h; ⟨_, cell1P K.1 h1, fun c hc => by
  rcases List.mem_cons.1 hc with rfl | hc
  · exact K.2
  · exact h2 c hc⟩
theorem qE.o {N : Nat → Prop} {w : World} {v : Value} {x : Rel} (h : Bo N w (qH 2 qE) v x) : ∃ v1 : Value, v = .agg #[.int .i64 x.arity, v1] ∧ xY x.arity ∧ Bo N w (Sl 1 zA) v1 x.tuples := by
  obtain ⟨bs, h1, h2⟩ := h
  obtain ⟨v1, b1, e, k0, k1, eb⟩ := qE.rd h1
  exact ⟨v1, e, k0, ⟨b1, k1, fun c hc => h2 c (by rw [eb]; simp [hc])⟩⟩
theorem qE.m {N : Nat → Prop} {w : World} {f0 : Int} {f1 : List (List Int)} {v1 : Value} (h0 : xY f0) (h1 : Bo N w (Sl 1 zA) v1 f1) : Bo N w (qH 2 qE) (.agg #[.int .i64 f0, v1]) (Rel.mk f0 f1) := by
  obtain ⟨b1, k1, m1⟩ := h1
  exact ⟨_, qE.mk2 h0 k1, m1⟩
theorem qE.b {N : Nat → Prop} {w : World} {T : TypeId} {b : Nat} {f0 : Int} {f1 : List (List Int)} {v1 : Value} (K : Bk N w b [.int .i64 f0, v1] T) (h0 : xY f0) (h1 : Bo N w (Sl 1 zA) v1 f1) : Bo N w (Pt 2 qE) (.pointer (some ⟨b, 0, none⟩)) (Rel.mk f0 f1) := by
  obtain ⟨b1, k1, m1⟩ := h1
  refine ⟨_, qE.blk K.1 h0 k1, fun c hc => ?_⟩
  rcases List.mem_cons.1 hc with rfl | hc
  · exact K.2
  · exact (m1) c hc
theorem qE.w {X : List Nat} {N : Nat → Prop} {w0 w : World} {D : List As} {f0 : Int} {f1 : List (List Int)} {v1 : Value} {E1 : TypeId} (h0 : xY f0) (H : Sep X N w0 w (rl 1 zA E1 v1 f1 :: D)) : Sep X N w0 w (ow (V := qH 2 qE) (.agg #[.int .i64 f0, v1]) (Rel.mk f0 f1) :: D) :=
  H.dt (fun {Y} hP hm => by
    obtain ⟨b1, c1, r1, o1, x1, y1⟩ := hP
    exact ⟨_, qE.mk2 h0 r1.rd, (r1.own o1), (fun c hc => (List.mem_append.1 hc).elim (x1 c) (y1 c))⟩)
theorem xJ.o {N : Nat → Prop} {w : World} {v : Value} {x : Template} (h : Bo N w (qH 2 xJ) v x) : ∃ v1 : Value, v = .agg #[.int .i64 x.size, v1] ∧ xY x.size ∧ Bo N w (Sl 2 qE) v1 x.rels := by
  obtain ⟨bs, h1, h2⟩ := h
  obtain ⟨v1, b1, e, k0, k1, eb⟩ := xJ.rd h1
  exact ⟨v1, e, k0, ⟨b1, k1, fun c hc => h2 c (by rw [eb]; simp [hc])⟩⟩
theorem xJ.m {N : Nat → Prop} {w : World} {f0 : Int} {f1 : List Rel} {v1 : Value} (h0 : xY f0) (h1 : Bo N w (Sl 2 qE) v1 f1) : Bo N w (qH 2 xJ) (.agg #[.int .i64 f0, v1]) (Template.mk f0 f1) := by
  obtain ⟨b1, k1, m1⟩ := h1
  exact ⟨_, xJ.mk2 h0 k1, m1⟩
theorem xJ.b {N : Nat → Prop} {w : World} {T : TypeId} {b : Nat} {f0 : Int} {f1 : List Rel} {v1 : Value} (K : Bk N w b [.int .i64 f0, v1] T) (h0 : xY f0) (h1 : Bo N w (Sl 2 qE) v1 f1) : Bo N w (Pt 2 xJ) (.pointer (some ⟨b, 0, none⟩)) (Template.mk f0 f1) := by
  obtain ⟨b1, k1, m1⟩ := h1
  refine ⟨_, xJ.blk K.1 h0 k1, fun c hc => ?_⟩
  rcases List.mem_cons.1 hc with rfl | hc
  · exact K.2
  · exact (m1) c hc
theorem xJ.w {X : List Nat} {N : Nat → Prop} {w0 w : World} {D : List As} {f0 : Int} {f1 : List Rel} {v1 : Value} {E1 : TypeId} (h0 : xY f0) (H : Sep X N w0 w (rl 2 qE E1 v1 f1 :: D)) : Sep X N w0 w (ow (V := qH 2 xJ) (.agg #[.int .i64 f0, v1]) (Template.mk f0 f1) :: D) :=
  H.dt (fun {Y} hP hm => by
    obtain ⟨b1, c1, r1, o1, x1, y1⟩ := hP
    exact ⟨_, xJ.mk2 h0 r1.rd, (r1.own o1), (fun c hc => (List.mem_append.1 hc).elim (x1 c) (y1 c))⟩)
theorem ROp.o {N : Nat → Prop} {w : World} {v : Value} {x : Op} (h : Bo N w (qH 2 ROp) v x) : ∃ v1 : Value, v = .agg #[.int .i64 x.arity, v1] ∧ xY x.arity ∧ Bo N w (Sl 1 xK) v1 x.table := by
  obtain ⟨bs, h1, h2⟩ := h
  obtain ⟨v1, b1, e, k0, k1, eb⟩ := ROp.rd h1
  exact ⟨v1, e, k0, ⟨b1, k1, fun c hc => h2 c (by rw [eb]; simp [hc])⟩⟩
theorem ROp.m {N : Nat → Prop} {w : World} {f0 : Int} {f1 : List Int} {v1 : Value} (h0 : xY f0) (h1 : Bo N w (Sl 1 xK) v1 f1) : Bo N w (qH 2 ROp) (.agg #[.int .i64 f0, v1]) (Op.mk f0 f1) := by
  obtain ⟨b1, k1, m1⟩ := h1
  exact ⟨_, ROp.mk2 h0 k1, m1⟩
theorem ROp.b {N : Nat → Prop} {w : World} {T : TypeId} {b : Nat} {f0 : Int} {f1 : List Int} {v1 : Value} (K : Bk N w b [.int .i64 f0, v1] T) (h0 : xY f0) (h1 : Bo N w (Sl 1 xK) v1 f1) : Bo N w (Pt 2 ROp) (.pointer (some ⟨b, 0, none⟩)) (Op.mk f0 f1) := by
  obtain ⟨b1, k1, m1⟩ := h1
  refine ⟨_, ROp.blk K.1 h0 k1, fun c hc => ?_⟩
  rcases List.mem_cons.1 hc with rfl | hc
  · exact K.2
  · exact (m1) c hc
theorem ROp.w {X : List Nat} {N : Nat → Prop} {w0 w : World} {D : List As} {f0 : Int} {f1 : List Int} {v1 : Value} {E1 : TypeId} (h0 : xY f0) (H : Sep X N w0 w (rl 1 xK E1 v1 f1 :: D)) : Sep X N w0 w (ow (V := qH 2 ROp) (.agg #[.int .i64 f0, v1]) (Op.mk f0 f1) :: D) :=
  H.dt (fun {Y} hP hm => by
    obtain ⟨b1, c1, r1, o1, x1, y1⟩ := hP
    exact ⟨_, ROp.mk2 h0 r1.rd, (r1.own o1), (fun c hc => (List.mem_append.1 hc).elim (x1 c) (y1 c))⟩)
theorem xU.o {N : Nat → Prop} {w : World} {v : Value} {x : Atom} (h : Bo N w (qH 2 xU) v x) : ∃ v1 : Value, v = .agg #[.int .i64 x.rel, v1] ∧ xY x.rel ∧ Bo N w (Sl 1 xK) v1 x.args := by
  obtain ⟨bs, h1, h2⟩ := h
  obtain ⟨v1, b1, e, k0, k1, eb⟩ := xU.rd h1
  exact ⟨v1, e, k0, ⟨b1, k1, fun c hc => h2 c (by rw [eb]; simp [hc])⟩⟩
theorem xU.m {N : Nat → Prop} {w : World} {f0 : Int} {f1 : List Int} {v1 : Value} (h0 : xY f0) (h1 : Bo N w (Sl 1 xK) v1 f1) : Bo N w (qH 2 xU) (.agg #[.int .i64 f0, v1]) (Atom.mk f0 f1) := by
  obtain ⟨b1, k1, m1⟩ := h1
  exact ⟨_, xU.mk2 h0 k1, m1⟩
theorem xU.b {N : Nat → Prop} {w : World} {T : TypeId} {b : Nat} {f0 : Int} {f1 : List Int} {v1 : Value} (K : Bk N w b [.int .i64 f0, v1] T) (h0 : xY f0) (h1 : Bo N w (Sl 1 xK) v1 f1) : Bo N w (Pt 2 xU) (.pointer (some ⟨b, 0, none⟩)) (Atom.mk f0 f1) := by
  obtain ⟨b1, k1, m1⟩ := h1
  refine ⟨_, xU.blk K.1 h0 k1, fun c hc => ?_⟩
  rcases List.mem_cons.1 hc with rfl | hc
  · exact K.2
  · exact (m1) c hc
theorem xU.w {X : List Nat} {N : Nat → Prop} {w0 w : World} {D : List As} {f0 : Int} {f1 : List Int} {v1 : Value} {E1 : TypeId} (h0 : xY f0) (H : Sep X N w0 w (rl 1 xK E1 v1 f1 :: D)) : Sep X N w0 w (ow (V := qH 2 xU) (.agg #[.int .i64 f0, v1]) (Atom.mk f0 f1) :: D) :=
  H.dt (fun {Y} hP hm => by
    obtain ⟨b1, c1, r1, o1, x1, y1⟩ := hP
    exact ⟨_, xU.mk2 h0 r1.rd, (r1.own o1), (fun c hc => (List.mem_append.1 hc).elim (x1 c) (y1 c))⟩)
theorem xL.o {N : Nat → Prop} {w : World} {v : Value} {x : Formula} (h : Bo N w (qH 3 xL) v x) : ∃ v2 : Value, v = .agg #[.int .i64 x.free, .int .i64 x.vars, v2] ∧ xY x.free ∧ xY x.vars ∧ Bo N w (Sl 2 xU) v2 x.atoms := by
  obtain ⟨bs, h1, h2⟩ := h
  obtain ⟨v2, b2, e, k0, k1, k2, eb⟩ := xL.rd h1
  exact ⟨v2, e, k0, k1, ⟨b2, k2, fun c hc => h2 c (by rw [eb]; simp [hc])⟩⟩
theorem xL.m {N : Nat → Prop} {w : World} {f0 : Int} {f1 : Int} {f2 : List Atom} {v2 : Value} (h0 : xY f0) (h1 : xY f1) (h2 : Bo N w (Sl 2 xU) v2 f2) : Bo N w (qH 3 xL) (.agg #[.int .i64 f0, .int .i64 f1, v2]) (Formula.mk f0 f1 f2) := by
  obtain ⟨b2, k2, m2⟩ := h2
  exact ⟨_, xL.mk2 h0 h1 k2, m2⟩
theorem xL.b {N : Nat → Prop} {w : World} {T : TypeId} {b : Nat} {f0 : Int} {f1 : Int} {f2 : List Atom} {v2 : Value} (K : Bk N w b [.int .i64 f0, .int .i64 f1, v2] T) (h0 : xY f0) (h1 : xY f1) (h2 : Bo N w (Sl 2 xU) v2 f2) : Bo N w (Pt 3 xL) (.pointer (some ⟨b, 0, none⟩)) (Formula.mk f0 f1 f2) := by
  obtain ⟨b2, k2, m2⟩ := h2
  refine ⟨_, xL.blk K.1 h0 h1 k2, fun c hc => ?_⟩
  rcases List.mem_cons.1 hc with rfl | hc
  · exact K.2
  · exact (m2) c hc
theorem xL.w {X : List Nat} {N : Nat → Prop} {w0 w : World} {D : List As} {f0 : Int} {f1 : Int} {f2 : List Atom} {v2 : Value} {E2 : TypeId} (h0 : xY f0) (h1 : xY f1) (H : Sep X N w0 w (rl 2 xU E2 v2 f2 :: D)) : Sep X N w0 w (ow (V := qH 3 xL) (.agg #[.int .i64 f0, .int .i64 f1, v2]) (Formula.mk f0 f1 f2) :: D) :=
  H.dt (fun {Y} hP hm => by
    obtain ⟨b2, c2, r2, o2, x2, y2⟩ := hP
    exact ⟨_, xL.mk2 h0 h1 r2.rd, (r2.own o2), (fun c hc => (List.mem_append.1 hc).elim (x2 c) (y2 c))⟩)
theorem oZ.o {N : Nat → Prop} {w : World} {v : Value} {x : Con} (h : Bo N w (qH 2 oZ) v x) : ∃ v1 : Value, v = .agg #[.int .i64 x.rel, v1] ∧ xY x.rel ∧ Bo N w (Sl 1 xK) v1 x.scope := by
  obtain ⟨bs, h1, h2⟩ := h
  obtain ⟨v1, b1, e, k0, k1, eb⟩ := oZ.rd h1
  exact ⟨v1, e, k0, ⟨b1, k1, fun c hc => h2 c (by rw [eb]; simp [hc])⟩⟩
theorem oZ.m {N : Nat → Prop} {w : World} {f0 : Int} {f1 : List Int} {v1 : Value} (h0 : xY f0) (h1 : Bo N w (Sl 1 xK) v1 f1) : Bo N w (qH 2 oZ) (.agg #[.int .i64 f0, v1]) (Con.mk f0 f1) := by
  obtain ⟨b1, k1, m1⟩ := h1
  exact ⟨_, oZ.mk2 h0 k1, m1⟩
theorem oZ.b {N : Nat → Prop} {w : World} {T : TypeId} {b : Nat} {f0 : Int} {f1 : List Int} {v1 : Value} (K : Bk N w b [.int .i64 f0, v1] T) (h0 : xY f0) (h1 : Bo N w (Sl 1 xK) v1 f1) : Bo N w (Pt 2 oZ) (.pointer (some ⟨b, 0, none⟩)) (Con.mk f0 f1) := by
  obtain ⟨b1, k1, m1⟩ := h1
  refine ⟨_, oZ.blk K.1 h0 k1, fun c hc => ?_⟩
  rcases List.mem_cons.1 hc with rfl | hc
  · exact K.2
  · exact (m1) c hc
theorem oZ.w {X : List Nat} {N : Nat → Prop} {w0 w : World} {D : List As} {f0 : Int} {f1 : List Int} {v1 : Value} {E1 : TypeId} (h0 : xY f0) (H : Sep X N w0 w (rl 1 xK E1 v1 f1 :: D)) : Sep X N w0 w (ow (V := qH 2 oZ) (.agg #[.int .i64 f0, v1]) (Con.mk f0 f1) :: D) :=
  H.dt (fun {Y} hP hm => by
    obtain ⟨b1, c1, r1, o1, x1, y1⟩ := hP
    exact ⟨_, oZ.mk2 h0 r1.rd, (r1.own o1), (fun c hc => (List.mem_append.1 hc).elim (x1 c) (y1 c))⟩)
theorem xM.o {N : Nat → Prop} {w : World} {v : Value} {x : Instance} (h : Bo N w (qH 2 xM) v x) : ∃ v1 : Value, v = .agg #[.int .i64 x.vars, v1] ∧ xY x.vars ∧ Bo N w (Sl 2 oZ) v1 x.cons := by
  obtain ⟨bs, h1, h2⟩ := h
  obtain ⟨v1, b1, e, k0, k1, eb⟩ := xM.rd h1
  exact ⟨v1, e, k0, ⟨b1, k1, fun c hc => h2 c (by rw [eb]; simp [hc])⟩⟩
theorem xM.m {N : Nat → Prop} {w : World} {f0 : Int} {f1 : List Con} {v1 : Value} (h0 : xY f0) (h1 : Bo N w (Sl 2 oZ) v1 f1) : Bo N w (qH 2 xM) (.agg #[.int .i64 f0, v1]) (Instance.mk f0 f1) := by
  obtain ⟨b1, k1, m1⟩ := h1
  exact ⟨_, xM.mk2 h0 k1, m1⟩
theorem xM.b {N : Nat → Prop} {w : World} {T : TypeId} {b : Nat} {f0 : Int} {f1 : List Con} {v1 : Value} (K : Bk N w b [.int .i64 f0, v1] T) (h0 : xY f0) (h1 : Bo N w (Sl 2 oZ) v1 f1) : Bo N w (Pt 2 xM) (.pointer (some ⟨b, 0, none⟩)) (Instance.mk f0 f1) := by
  obtain ⟨b1, k1, m1⟩ := h1
  refine ⟨_, xM.blk K.1 h0 k1, fun c hc => ?_⟩
  rcases List.mem_cons.1 hc with rfl | hc
  · exact K.2
  · exact (m1) c hc
theorem xM.w {X : List Nat} {N : Nat → Prop} {w0 w : World} {D : List As} {f0 : Int} {f1 : List Con} {v1 : Value} {E1 : TypeId} (h0 : xY f0) (H : Sep X N w0 w (rl 2 oZ E1 v1 f1 :: D)) : Sep X N w0 w (ow (V := qH 2 xM) (.agg #[.int .i64 f0, v1]) (Instance.mk f0 f1) :: D) :=
  H.dt (fun {Y} hP hm => by
    obtain ⟨b1, c1, r1, o1, x1, y1⟩ := hP
    exact ⟨_, xM.mk2 h0 r1.rd, (r1.own o1), (fun c hc => (List.mem_append.1 hc).elim (x1 c) (y1 c))⟩)
theorem qJ.o {N : Nat → Prop} {w : World} {v : Value} {x : ArcStep} (h : Bo N w (qH 3 qJ) v x) : v = .agg #[.int .i64 x.var, .int .i64 x.value, .int .i64 x.con] ∧ xY x.var ∧ xY x.value ∧ xY x.con := by
  obtain ⟨bs, h1, h2⟩ := h
  obtain ⟨e, k0, k1, k2, eb⟩ := qJ.rd h1
  exact ⟨e, k0, k1, k2⟩
theorem qJ.m {N : Nat → Prop} {w : World} {f0 : Int} {f1 : Int} {f2 : Int}  (h0 : xY f0) (h1 : xY f1) (h2 : xY f2) : Bo N w (qH 3 qJ) (.agg #[.int .i64 f0, .int .i64 f1, .int .i64 f2]) (ArcStep.mk f0 f1 f2) := by
  exact ⟨_, qJ.mk2 h0 h1 h2, fun c hc => nomatch hc⟩
theorem qJ.b {N : Nat → Prop} {w : World} {T : TypeId} {b : Nat} {f0 : Int} {f1 : Int} {f2 : Int}  (K : Bk N w b [.int .i64 f0, .int .i64 f1, .int .i64 f2] T) (h0 : xY f0) (h1 : xY f1) (h2 : xY f2) : Bo N w (Pt 3 qJ) (.pointer (some ⟨b, 0, none⟩)) (ArcStep.mk f0 f1 f2) := by
  refine ⟨_, qJ.blk K.1 h0 h1 h2, fun c hc => ?_⟩
  rcases List.mem_cons.1 hc with rfl | hc
  · exact K.2
  · exact (fun c hc => nomatch hc) c hc
theorem qJ.w {X : List Nat} {N : Nat → Prop} {w0 w : World} {D : List As} {f0 : Int} {f1 : Int} {f2 : Int}   (h0 : xY f0) (h1 : xY f1) (h2 : xY f2) (H : Sep X N w0 w (D)) : Sep X N w0 w (ow (V := qH 3 qJ) (.agg #[.int .i64 f0, .int .i64 f1, .int .i64 f2]) (ArcStep.mk f0 f1 f2) :: D) :=
  H.d0 (qJ.mk2 h0 h1 h2)
instance : Flat qJ := ⟨fun _ _ _ _ h => h.2.2.2.2.2.2⟩
theorem oY.o {N : Nat → Prop} {w : World} {v : Value} {x : PairStep} (h : Bo N w (qH 3 oY) v x) : v = .agg #[.int .i64 x.i, .int .i64 x.j, .int .i64 x.through] ∧ xY x.i ∧ xY x.j ∧ xY x.through := by
  obtain ⟨bs, h1, h2⟩ := h
  obtain ⟨e, k0, k1, k2, eb⟩ := oY.rd h1
  exact ⟨e, k0, k1, k2⟩
theorem oY.m {N : Nat → Prop} {w : World} {f0 : Int} {f1 : Int} {f2 : Int}  (h0 : xY f0) (h1 : xY f1) (h2 : xY f2) : Bo N w (qH 3 oY) (.agg #[.int .i64 f0, .int .i64 f1, .int .i64 f2]) (PairStep.mk f0 f1 f2) := by
  exact ⟨_, oY.mk2 h0 h1 h2, fun c hc => nomatch hc⟩
theorem oY.b {N : Nat → Prop} {w : World} {T : TypeId} {b : Nat} {f0 : Int} {f1 : Int} {f2 : Int}  (K : Bk N w b [.int .i64 f0, .int .i64 f1, .int .i64 f2] T) (h0 : xY f0) (h1 : xY f1) (h2 : xY f2) : Bo N w (Pt 3 oY) (.pointer (some ⟨b, 0, none⟩)) (PairStep.mk f0 f1 f2) := by
  refine ⟨_, oY.blk K.1 h0 h1 h2, fun c hc => ?_⟩
  rcases List.mem_cons.1 hc with rfl | hc
  · exact K.2
  · exact (fun c hc => nomatch hc) c hc
theorem oY.w {X : List Nat} {N : Nat → Prop} {w0 w : World} {D : List As} {f0 : Int} {f1 : Int} {f2 : Int}   (h0 : xY f0) (h1 : xY f1) (h2 : xY f2) (H : Sep X N w0 w (D)) : Sep X N w0 w (ow (V := qH 3 oY) (.agg #[.int .i64 f0, .int .i64 f1, .int .i64 f2]) (PairStep.mk f0 f1 f2) :: D) :=
  H.d0 (oY.mk2 h0 h1 h2)
instance : Flat oY := ⟨fun _ _ _ _ h => h.2.2.2.2.2.2⟩
theorem qX.o {N : Nat → Prop} {w : World} {v : Value} {x : Verdict} (h : Bo N w (qH 5 qX) v x) : ∃ v1 v2 v3 v4 : Value, v = .agg #[.int .i64 x.kind, v1, v2, v3, v4] ∧ xY x.kind ∧ Bo N w (Sl 1 xK) v1 x.values ∧ Bo N w (Sl 3 qJ) v2 x.arcs ∧ Bo N w (Sl 3 oY) v3 x.pairs ∧ Bo N w (Sl 1 xK) v4 x.numbers := by
  obtain ⟨bs, h1, h2⟩ := h
  obtain ⟨v1, v2, v3, v4, b1, b2, b3, b4, e, k0, k1, k2, k3, k4, eb⟩ := qX.rd h1
  exact ⟨v1, v2, v3, v4, e, k0, ⟨b1, k1, fun c hc => h2 c (by rw [eb]; simp [hc])⟩, ⟨b2, k2, fun c hc => h2 c (by rw [eb]; simp [hc])⟩, ⟨b3, k3, fun c hc => h2 c (by rw [eb]; simp [hc])⟩, ⟨b4, k4, fun c hc => h2 c (by rw [eb]; simp [hc])⟩⟩
theorem qX.m {N : Nat → Prop} {w : World} {f0 : Int} {f1 : List Int} {f2 : List ArcStep} {f3 : List PairStep} {f4 : List Int} {v1 : Value} {v2 : Value} {v3 : Value} {v4 : Value} (h0 : xY f0) (h1 : Bo N w (Sl 1 xK) v1 f1) (h2 : Bo N w (Sl 3 qJ) v2 f2) (h3 : Bo N w (Sl 3 oY) v3 f3) (h4 : Bo N w (Sl 1 xK) v4 f4) : Bo N w (qH 5 qX) (.agg #[.int .i64 f0, v1, v2, v3, v4]) (Verdict.mk f0 f1 f2 f3 f4) := by
  obtain ⟨b1, k1, m1⟩ := h1
  obtain ⟨b2, k2, m2⟩ := h2
  obtain ⟨b3, k3, m3⟩ := h3
  obtain ⟨b4, k4, m4⟩ := h4
  exact ⟨_, qX.mk2 h0 k1 k2 k3 k4, (fun c hc => (List.mem_append.1 hc).elim ((fun c hc => (List.mem_append.1 hc).elim ((fun c hc => (List.mem_append.1 hc).elim (m1 c) (m2 c)) c) (m3 c)) c) (m4 c))⟩
theorem qX.b {N : Nat → Prop} {w : World} {T : TypeId} {b : Nat} {f0 : Int} {f1 : List Int} {f2 : List ArcStep} {f3 : List PairStep} {f4 : List Int} {v1 : Value} {v2 : Value} {v3 : Value} {v4 : Value} (K : Bk N w b [.int .i64 f0, v1, v2, v3, v4] T) (h0 : xY f0) (h1 : Bo N w (Sl 1 xK) v1 f1) (h2 : Bo N w (Sl 3 qJ) v2 f2) (h3 : Bo N w (Sl 3 oY) v3 f3) (h4 : Bo N w (Sl 1 xK) v4 f4) : Bo N w (Pt 5 qX) (.pointer (some ⟨b, 0, none⟩)) (Verdict.mk f0 f1 f2 f3 f4) := by
  obtain ⟨b1, k1, m1⟩ := h1
  obtain ⟨b2, k2, m2⟩ := h2
  obtain ⟨b3, k3, m3⟩ := h3
  obtain ⟨b4, k4, m4⟩ := h4
  refine ⟨_, qX.blk K.1 h0 k1 k2 k3 k4, fun c hc => ?_⟩
  rcases List.mem_cons.1 hc with rfl | hc
  · exact K.2
  · exact ((fun c hc => (List.mem_append.1 hc).elim ((fun c hc => (List.mem_append.1 hc).elim ((fun c hc => (List.mem_append.1 hc).elim (m1 c) (m2 c)) c) (m3 c)) c) (m4 c))) c hc
theorem qX.w {X : List Nat} {N : Nat → Prop} {w0 w : World} {D : List As} {f0 : Int} {f1 : List Int} {f2 : List ArcStep} {f3 : List PairStep} {f4 : List Int} {v1 : Value} {v2 : Value} {v3 : Value} {v4 : Value} {E1 : TypeId} {E2 : TypeId} {E3 : TypeId} {E4 : TypeId} (h0 : xY f0) (H : Sep X N w0 w (rl 1 xK E1 v1 f1 :: rl 3 qJ E2 v2 f2 :: rl 3 oY E3 v3 f3 :: rl 1 xK E4 v4 f4 :: D)) : Sep X N w0 w (ow (V := qH 5 qX) (.agg #[.int .i64 f0, v1, v2, v3, v4]) (Verdict.mk f0 f1 f2 f3 f4) :: D) :=
  H.mg.mg.mg.dt (fun {Y} hP hm => by
    obtain ⟨Y4a, Y4b, ⟨Y3a, Y3b, ⟨Y2a, Y2b, ⟨b1, c1, r1, o1, x1, y1⟩, ⟨b2, c2, r2, o2, x2, y2⟩, d2, z2a, z2b⟩, ⟨b3, c3, r3, o3, x3, y3⟩, d3, z3a, z3b⟩, ⟨b4, c4, r4, o4, x4, y4⟩, d4, z4a, z4b⟩ := hP
    exact ⟨_, qX.mk2 h0 r1.rd r2.rd r3.rd r4.rd, ((((r1.own o1).append (r2.own o2) (fun c h1 h2 => d2 c ((fun c hc => (List.mem_append.1 hc).elim (x1 c) (y1 c)) c h1) ((fun c hc => (List.mem_append.1 hc).elim (x2 c) (y2 c)) c h2))).append (r3.own o3) (fun c h1 h2 => d3 c ((fun c hc => (List.mem_append.1 hc).elim (fun h => z2a c ((fun c hc => (List.mem_append.1 hc).elim (x1 c) (y1 c)) c h)) (fun h => z2b c ((fun c hc => (List.mem_append.1 hc).elim (x2 c) (y2 c)) c h))) c h1) ((fun c hc => (List.mem_append.1 hc).elim (x3 c) (y3 c)) c h2))).append (r4.own o4) (fun c h1 h2 => d4 c ((fun c hc => (List.mem_append.1 hc).elim (fun h => z3a c ((fun c hc => (List.mem_append.1 hc).elim (fun h => z2a c ((fun c hc => (List.mem_append.1 hc).elim (x1 c) (y1 c)) c h)) (fun h => z2b c ((fun c hc => (List.mem_append.1 hc).elim (x2 c) (y2 c)) c h))) c h)) (fun h => z3b c ((fun c hc => (List.mem_append.1 hc).elim (x3 c) (y3 c)) c h))) c h1) ((fun c hc => (List.mem_append.1 hc).elim (x4 c) (y4 c)) c h2))), (fun c hc => (List.mem_append.1 hc).elim (fun h => z4a c ((fun c hc => (List.mem_append.1 hc).elim (fun h => z3a c ((fun c hc => (List.mem_append.1 hc).elim (fun h => z2a c ((fun c hc => (List.mem_append.1 hc).elim (x1 c) (y1 c)) c h)) (fun h => z2b c ((fun c hc => (List.mem_append.1 hc).elim (x2 c) (y2 c)) c h))) c h)) (fun h => z3b c ((fun c hc => (List.mem_append.1 hc).elim (x3 c) (y3 c)) c h))) c h)) (fun h => z4b c ((fun c hc => (List.mem_append.1 hc).elim (x4 c) (y4 c)) c h)))⟩)
theorem qY.o {N : Nat → Prop} {w : World} {v : Value} {x : Equation} (h : Bo N w (qH 2 qY) v x) : ∃ v0 : Value, v = .agg #[v0, .int .i64 x.right] ∧ Bo N w (Sl 1 xK) v0 x.left ∧ xY x.right := by
  obtain ⟨bs, h1, h2⟩ := h
  obtain ⟨v0, b0, e, k0, k1, eb⟩ := qY.rd h1
  exact ⟨v0, e, ⟨b0, k0, fun c hc => h2 c (by rw [eb]; simp [hc])⟩, k1⟩
theorem qY.m {N : Nat → Prop} {w : World} {f0 : List Int} {f1 : Int} {v0 : Value} (h0 : Bo N w (Sl 1 xK) v0 f0) (h1 : xY f1) : Bo N w (qH 2 qY) (.agg #[v0, .int .i64 f1]) (Equation.mk f0 f1) := by
  obtain ⟨b0, k0, m0⟩ := h0
  exact ⟨_, qY.mk2 k0 h1, m0⟩
theorem qY.b {N : Nat → Prop} {w : World} {T : TypeId} {b : Nat} {f0 : List Int} {f1 : Int} {v0 : Value} (K : Bk N w b [v0, .int .i64 f1] T) (h0 : Bo N w (Sl 1 xK) v0 f0) (h1 : xY f1) : Bo N w (Pt 2 qY) (.pointer (some ⟨b, 0, none⟩)) (Equation.mk f0 f1) := by
  obtain ⟨b0, k0, m0⟩ := h0
  refine ⟨_, qY.blk K.1 k0 h1, fun c hc => ?_⟩
  rcases List.mem_cons.1 hc with rfl | hc
  · exact K.2
  · exact (m0) c hc
theorem qY.w {X : List Nat} {N : Nat → Prop} {w0 w : World} {D : List As} {f0 : List Int} {f1 : Int} {v0 : Value} {E0 : TypeId} (h1 : xY f1) (H : Sep X N w0 w (rl 1 xK E0 v0 f0 :: D)) : Sep X N w0 w (ow (V := qH 2 qY) (.agg #[v0, .int .i64 f1]) (Equation.mk f0 f1) :: D) :=
  H.dt (fun {Y} hP hm => by
    obtain ⟨b0, c0, r0, o0, x0, y0⟩ := hP
    exact ⟨_, qY.mk2 r0.rd h1, (r0.own o0), (fun c hc => (List.mem_append.1 hc).elim (x0 c) (y0 c))⟩)
theorem kW.o {N : Nat → Prop} {w : World} {v : Value} {x : Line} (h : Bo N w (qH 4 kW) v x) : v = .agg #[.int .i64 x.kind, .int .i64 x.var, .int .i64 x.value, .int .i64 x.con] ∧ xY x.kind ∧ xY x.var ∧ xY x.value ∧ xY x.con := by
  obtain ⟨bs, h1, h2⟩ := h
  obtain ⟨e, k0, k1, k2, k3, eb⟩ := kW.rd h1
  exact ⟨e, k0, k1, k2, k3⟩
theorem kW.m {N : Nat → Prop} {w : World} {f0 : Int} {f1 : Int} {f2 : Int} {f3 : Int}  (h0 : xY f0) (h1 : xY f1) (h2 : xY f2) (h3 : xY f3) : Bo N w (qH 4 kW) (.agg #[.int .i64 f0, .int .i64 f1, .int .i64 f2, .int .i64 f3]) (Line.mk f0 f1 f2 f3) := by
  exact ⟨_, kW.mk2 h0 h1 h2 h3, fun c hc => nomatch hc⟩
theorem kW.b {N : Nat → Prop} {w : World} {T : TypeId} {b : Nat} {f0 : Int} {f1 : Int} {f2 : Int} {f3 : Int}  (K : Bk N w b [.int .i64 f0, .int .i64 f1, .int .i64 f2, .int .i64 f3] T) (h0 : xY f0) (h1 : xY f1) (h2 : xY f2) (h3 : xY f3) : Bo N w (Pt 4 kW) (.pointer (some ⟨b, 0, none⟩)) (Line.mk f0 f1 f2 f3) := by
  refine ⟨_, kW.blk K.1 h0 h1 h2 h3, fun c hc => ?_⟩
  rcases List.mem_cons.1 hc with rfl | hc
  · exact K.2
  · exact (fun c hc => nomatch hc) c hc
theorem kW.w {X : List Nat} {N : Nat → Prop} {w0 w : World} {D : List As} {f0 : Int} {f1 : Int} {f2 : Int} {f3 : Int}   (h0 : xY f0) (h1 : xY f1) (h2 : xY f2) (h3 : xY f3) (H : Sep X N w0 w (D)) : Sep X N w0 w (ow (V := qH 4 kW) (.agg #[.int .i64 f0, .int .i64 f1, .int .i64 f2, .int .i64 f3]) (Line.mk f0 f1 f2 f3) :: D) :=
  H.d0 (kW.mk2 h0 h1 h2 h3)
instance : Flat kW := ⟨fun _ _ _ _ h => h.2.2.2.2.2.2.2.2⟩
theorem vP.o {N : Nat → Prop} {w : World} {v : Value} {x : Literal} (h : Bo N w (qH 2 vP) v x) : v = .agg #[.int .i64 x.var, .int .i64 x.value] ∧ xY x.var ∧ xY x.value := by
  obtain ⟨bs, h1, h2⟩ := h
  obtain ⟨e, k0, k1, eb⟩ := vP.rd h1
  exact ⟨e, k0, k1⟩
theorem vP.m {N : Nat → Prop} {w : World} {f0 : Int} {f1 : Int}  (h0 : xY f0) (h1 : xY f1) : Bo N w (qH 2 vP) (.agg #[.int .i64 f0, .int .i64 f1]) (Literal.mk f0 f1) := by
  exact ⟨_, vP.mk2 h0 h1, fun c hc => nomatch hc⟩
theorem vP.b {N : Nat → Prop} {w : World} {T : TypeId} {b : Nat} {f0 : Int} {f1 : Int}  (K : Bk N w b [.int .i64 f0, .int .i64 f1] T) (h0 : xY f0) (h1 : xY f1) : Bo N w (Pt 2 vP) (.pointer (some ⟨b, 0, none⟩)) (Literal.mk f0 f1) := by
  refine ⟨_, vP.blk K.1 h0 h1, fun c hc => ?_⟩
  rcases List.mem_cons.1 hc with rfl | hc
  · exact K.2
  · exact (fun c hc => nomatch hc) c hc
theorem vP.w {X : List Nat} {N : Nat → Prop} {w0 w : World} {D : List As} {f0 : Int} {f1 : Int}   (h0 : xY f0) (h1 : xY f1) (H : Sep X N w0 w (D)) : Sep X N w0 w (ow (V := qH 2 vP) (.agg #[.int .i64 f0, .int .i64 f1]) (Literal.mk f0 f1) :: D) :=
  H.d0 (vP.mk2 h0 h1)
instance : Flat vP := ⟨fun _ _ _ _ h => h.2.2.2.2⟩
theorem xV.o {N : Nat → Prop} {w : World} {v : Value} {x : Gadgets} (h : Bo N w (qH 1 xV) v x) : ∃ v0 : Value, v = .agg #[v0] ∧ Bo N w (Sl 3 xL) v0 x.formulas := by
  obtain ⟨bs, h1, h2⟩ := h
  obtain ⟨v0, b0, e, k0, eb⟩ := xV.rd h1
  exact ⟨v0, e, ⟨b0, k0, fun c hc => h2 c (by rw [eb]; simp [hc])⟩⟩
theorem xV.m {N : Nat → Prop} {w : World} {f0 : List Formula} {v0 : Value} (h0 : Bo N w (Sl 3 xL) v0 f0) : Bo N w (qH 1 xV) (.agg #[v0]) (Gadgets.mk f0) := by
  obtain ⟨b0, k0, m0⟩ := h0
  exact ⟨_, xV.mk2 k0, m0⟩
theorem xV.b {N : Nat → Prop} {w : World} {T : TypeId} {b : Nat} {f0 : List Formula} {v0 : Value} (K : Bk N w b [v0] T) (h0 : Bo N w (Sl 3 xL) v0 f0) : Bo N w (Pt 1 xV) (.pointer (some ⟨b, 0, none⟩)) (Gadgets.mk f0) := by
  obtain ⟨b0, k0, m0⟩ := h0
  refine ⟨_, xV.blk K.1 k0, fun c hc => ?_⟩
  rcases List.mem_cons.1 hc with rfl | hc
  · exact K.2
  · exact (m0) c hc
theorem xV.w {X : List Nat} {N : Nat → Prop} {w0 w : World} {D : List As} {f0 : List Formula} {v0 : Value} {E0 : TypeId}  (H : Sep X N w0 w (rl 3 xL E0 v0 f0 :: D)) : Sep X N w0 w (ow (V := qH 1 xV) (.agg #[v0]) (Gadgets.mk f0) :: D) :=
  H.dt (fun {Y} hP hm => by
    obtain ⟨b0, c0, r0, o0, x0, y0⟩ := hP
    exact ⟨_, xV.mk2 r0.rd, (r0.own o0), (fun c hc => (List.mem_append.1 hc).elim (x0 c) (y0 c))⟩)
theorem RDeed.o {N : Nat → Prop} {w : World} {v : Value} {x : Deed} (h : Bo N w (qH 3 RDeed) v x) : v = .agg #[.int .i64 x.kind, .int .i64 x.a, .int .i64 x.b] ∧ xY x.kind ∧ xY x.a ∧ xY x.b := by
  obtain ⟨bs, h1, h2⟩ := h
  obtain ⟨e, k0, k1, k2, eb⟩ := RDeed.rd h1
  exact ⟨e, k0, k1, k2⟩
theorem RDeed.m {N : Nat → Prop} {w : World} {f0 : Int} {f1 : Int} {f2 : Int}  (h0 : xY f0) (h1 : xY f1) (h2 : xY f2) : Bo N w (qH 3 RDeed) (.agg #[.int .i64 f0, .int .i64 f1, .int .i64 f2]) (Deed.mk f0 f1 f2) := by
  exact ⟨_, RDeed.mk2 h0 h1 h2, fun c hc => nomatch hc⟩
theorem RDeed.b {N : Nat → Prop} {w : World} {T : TypeId} {b : Nat} {f0 : Int} {f1 : Int} {f2 : Int}  (K : Bk N w b [.int .i64 f0, .int .i64 f1, .int .i64 f2] T) (h0 : xY f0) (h1 : xY f1) (h2 : xY f2) : Bo N w (Pt 3 RDeed) (.pointer (some ⟨b, 0, none⟩)) (Deed.mk f0 f1 f2) := by
  refine ⟨_, RDeed.blk K.1 h0 h1 h2, fun c hc => ?_⟩
  rcases List.mem_cons.1 hc with rfl | hc
  · exact K.2
  · exact (fun c hc => nomatch hc) c hc
theorem RDeed.w {X : List Nat} {N : Nat → Prop} {w0 w : World} {D : List As} {f0 : Int} {f1 : Int} {f2 : Int}   (h0 : xY f0) (h1 : xY f1) (h2 : xY f2) (H : Sep X N w0 w (D)) : Sep X N w0 w (ow (V := qH 3 RDeed) (.agg #[.int .i64 f0, .int .i64 f1, .int .i64 f2]) (Deed.mk f0 f1 f2) :: D) :=
  H.d0 (RDeed.mk2 h0 h1 h2)
instance : Flat RDeed := ⟨fun _ _ _ _ h => h.2.2.2.2.2.2⟩
theorem vL.o {N : Nat → Prop} {w : World} {v : Value} {x : solver} (h : Bo N w (qH 4 vL) v x) : ∃ v1 v3 : Value, v = .agg #[.int .i64 x.t.size, v1, .int .i64 x.vars, v3] ∧ xY x.t.size ∧ Bo N w (Sl 2 qE) v1 x.t.rels ∧ xY x.vars ∧ Bo N w (Sl 1 (RSl 2 xU)) v3 x.due := by
  obtain ⟨bs, h1, h2⟩ := h
  obtain ⟨v1, v3, b1, b3, e, k0, k1, k2, k3, eb⟩ := vL.rd h1
  exact ⟨v1, v3, e, k0, ⟨b1, k1, fun c hc => h2 c (by rw [eb]; simp [hc])⟩, k2, ⟨b3, k3, fun c hc => h2 c (by rw [eb]; simp [hc])⟩⟩
theorem vL.m {N : Nat → Prop} {w : World} {f0 : Int} {f1 : List Rel} {f2 : Int} {f3 : List (List Atom)} {v1 : Value} {v3 : Value} (h0 : xY f0) (h1 : Bo N w (Sl 2 qE) v1 f1) (h2 : xY f2) (h3 : Bo N w (Sl 1 (RSl 2 xU)) v3 f3) : Bo N w (qH 4 vL) (.agg #[.int .i64 f0, v1, .int .i64 f2, v3]) (solver.mk (Template.mk f0 f1) f2 f3) := by
  obtain ⟨b1, k1, m1⟩ := h1
  obtain ⟨b3, k3, m3⟩ := h3
  exact ⟨_, vL.mk2 h0 k1 h2 k3, (fun c hc => (List.mem_append.1 hc).elim (m1 c) (m3 c))⟩
theorem vL.b {N : Nat → Prop} {w : World} {T : TypeId} {b : Nat} {f0 : Int} {f1 : List Rel} {f2 : Int} {f3 : List (List Atom)} {v1 : Value} {v3 : Value} (K : Bk N w b [.int .i64 f0, v1, .int .i64 f2, v3] T) (h0 : xY f0) (h1 : Bo N w (Sl 2 qE) v1 f1) (h2 : xY f2) (h3 : Bo N w (Sl 1 (RSl 2 xU)) v3 f3) : Bo N w (Pt 4 vL) (.pointer (some ⟨b, 0, none⟩)) (solver.mk (Template.mk f0 f1) f2 f3) := by
  obtain ⟨b1, k1, m1⟩ := h1
  obtain ⟨b3, k3, m3⟩ := h3
  refine ⟨_, vL.blk K.1 h0 k1 h2 k3, fun c hc => ?_⟩
  rcases List.mem_cons.1 hc with rfl | hc
  · exact K.2
  · exact ((fun c hc => (List.mem_append.1 hc).elim (m1 c) (m3 c))) c hc
theorem vL.w {X : List Nat} {N : Nat → Prop} {w0 w : World} {D : List As} {f0 : Int} {f1 : List Rel} {f2 : Int} {f3 : List (List Atom)} {v1 : Value} {v3 : Value} {E1 : TypeId} {E3 : TypeId} (h0 : xY f0) (h2 : xY f2) (H : Sep X N w0 w (rl 2 qE E1 v1 f1 :: rl 1 (RSl 2 xU) E3 v3 f3 :: D)) : Sep X N w0 w (ow (V := qH 4 vL) (.agg #[.int .i64 f0, v1, .int .i64 f2, v3]) (solver.mk (Template.mk f0 f1) f2 f3) :: D) :=
  H.mg.dt (fun {Y} hP hm => by
    obtain ⟨Y3a, Y3b, ⟨b1, c1, r1, o1, x1, y1⟩, ⟨b3, c3, r3, o3, x3, y3⟩, d3, z3a, z3b⟩ := hP
    exact ⟨_, vL.mk2 h0 r1.rd h2 r3.rd, ((r1.own o1).append (r3.own o3) (fun c h1 h2 => d3 c ((fun c hc => (List.mem_append.1 hc).elim (x1 c) (y1 c)) c h1) ((fun c hc => (List.mem_append.1 hc).elim (x3 c) (y3 c)) c h2))), (fun c hc => (List.mem_append.1 hc).elim (fun h => z3a c ((fun c hc => (List.mem_append.1 hc).elim (x1 c) (y1 c)) c h)) (fun h => z3b c ((fun c hc => (List.mem_append.1 hc).elim (x3 c) (y3 c)) c h)))⟩)
theorem vG.o {N : Nat → Prop} {w : World} {v : Value} {x : l05Find} (h : Bo N w (qH 5 vG) v x) : ∃ v0 v1 v3 : Value, v = .agg #[v0, v1, .int .i64 x.most, v3, .int .i64 x.n] ∧ Bo N w (Pt 2 xJ) v0 x.t ∧ Bo N w (Pt 2 xM) v1 x.x ∧ xY x.most ∧ Bo N w (Sl 1 zA) v3 x.list ∧ xY x.n := by
  obtain ⟨bs, h1, h2⟩ := h
  obtain ⟨v0, v1, v3, b0, b1, b3, e, k0, k1, k2, k3, k4, eb⟩ := vG.rd h1
  exact ⟨v0, v1, v3, e, ⟨b0, k0, fun c hc => h2 c (by rw [eb]; simp [hc])⟩, ⟨b1, k1, fun c hc => h2 c (by rw [eb]; simp [hc])⟩, k2, ⟨b3, k3, fun c hc => h2 c (by rw [eb]; simp [hc])⟩, k4⟩
theorem vG.m {N : Nat → Prop} {w : World} {f0 : Template} {f1 : Instance} {f2 : Int} {f3 : List (List Int)} {f4 : Int} {v0 : Value} {v1 : Value} {v3 : Value} (h0 : Bo N w (Pt 2 xJ) v0 f0) (h1 : Bo N w (Pt 2 xM) v1 f1) (h2 : xY f2) (h3 : Bo N w (Sl 1 zA) v3 f3) (h4 : xY f4) : Bo N w (qH 5 vG) (.agg #[v0, v1, .int .i64 f2, v3, .int .i64 f4]) (l05Find.mk f0 f1 f2 f3 f4) := by
  obtain ⟨b0, k0, m0⟩ := h0
  obtain ⟨b1, k1, m1⟩ := h1
  obtain ⟨b3, k3, m3⟩ := h3
  exact ⟨_, vG.mk2 k0 k1 h2 k3 h4, (fun c hc => (List.mem_append.1 hc).elim ((fun c hc => (List.mem_append.1 hc).elim (m0 c) (m1 c)) c) (m3 c))⟩
theorem vG.b {N : Nat → Prop} {w : World} {T : TypeId} {b : Nat} {f0 : Template} {f1 : Instance} {f2 : Int} {f3 : List (List Int)} {f4 : Int} {v0 : Value} {v1 : Value} {v3 : Value} (K : Bk N w b [v0, v1, .int .i64 f2, v3, .int .i64 f4] T) (h0 : Bo N w (Pt 2 xJ) v0 f0) (h1 : Bo N w (Pt 2 xM) v1 f1) (h2 : xY f2) (h3 : Bo N w (Sl 1 zA) v3 f3) (h4 : xY f4) : Bo N w (Pt 5 vG) (.pointer (some ⟨b, 0, none⟩)) (l05Find.mk f0 f1 f2 f3 f4) := by
  obtain ⟨b0, k0, m0⟩ := h0
  obtain ⟨b1, k1, m1⟩ := h1
  obtain ⟨b3, k3, m3⟩ := h3
  refine ⟨_, vG.blk K.1 k0 k1 h2 k3 h4, fun c hc => ?_⟩
  rcases List.mem_cons.1 hc with rfl | hc
  · exact K.2
  · exact ((fun c hc => (List.mem_append.1 hc).elim ((fun c hc => (List.mem_append.1 hc).elim (m0 c) (m1 c)) c) (m3 c))) c hc
theorem Rtold.o {N : Nat → Prop} {w : World} {v : Value} {x : told} (h : Bo N w (qH 2 Rtold) v x) : ∃ v0 : Value, v = .agg #[v0, .int .i64 x.var] ∧ Bo N w (Sl 1 xK) v0 x.left ∧ xY x.var := by
  obtain ⟨bs, h1, h2⟩ := h
  obtain ⟨v0, b0, e, k0, k1, eb⟩ := Rtold.rd h1
  exact ⟨v0, e, ⟨b0, k0, fun c hc => h2 c (by rw [eb]; simp [hc])⟩, k1⟩
theorem Rtold.m {N : Nat → Prop} {w : World} {f0 : List Int} {f1 : Int} {v0 : Value} (h0 : Bo N w (Sl 1 xK) v0 f0) (h1 : xY f1) : Bo N w (qH 2 Rtold) (.agg #[v0, .int .i64 f1]) (told.mk f0 f1) := by
  obtain ⟨b0, k0, m0⟩ := h0
  exact ⟨_, Rtold.mk2 k0 h1, m0⟩
theorem Rtold.b {N : Nat → Prop} {w : World} {T : TypeId} {b : Nat} {f0 : List Int} {f1 : Int} {v0 : Value} (K : Bk N w b [v0, .int .i64 f1] T) (h0 : Bo N w (Sl 1 xK) v0 f0) (h1 : xY f1) : Bo N w (Pt 2 Rtold) (.pointer (some ⟨b, 0, none⟩)) (told.mk f0 f1) := by
  obtain ⟨b0, k0, m0⟩ := h0
  refine ⟨_, Rtold.blk K.1 k0 h1, fun c hc => ?_⟩
  rcases List.mem_cons.1 hc with rfl | hc
  · exact K.2
  · exact (m0) c hc
theorem Rtold.w {X : List Nat} {N : Nat → Prop} {w0 w : World} {D : List As} {f0 : List Int} {f1 : Int} {v0 : Value} {E0 : TypeId} (h1 : xY f1) (H : Sep X N w0 w (rl 1 xK E0 v0 f0 :: D)) : Sep X N w0 w (ow (V := qH 2 Rtold) (.agg #[v0, .int .i64 f1]) (told.mk f0 f1) :: D) :=
  H.dt (fun {Y} hP hm => by
    obtain ⟨b0, c0, r0, o0, x0, y0⟩ := hP
    exact ⟨_, Rtold.mk2 r0.rd h1, (r0.own o0), (fun c hc => (List.mem_append.1 hc).elim (x0 c) (y0 c))⟩)
end Go.Proofs.YtmgdjaiaekhkgaaGreat
