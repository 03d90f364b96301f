/-
  The data of the laws: how each struct reads in memory, and how its value opens. Printed by gen_types.py. No program.
-/
import Derived.Test.YtmgdjaiaekhkgaaGreatB
namespace Go.Proofs.YtmgdjaiaekhkgaaGreat
set_option linter.unusedVariables false
set_option linter.unusedSimpArgs false
open Go.RowKit

structure Rel where
  arity : Int
  tuples : List (List Int)
instance : Inhabited Rel := ⟨⟨0, []⟩⟩
/-- How it reads. -/
def RRel : ER Rel := fun w f x bs => ∃ v1 : Value, ∃ b1 : List Nat, f 0 = some (.int .i64 x.arity) ∧ I64 x.arity ∧ f 1 = some v1 ∧ Sl 1 RInts w v1 x.tuples b1 ∧ bs = b1
theorem RRel.fr : Fr 2 RRel := by
  intro w w' f g x bs h hs hg
  obtain ⟨v1, b1, h0, k0, h1, k1, rfl⟩ := h
  exact ⟨v1, _, (hg 0 (by omega)).trans h0, k0, (hg 1 (by omega)).trans h1, k1.same RInts.fr (fun c hc => hs c (by simp [hc])), rfl⟩
theorem RRel.open {w : World} {v : Value} {x : Rel} {bs : List Nat} (h : Agg 2 RRel w v x bs) : ∃ v1 : Value, ∃ b1 : List Nat, v = .agg #[.int .i64 x.arity, v1] ∧ I64 x.arity ∧ Sl 1 RInts w v1 x.tuples b1 ∧ bs = b1 := by
  obtain ⟨cs, hl, rfl, v1, b1, h0, k0, h1, k1, rfl⟩ := h
  match cs, hl with
  | [c0, c1], _ =>
    obtain rfl := Option.some.inj h0
    obtain rfl := Option.some.inj h1
    exact ⟨_, _, rfl, k0, k1, rfl⟩
theorem RRel.mk' {w : World} {x : Rel} {v1 : Value} {b1 : List Nat} (h0 : I64 x.arity) (h1 : Sl 1 RInts w v1 x.tuples b1) : Agg 2 RRel w (.agg #[.int .i64 x.arity, v1]) x (b1) :=
  ⟨[.int .i64 x.arity, v1], rfl, rfl, _, _, rfl, h0, rfl, h1, rfl⟩
def Rel.sz (x : Rel) : Nat := szS List.length x.tuples
def Rel.cnt (x : Rel) : Nat := cntS List.length x.tuples
def Rel.ecnt (x : Rel) : Nat := 1 + x.cnt
def Rel.mkv (x : Rel) (k : Int) : Rel := ⟨x.arity, mkS mkInts List.length x.tuples (k)⟩
def Rel.emk (x : Rel) (k : Int) : Rel := ⟨k, mkS mkInts List.length x.tuples (k + 1)⟩

structure Template where
  size : Int
  rels : List Rel
instance : Inhabited Template := ⟨⟨0, []⟩⟩
/-- How it reads. -/
def RTemplate : ER Template := fun w f x bs => ∃ v1 : Value, ∃ b1 : List Nat, f 0 = some (.int .i64 x.size) ∧ I64 x.size ∧ f 1 = some v1 ∧ Sl 2 RRel w v1 x.rels b1 ∧ bs = b1
theorem RTemplate.fr : Fr 2 RTemplate := by
  intro w w' f g x bs h hs hg
  obtain ⟨v1, b1, h0, k0, h1, k1, rfl⟩ := h
  exact ⟨v1, _, (hg 0 (by omega)).trans h0, k0, (hg 1 (by omega)).trans h1, k1.same RRel.fr (fun c hc => hs c (by simp [hc])), rfl⟩
theorem RTemplate.open {w : World} {v : Value} {x : Template} {bs : List Nat} (h : Agg 2 RTemplate w v x bs) : ∃ v1 : Value, ∃ b1 : List Nat, v = .agg #[.int .i64 x.size, v1] ∧ I64 x.size ∧ Sl 2 RRel w v1 x.rels b1 ∧ bs = b1 := by
  obtain ⟨cs, hl, rfl, v1, b1, h0, k0, h1, k1, rfl⟩ := h
  match cs, hl with
  | [c0, c1], _ =>
    obtain rfl := Option.some.inj h0
    obtain rfl := Option.some.inj h1
    exact ⟨_, _, rfl, k0, k1, rfl⟩
theorem RTemplate.mk' {w : World} {x : Template} {v1 : Value} {b1 : List Nat} (h0 : I64 x.size) (h1 : Sl 2 RRel w v1 x.rels b1) : Agg 2 RTemplate w (.agg #[.int .i64 x.size, v1]) x (b1) :=
  ⟨[.int .i64 x.size, v1], rfl, rfl, _, _, rfl, h0, rfl, h1, rfl⟩
def Template.sz (x : Template) : Nat := szS Rel.sz x.rels
def Template.cnt (x : Template) : Nat := cntS Rel.ecnt x.rels
def Template.ecnt (x : Template) : Nat := 1 + x.cnt
def Template.mkv (x : Template) (k : Int) : Template := ⟨x.size, mkS Rel.emk Rel.ecnt x.rels (k)⟩
def Template.emk (x : Template) (k : Int) : Template := ⟨k, mkS Rel.emk Rel.ecnt x.rels (k + 1)⟩

structure Op where
  arity : Int
  table : List Int
instance : Inhabited Op := ⟨⟨0, []⟩⟩
/-- How it reads. -/
def ROp : ER Op := fun w f x bs => ∃ v1 : Value, ∃ b1 : List Nat, f 0 = some (.int .i64 x.arity) ∧ I64 x.arity ∧ f 1 = some v1 ∧ Sl 1 RInt w v1 x.table b1 ∧ bs = b1
theorem ROp.fr : Fr 2 ROp := by
  intro w w' f g x bs h hs hg
  obtain ⟨v1, b1, h0, k0, h1, k1, rfl⟩ := h
  exact ⟨v1, _, (hg 0 (by omega)).trans h0, k0, (hg 1 (by omega)).trans h1, k1.same RInt.fr (fun c hc => hs c (by simp [hc])), rfl⟩
theorem ROp.open {w : World} {v : Value} {x : Op} {bs : List Nat} (h : Agg 2 ROp w v x bs) : ∃ v1 : Value, ∃ b1 : List Nat, v = .agg #[.int .i64 x.arity, v1] ∧ I64 x.arity ∧ Sl 1 RInt w v1 x.table b1 ∧ bs = b1 := by
  obtain ⟨cs, hl, rfl, v1, b1, h0, k0, h1, k1, rfl⟩ := h
  match cs, hl with
  | [c0, c1], _ =>
    obtain rfl := Option.some.inj h0
    obtain rfl := Option.some.inj h1
    exact ⟨_, _, rfl, k0, k1, rfl⟩
theorem ROp.mk' {w : World} {x : Op} {v1 : Value} {b1 : List Nat} (h0 : I64 x.arity) (h1 : Sl 1 RInt w v1 x.table b1) : Agg 2 ROp w (.agg #[.int .i64 x.arity, v1]) x (b1) :=
  ⟨[.int .i64 x.arity, v1], rfl, rfl, _, _, rfl, h0, rfl, h1, rfl⟩
def Op.sz (x : Op) : Nat := x.table.length
def Op.cnt (x : Op) : Nat := cntS cI x.table
def Op.ecnt (x : Op) : Nat := 1 + x.cnt
def Op.mkv (x : Op) (k : Int) : Op := ⟨x.arity, mkS mkI cI x.table (k)⟩
def Op.emk (x : Op) (k : Int) : Op := ⟨k, mkS mkI cI x.table (k + 1)⟩

structure Atom where
  rel : Int
  args : List Int
instance : Inhabited Atom := ⟨⟨0, []⟩⟩
/-- How it reads. -/
def RAtom : ER Atom := fun w f x bs => ∃ v1 : Value, ∃ b1 : List Nat, f 0 = some (.int .i64 x.rel) ∧ I64 x.rel ∧ f 1 = some v1 ∧ Sl 1 RInt w v1 x.args b1 ∧ bs = b1
theorem RAtom.fr : Fr 2 RAtom := by
  intro w w' f g x bs h hs hg
  obtain ⟨v1, b1, h0, k0, h1, k1, rfl⟩ := h
  exact ⟨v1, _, (hg 0 (by omega)).trans h0, k0, (hg 1 (by omega)).trans h1, k1.same RInt.fr (fun c hc => hs c (by simp [hc])), rfl⟩
theorem RAtom.open {w : World} {v : Value} {x : Atom} {bs : List Nat} (h : Agg 2 RAtom w v x bs) : ∃ v1 : Value, ∃ b1 : List Nat, v = .agg #[.int .i64 x.rel, v1] ∧ I64 x.rel ∧ Sl 1 RInt w v1 x.args b1 ∧ bs = b1 := by
  obtain ⟨cs, hl, rfl, v1, b1, h0, k0, h1, k1, rfl⟩ := h
  match cs, hl with
  | [c0, c1], _ =>
    obtain rfl := Option.some.inj h0
    obtain rfl := Option.some.inj h1
    exact ⟨_, _, rfl, k0, k1, rfl⟩
theorem RAtom.mk' {w : World} {x : Atom} {v1 : Value} {b1 : List Nat} (h0 : I64 x.rel) (h1 : Sl 1 RInt w v1 x.args b1) : Agg 2 RAtom w (.agg #[.int .i64 x.rel, v1]) x (b1) :=
  ⟨[.int .i64 x.rel, v1], rfl, rfl, _, _, rfl, h0, rfl, h1, rfl⟩
abbrev Atoms := Sl 2 RAtom
def Atom.sz (x : Atom) : Nat := x.args.length
def Atom.cnt (x : Atom) : Nat := cntS cI x.args
def Atom.ecnt (x : Atom) : Nat := 1 + x.cnt
def Atom.mkv (x : Atom) (k : Int) : Atom := ⟨x.rel, mkS mkI cI x.args (k)⟩
def Atom.emk (x : Atom) (k : Int) : Atom := ⟨k, mkS mkI cI x.args (k + 1)⟩

structure Formula where
  free : Int
  vars : Int
  atoms : List Atom
instance : Inhabited Formula := ⟨⟨0, 0, []⟩⟩
/-- How it reads. -/
def RFormula : ER Formula := fun w f x bs => ∃ v2 : Value, ∃ b2 : List Nat, f 0 = some (.int .i64 x.free) ∧ I64 x.free ∧ f 1 = some (.int .i64 x.vars) ∧ I64 x.vars ∧ f 2 = some v2 ∧ Sl 2 RAtom w v2 x.atoms b2 ∧ bs = b2
theorem RFormula.fr : Fr 3 RFormula := by
  intro w w' f g x bs h hs hg
  obtain ⟨v2, b2, h0, k0, h1, k1, h2, k2, rfl⟩ := h
  exact ⟨v2, _, (hg 0 (by omega)).trans h0, k0, (hg 1 (by omega)).trans h1, k1, (hg 2 (by omega)).trans h2, k2.same RAtom.fr (fun c hc => hs c (by simp [hc])), rfl⟩
theorem RFormula.open {w : World} {v : Value} {x : Formula} {bs : List Nat} (h : Agg 3 RFormula w v x bs) : ∃ v2 : Value, ∃ b2 : List Nat, v = .agg #[.int .i64 x.free, .int .i64 x.vars, v2] ∧ I64 x.free ∧ I64 x.vars ∧ Sl 2 RAtom w v2 x.atoms b2 ∧ bs = b2 := by
  obtain ⟨cs, hl, rfl, v2, b2, h0, k0, h1, k1, h2, k2, rfl⟩ := h
  match cs, hl with
  | [c0, c1, c2], _ =>
    obtain rfl := Option.some.inj h0
    obtain rfl := Option.some.inj h1
    obtain rfl := Option.some.inj h2
    exact ⟨_, _, rfl, k0, k1, k2, rfl⟩
theorem RFormula.mk' {w : World} {x : Formula} {v2 : Value} {b2 : List Nat} (h0 : I64 x.free) (h1 : I64 x.vars) (h2 : Sl 2 RAtom w v2 x.atoms b2) : Agg 3 RFormula w (.agg #[.int .i64 x.free, .int .i64 x.vars, v2]) x (b2) :=
  ⟨[.int .i64 x.free, .int .i64 x.vars, v2], rfl, rfl, _, _, rfl, h0, rfl, h1, rfl, h2, rfl⟩
abbrev Formulas := Sl 3 RFormula
def Formula.sz (x : Formula) : Nat := szS Atom.sz x.atoms
def Formula.cnt (x : Formula) : Nat := cntS Atom.ecnt x.atoms
def Formula.ecnt (x : Formula) : Nat := 2 + x.cnt
def Formula.mkv (x : Formula) (k : Int) : Formula := ⟨x.free, x.vars, mkS Atom.emk Atom.ecnt x.atoms (k)⟩
def Formula.emk (x : Formula) (k : Int) : Formula := ⟨k, k + 1, mkS Atom.emk Atom.ecnt x.atoms (k + 1 + 1)⟩

structure Con where
  rel : Int
  scope : List Int
instance : Inhabited Con := ⟨⟨0, []⟩⟩
/-- How it reads. -/
def RCon : ER Con := fun w f x bs => ∃ v1 : Value, ∃ b1 : List Nat, f 0 = some (.int .i64 x.rel) ∧ I64 x.rel ∧ f 1 = some v1 ∧ Sl 1 RInt w v1 x.scope b1 ∧ bs = b1
theorem RCon.fr : Fr 2 RCon := by
  intro w w' f g x bs h hs hg
  obtain ⟨v1, b1, h0, k0, h1, k1, rfl⟩ := h
  exact ⟨v1, _, (hg 0 (by omega)).trans h0, k0, (hg 1 (by omega)).trans h1, k1.same RInt.fr (fun c hc => hs c (by simp [hc])), rfl⟩
theorem RCon.open {w : World} {v : Value} {x : Con} {bs : List Nat} (h : Agg 2 RCon w v x bs) : ∃ v1 : Value, ∃ b1 : List Nat, v = .agg #[.int .i64 x.rel, v1] ∧ I64 x.rel ∧ Sl 1 RInt w v1 x.scope b1 ∧ bs = b1 := by
  obtain ⟨cs, hl, rfl, v1, b1, h0, k0, h1, k1, rfl⟩ := h
  match cs, hl with
  | [c0, c1], _ =>
    obtain rfl := Option.some.inj h0
    obtain rfl := Option.some.inj h1
    exact ⟨_, _, rfl, k0, k1, rfl⟩
theorem RCon.mk' {w : World} {x : Con} {v1 : Value} {b1 : List Nat} (h0 : I64 x.rel) (h1 : Sl 1 RInt w v1 x.scope b1) : Agg 2 RCon w (.agg #[.int .i64 x.rel, v1]) x (b1) :=
  ⟨[.int .i64 x.rel, v1], rfl, rfl, _, _, rfl, h0, rfl, h1, rfl⟩
def Con.sz (x : Con) : Nat := x.scope.length
def Con.cnt (x : Con) : Nat := cntS cI x.scope
def Con.ecnt (x : Con) : Nat := 1 + x.cnt
def Con.mkv (x : Con) (k : Int) : Con := ⟨x.rel, mkS mkI cI x.scope (k)⟩
def Con.emk (x : Con) (k : Int) : Con := ⟨k, mkS mkI cI x.scope (k + 1)⟩

structure Instance where
  vars : Int
  cons : List Con
instance : Inhabited Instance := ⟨⟨0, []⟩⟩
/-- How it reads. -/
def RInstance : ER Instance := fun w f x bs => ∃ v1 : Value, ∃ b1 : List Nat, f 0 = some (.int .i64 x.vars) ∧ I64 x.vars ∧ f 1 = some v1 ∧ Sl 2 RCon w v1 x.cons b1 ∧ bs = b1
theorem RInstance.fr : Fr 2 RInstance := by
  intro w w' f g x bs h hs hg
  obtain ⟨v1, b1, h0, k0, h1, k1, rfl⟩ := h
  exact ⟨v1, _, (hg 0 (by omega)).trans h0, k0, (hg 1 (by omega)).trans h1, k1.same RCon.fr (fun c hc => hs c (by simp [hc])), rfl⟩
theorem RInstance.open {w : World} {v : Value} {x : Instance} {bs : List Nat} (h : Agg 2 RInstance w v x bs) : ∃ v1 : Value, ∃ b1 : List Nat, v = .agg #[.int .i64 x.vars, v1] ∧ I64 x.vars ∧ Sl 2 RCon w v1 x.cons b1 ∧ bs = b1 := by
  obtain ⟨cs, hl, rfl, v1, b1, h0, k0, h1, k1, rfl⟩ := h
  match cs, hl with
  | [c0, c1], _ =>
    obtain rfl := Option.some.inj h0
    obtain rfl := Option.some.inj h1
    exact ⟨_, _, rfl, k0, k1, rfl⟩
theorem RInstance.mk' {w : World} {x : Instance} {v1 : Value} {b1 : List Nat} (h0 : I64 x.vars) (h1 : Sl 2 RCon w v1 x.cons b1) : Agg 2 RInstance w (.agg #[.int .i64 x.vars, v1]) x (b1) :=
  ⟨[.int .i64 x.vars, v1], rfl, rfl, _, _, rfl, h0, rfl, h1, rfl⟩
def Instance.sz (x : Instance) : Nat := szS Con.sz x.cons
def Instance.cnt (x : Instance) : Nat := cntS Con.ecnt x.cons
def Instance.ecnt (x : Instance) : Nat := 1 + x.cnt
def Instance.mkv (x : Instance) (k : Int) : Instance := ⟨x.vars, mkS Con.emk Con.ecnt x.cons (k)⟩
def Instance.emk (x : Instance) (k : Int) : Instance := ⟨k, mkS Con.emk Con.ecnt x.cons (k + 1)⟩

structure ArcStep where
  var : Int
  value : Int
  con : Int
instance : Inhabited ArcStep := ⟨⟨0, 0, 0⟩⟩
/-- How it reads. -/
def RArcStep : ER ArcStep := fun w f x bs => f 0 = some (.int .i64 x.var) ∧ I64 x.var ∧ f 1 = some (.int .i64 x.value) ∧ I64 x.value ∧ f 2 = some (.int .i64 x.con) ∧ I64 x.con ∧ bs = []
theorem RArcStep.fr : Fr 3 RArcStep := by
  intro w w' f g x bs h _ hg
  obtain ⟨h0, k0, h1, k1, h2, k2, rfl⟩ := h
  exact ⟨(hg 0 (by omega)).trans h0, k0, (hg 1 (by omega)).trans h1, k1, (hg 2 (by omega)).trans h2, k2, rfl⟩
theorem RArcStep.open {w : World} {v : Value} {x : ArcStep} {bs : List Nat} (h : Agg 3 RArcStep w v x bs) : v = .agg #[.int .i64 x.var, .int .i64 x.value, .int .i64 x.con] ∧ I64 x.var ∧ I64 x.value ∧ I64 x.con ∧ bs = [] := by
  obtain ⟨cs, hl, rfl, h0, k0, h1, k1, h2, k2, rfl⟩ := h
  match cs, hl with
  | [c0, c1, c2], _ =>
    obtain rfl := Option.some.inj h0
    obtain rfl := Option.some.inj h1
    obtain rfl := Option.some.inj h2
    exact ⟨rfl, k0, k1, k2, rfl⟩
theorem RArcStep.mk' {w : World} {x : ArcStep}  (h0 : I64 x.var) (h1 : I64 x.value) (h2 : I64 x.con) : Agg 3 RArcStep w (.agg #[.int .i64 x.var, .int .i64 x.value, .int .i64 x.con]) x ([]) :=
  ⟨[.int .i64 x.var, .int .i64 x.value, .int .i64 x.con], rfl, rfl, rfl, h0, rfl, h1, rfl, h2, rfl⟩
def ArcStep.sz (x : ArcStep) : Nat := 0
def ArcStep.cnt (x : ArcStep) : Nat := 0
def ArcStep.ecnt (x : ArcStep) : Nat := 3 + x.cnt
def ArcStep.mkv (x : ArcStep) (_ : Int) : ArcStep := x
def ArcStep.emk (_ : ArcStep) (k : Int) : ArcStep := ⟨k, k + 1, k + 1 + 1⟩

structure PairStep where
  i : Int
  j : Int
  through : Int
instance : Inhabited PairStep := ⟨⟨0, 0, 0⟩⟩
/-- How it reads. -/
def RPairStep : ER PairStep := fun w f x bs => f 0 = some (.int .i64 x.i) ∧ I64 x.i ∧ f 1 = some (.int .i64 x.j) ∧ I64 x.j ∧ f 2 = some (.int .i64 x.through) ∧ I64 x.through ∧ bs = []
theorem RPairStep.fr : Fr 3 RPairStep := by
  intro w w' f g x bs h _ hg
  obtain ⟨h0, k0, h1, k1, h2, k2, rfl⟩ := h
  exact ⟨(hg 0 (by omega)).trans h0, k0, (hg 1 (by omega)).trans h1, k1, (hg 2 (by omega)).trans h2, k2, rfl⟩
theorem RPairStep.open {w : World} {v : Value} {x : PairStep} {bs : List Nat} (h : Agg 3 RPairStep w v x bs) : v = .agg #[.int .i64 x.i, .int .i64 x.j, .int .i64 x.through] ∧ I64 x.i ∧ I64 x.j ∧ I64 x.through ∧ bs = [] := by
  obtain ⟨cs, hl, rfl, h0, k0, h1, k1, h2, k2, rfl⟩ := h
  match cs, hl with
  | [c0, c1, c2], _ =>
    obtain rfl := Option.some.inj h0
    obtain rfl := Option.some.inj h1
    obtain rfl := Option.some.inj h2
    exact ⟨rfl, k0, k1, k2, rfl⟩
theorem RPairStep.mk' {w : World} {x : PairStep}  (h0 : I64 x.i) (h1 : I64 x.j) (h2 : I64 x.through) : Agg 3 RPairStep w (.agg #[.int .i64 x.i, .int .i64 x.j, .int .i64 x.through]) x ([]) :=
  ⟨[.int .i64 x.i, .int .i64 x.j, .int .i64 x.through], rfl, rfl, rfl, h0, rfl, h1, rfl, h2, rfl⟩
def PairStep.sz (x : PairStep) : Nat := 0
def PairStep.cnt (x : PairStep) : Nat := 0
def PairStep.ecnt (x : PairStep) : Nat := 3 + x.cnt
def PairStep.mkv (x : PairStep) (_ : Int) : PairStep := x
def PairStep.emk (_ : PairStep) (k : Int) : PairStep := ⟨k, k + 1, k + 1 + 1⟩

structure Verdict where
  kind : Int
  values : List Int
  arcs : List ArcStep
  pairs : List PairStep
  numbers : List Int
instance : Inhabited Verdict := ⟨⟨0, [], [], [], []⟩⟩
/-- How it reads. -/
def RVerdict : ER Verdict := fun w f x bs => ∃ v1 v2 v3 v4 : Value, ∃ b1 b2 b3 b4 : List Nat, f 0 = some (.int .i64 x.kind) ∧ I64 x.kind ∧ f 1 = some v1 ∧ Sl 1 RInt w v1 x.values b1 ∧ f 2 = some v2 ∧ Sl 3 RArcStep w v2 x.arcs b2 ∧ f 3 = some v3 ∧ Sl 3 RPairStep w v3 x.pairs b3 ∧ f 4 = some v4 ∧ Sl 1 RInt w v4 x.numbers b4 ∧ bs = b1 ++ b2 ++ b3 ++ b4
theorem RVerdict.fr : Fr 5 RVerdict := by
  intro w w' f g x bs h hs hg
  obtain ⟨v1, v2, v3, v4, b1, b2, b3, b4, h0, k0, h1, k1, h2, k2, h3, k3, h4, k4, rfl⟩ := h
  exact ⟨v1, v2, v3, v4, _, _, _, _, (hg 0 (by omega)).trans h0, k0, (hg 1 (by omega)).trans h1, k1.same RInt.fr (fun c hc => hs c (by simp [hc])), (hg 2 (by omega)).trans h2, k2.same RArcStep.fr (fun c hc => hs c (by simp [hc])), (hg 3 (by omega)).trans h3, k3.same RPairStep.fr (fun c hc => hs c (by simp [hc])), (hg 4 (by omega)).trans h4, k4.same RInt.fr (fun c hc => hs c (by simp [hc])), rfl⟩
theorem RVerdict.open {w : World} {v : Value} {x : Verdict} {bs : List Nat} (h : Agg 5 RVerdict w v x bs) : ∃ v1 v2 v3 v4 : Value, ∃ b1 b2 b3 b4 : List Nat, v = .agg #[.int .i64 x.kind, v1, v2, v3, v4] ∧ I64 x.kind ∧ Sl 1 RInt w v1 x.values b1 ∧ Sl 3 RArcStep w v2 x.arcs b2 ∧ Sl 3 RPairStep w v3 x.pairs b3 ∧ Sl 1 RInt w v4 x.numbers b4 ∧ bs = b1 ++ b2 ++ b3 ++ b4 := by
  obtain ⟨cs, hl, rfl, v1, v2, v3, v4, b1, b2, b3, b4, h0, k0, h1, k1, h2, k2, h3, k3, h4, k4, rfl⟩ := h
  match cs, hl with
  | [c0, c1, c2, c3, c4], _ =>
    obtain rfl := Option.some.inj h0
    obtain rfl := Option.some.inj h1
    obtain rfl := Option.some.inj h2
    obtain rfl := Option.some.inj h3
    obtain rfl := Option.some.inj h4
    exact ⟨_, _, _, _, _, _, _, _, rfl, k0, k1, k2, k3, k4, rfl⟩
theorem RVerdict.mk' {w : World} {x : Verdict} {v1 : Value} {b1 : List Nat} {v2 : Value} {b2 : List Nat} {v3 : Value} {b3 : List Nat} {v4 : Value} {b4 : List Nat} (h0 : I64 x.kind) (h1 : Sl 1 RInt w v1 x.values b1) (h2 : Sl 3 RArcStep w v2 x.arcs b2) (h3 : Sl 3 RPairStep w v3 x.pairs b3) (h4 : Sl 1 RInt w v4 x.numbers b4) : Agg 5 RVerdict w (.agg #[.int .i64 x.kind, v1, v2, v3, v4]) x (b1 ++ b2 ++ b3 ++ b4) :=
  ⟨[.int .i64 x.kind, v1, v2, v3, v4], rfl, rfl, _, _, _, _, _, _, _, _, rfl, h0, rfl, h1, rfl, h2, rfl, h3, rfl, h4, rfl⟩
def Verdict.sz (x : Verdict) : Nat := x.values.length + x.arcs.length + x.pairs.length + x.numbers.length
def Verdict.cnt (x : Verdict) : Nat := cntS cI x.values + cntS ArcStep.ecnt x.arcs + cntS PairStep.ecnt x.pairs + cntS cI x.numbers
def Verdict.ecnt (x : Verdict) : Nat := 1 + x.cnt
def Verdict.mkv (x : Verdict) (k : Int) : Verdict := ⟨x.kind, mkS mkI cI x.values (k), mkS ArcStep.emk ArcStep.ecnt x.arcs (k + (cntS cI x.values : Nat)), mkS PairStep.emk PairStep.ecnt x.pairs (k + (cntS cI x.values : Nat) + (cntS ArcStep.ecnt x.arcs : Nat)), mkS mkI cI x.numbers (k + (cntS cI x.values : Nat) + (cntS ArcStep.ecnt x.arcs : Nat) + (cntS PairStep.ecnt x.pairs : Nat))⟩
def Verdict.emk (x : Verdict) (k : Int) : Verdict := ⟨k, mkS mkI cI x.values (k + 1), mkS ArcStep.emk ArcStep.ecnt x.arcs (k + 1 + (cntS cI x.values : Nat)), mkS PairStep.emk PairStep.ecnt x.pairs (k + 1 + (cntS cI x.values : Nat) + (cntS ArcStep.ecnt x.arcs : Nat)), mkS mkI cI x.numbers (k + 1 + (cntS cI x.values : Nat) + (cntS ArcStep.ecnt x.arcs : Nat) + (cntS PairStep.ecnt x.pairs : Nat))⟩

structure Equation where
  left : List Int
  right : Int
instance : Inhabited Equation := ⟨⟨[], 0⟩⟩
/-- How it reads. -/
def REquation : ER Equation := fun w f x bs => ∃ v0 : Value, ∃ b0 : List Nat, f 0 = some v0 ∧ Sl 1 RInt w v0 x.left b0 ∧ f 1 = some (.int .i64 x.right) ∧ I64 x.right ∧ bs = b0
theorem REquation.fr : Fr 2 REquation := by
  intro w w' f g x bs h hs hg
  obtain ⟨v0, b0, h0, k0, h1, k1, rfl⟩ := h
  exact ⟨v0, _, (hg 0 (by omega)).trans h0, k0.same RInt.fr (fun c hc => hs c (by simp [hc])), (hg 1 (by omega)).trans h1, k1, rfl⟩
theorem REquation.open {w : World} {v : Value} {x : Equation} {bs : List Nat} (h : Agg 2 REquation w v x bs) : ∃ v0 : Value, ∃ b0 : List Nat, v = .agg #[v0, .int .i64 x.right] ∧ Sl 1 RInt w v0 x.left b0 ∧ I64 x.right ∧ bs = b0 := by
  obtain ⟨cs, hl, rfl, v0, b0, h0, k0, h1, k1, rfl⟩ := h
  match cs, hl with
  | [c0, c1], _ =>
    obtain rfl := Option.some.inj h0
    obtain rfl := Option.some.inj h1
    exact ⟨_, _, rfl, k0, k1, rfl⟩
theorem REquation.mk' {w : World} {x : Equation} {v0 : Value} {b0 : List Nat} (h0 : Sl 1 RInt w v0 x.left b0) (h1 : I64 x.right) : Agg 2 REquation w (.agg #[v0, .int .i64 x.right]) x (b0) :=
  ⟨[v0, .int .i64 x.right], rfl, rfl, _, _, rfl, h0, rfl, h1, rfl⟩
def Equation.sz (x : Equation) : Nat := x.left.length
def Equation.cnt (x : Equation) : Nat := cntS cI x.left
def Equation.ecnt (x : Equation) : Nat := 1 + x.cnt
def Equation.mkv (x : Equation) (k : Int) : Equation := ⟨mkS mkI cI x.left (k), x.right⟩
def Equation.emk (x : Equation) (k : Int) : Equation := ⟨mkS mkI cI x.left (k), k + (cntS cI x.left : Nat)⟩

structure Line where
  kind : Int
  var : Int
  value : Int
  con : Int
instance : Inhabited Line := ⟨⟨0, 0, 0, 0⟩⟩
/-- How it reads. -/
def RLine : ER Line := fun w f x bs => f 0 = some (.int .i64 x.kind) ∧ I64 x.kind ∧ f 1 = some (.int .i64 x.var) ∧ I64 x.var ∧ f 2 = some (.int .i64 x.value) ∧ I64 x.value ∧ f 3 = some (.int .i64 x.con) ∧ I64 x.con ∧ bs = []
theorem RLine.fr : Fr 4 RLine := by
  intro w w' f g x bs h _ hg
  obtain ⟨h0, k0, h1, k1, h2, k2, h3, k3, rfl⟩ := h
  exact ⟨(hg 0 (by omega)).trans h0, k0, (hg 1 (by omega)).trans h1, k1, (hg 2 (by omega)).trans h2, k2, (hg 3 (by omega)).trans h3, k3, rfl⟩
theorem RLine.open {w : World} {v : Value} {x : Line} {bs : List Nat} (h : Agg 4 RLine w v x bs) : v = .agg #[.int .i64 x.kind, .int .i64 x.var, .int .i64 x.value, .int .i64 x.con] ∧ I64 x.kind ∧ I64 x.var ∧ I64 x.value ∧ I64 x.con ∧ bs = [] := by
  obtain ⟨cs, hl, rfl, h0, k0, h1, k1, h2, k2, h3, k3, rfl⟩ := h
  match cs, hl with
  | [c0, c1, c2, c3], _ =>
    obtain rfl := Option.some.inj h0
    obtain rfl := Option.some.inj h1
    obtain rfl := Option.some.inj h2
    obtain rfl := Option.some.inj h3
    exact ⟨rfl, k0, k1, k2, k3, rfl⟩
theorem RLine.mk' {w : World} {x : Line}  (h0 : I64 x.kind) (h1 : I64 x.var) (h2 : I64 x.value) (h3 : I64 x.con) : Agg 4 RLine w (.agg #[.int .i64 x.kind, .int .i64 x.var, .int .i64 x.value, .int .i64 x.con]) x ([]) :=
  ⟨[.int .i64 x.kind, .int .i64 x.var, .int .i64 x.value, .int .i64 x.con], rfl, rfl, rfl, h0, rfl, h1, rfl, h2, rfl, h3, rfl⟩
def Line.sz (x : Line) : Nat := 0
def Line.cnt (x : Line) : Nat := 0
def Line.ecnt (x : Line) : Nat := 4 + x.cnt
def Line.mkv (x : Line) (_ : Int) : Line := x
def Line.emk (_ : Line) (k : Int) : Line := ⟨k, k + 1, k + 1 + 1, k + 1 + 1 + 1⟩

structure Literal where
  var : Int
  value : Int
instance : Inhabited Literal := ⟨⟨0, 0⟩⟩
/-- How it reads. -/
def RLiteral : ER Literal := fun w f x bs => f 0 = some (.int .i64 x.var) ∧ I64 x.var ∧ f 1 = some (.int .i64 x.value) ∧ I64 x.value ∧ bs = []
theorem RLiteral.fr : Fr 2 RLiteral := by
  intro w w' f g x bs h _ hg
  obtain ⟨h0, k0, h1, k1, rfl⟩ := h
  exact ⟨(hg 0 (by omega)).trans h0, k0, (hg 1 (by omega)).trans h1, k1, rfl⟩
theorem RLiteral.open {w : World} {v : Value} {x : Literal} {bs : List Nat} (h : Agg 2 RLiteral w v x bs) : v = .agg #[.int .i64 x.var, .int .i64 x.value] ∧ I64 x.var ∧ I64 x.value ∧ bs = [] := by
  obtain ⟨cs, hl, rfl, h0, k0, h1, k1, rfl⟩ := h
  match cs, hl with
  | [c0, c1], _ =>
    obtain rfl := Option.some.inj h0
    obtain rfl := Option.some.inj h1
    exact ⟨rfl, k0, k1, rfl⟩
theorem RLiteral.mk' {w : World} {x : Literal}  (h0 : I64 x.var) (h1 : I64 x.value) : Agg 2 RLiteral w (.agg #[.int .i64 x.var, .int .i64 x.value]) x ([]) :=
  ⟨[.int .i64 x.var, .int .i64 x.value], rfl, rfl, rfl, h0, rfl, h1, rfl⟩
def Literal.sz (x : Literal) : Nat := 0
def Literal.cnt (x : Literal) : Nat := 0
def Literal.ecnt (x : Literal) : Nat := 2 + x.cnt
def Literal.mkv (x : Literal) (_ : Int) : Literal := x
def Literal.emk (_ : Literal) (k : Int) : Literal := ⟨k, k + 1⟩

structure Gadgets where
  formulas : List Formula
instance : Inhabited Gadgets := ⟨⟨[]⟩⟩
/-- How it reads. -/
def RGadgets : ER Gadgets := fun w f x bs => ∃ v0 : Value, ∃ b0 : List Nat, f 0 = some v0 ∧ Sl 3 RFormula w v0 x.formulas b0 ∧ bs = b0
theorem RGadgets.fr : Fr 1 RGadgets := by
  intro w w' f g x bs h hs hg
  obtain ⟨v0, b0, h0, k0, rfl⟩ := h
  exact ⟨v0, _, (hg 0 (by omega)).trans h0, k0.same RFormula.fr (fun c hc => hs c (by simp [hc])), rfl⟩
theorem RGadgets.open {w : World} {v : Value} {x : Gadgets} {bs : List Nat} (h : Agg 1 RGadgets w v x bs) : ∃ v0 : Value, ∃ b0 : List Nat, v = .agg #[v0] ∧ Sl 3 RFormula w v0 x.formulas b0 ∧ bs = b0 := by
  obtain ⟨cs, hl, rfl, v0, b0, h0, k0, rfl⟩ := h
  match cs, hl with
  | [c0], _ =>
    obtain rfl := Option.some.inj h0
    exact ⟨_, _, rfl, k0, rfl⟩
theorem RGadgets.mk' {w : World} {x : Gadgets} {v0 : Value} {b0 : List Nat} (h0 : Sl 3 RFormula w v0 x.formulas b0) : Agg 1 RGadgets w (.agg #[v0]) x (b0) :=
  ⟨[v0], rfl, rfl, _, _, rfl, h0, rfl⟩
def Gadgets.sz (x : Gadgets) : Nat := szS Formula.sz x.formulas
def Gadgets.cnt (x : Gadgets) : Nat := cntS Formula.ecnt x.formulas
def Gadgets.ecnt (x : Gadgets) : Nat := 0 + x.cnt
def Gadgets.mkv (x : Gadgets) (k : Int) : Gadgets := ⟨mkS Formula.emk Formula.ecnt x.formulas (k)⟩
def Gadgets.emk (x : Gadgets) (k : Int) : Gadgets := ⟨mkS Formula.emk Formula.ecnt x.formulas (k)⟩

structure Deed where
  kind : Int
  a : Int
  b : Int
instance : Inhabited Deed := ⟨⟨0, 0, 0⟩⟩
/-- How it reads. -/
def RDeed : ER Deed := fun w f x bs => f 0 = some (.int .i64 x.kind) ∧ I64 x.kind ∧ f 1 = some (.int .i64 x.a) ∧ I64 x.a ∧ f 2 = some (.int .i64 x.b) ∧ I64 x.b ∧ bs = []
theorem RDeed.fr : Fr 3 RDeed := by
  intro w w' f g x bs h _ hg
  obtain ⟨h0, k0, h1, k1, h2, k2, rfl⟩ := h
  exact ⟨(hg 0 (by omega)).trans h0, k0, (hg 1 (by omega)).trans h1, k1, (hg 2 (by omega)).trans h2, k2, rfl⟩
theorem RDeed.open {w : World} {v : Value} {x : Deed} {bs : List Nat} (h : Agg 3 RDeed w v x bs) : v = .agg #[.int .i64 x.kind, .int .i64 x.a, .int .i64 x.b] ∧ I64 x.kind ∧ I64 x.a ∧ I64 x.b ∧ bs = [] := by
  obtain ⟨cs, hl, rfl, h0, k0, h1, k1, h2, k2, rfl⟩ := h
  match cs, hl with
  | [c0, c1, c2], _ =>
    obtain rfl := Option.some.inj h0
    obtain rfl := Option.some.inj h1
    obtain rfl := Option.some.inj h2
    exact ⟨rfl, k0, k1, k2, rfl⟩
theorem RDeed.mk' {w : World} {x : Deed}  (h0 : I64 x.kind) (h1 : I64 x.a) (h2 : I64 x.b) : Agg 3 RDeed w (.agg #[.int .i64 x.kind, .int .i64 x.a, .int .i64 x.b]) x ([]) :=
  ⟨[.int .i64 x.kind, .int .i64 x.a, .int .i64 x.b], rfl, rfl, rfl, h0, rfl, h1, rfl, h2, rfl⟩
def Deed.sz (x : Deed) : Nat := 0
def Deed.cnt (x : Deed) : Nat := 0
def Deed.ecnt (x : Deed) : Nat := 3 + x.cnt
def Deed.mkv (x : Deed) (_ : Int) : Deed := x
def Deed.emk (_ : Deed) (k : Int) : Deed := ⟨k, k + 1, k + 1 + 1⟩

end Go.Proofs.YtmgdjaiaekhkgaaGreat
