/-
  The data of the laws: how each struct reads in memory, and how its value opens. Printed by gen_types.py. No program.
-/
import Derived.Test.YtmgdjaiaekhkgaaGreatB
namespace Go.Proofs.YtmgdjaiaekhkgaaGreat
set_option linter.unusedVariables false
set_option linter.unusedSimpArgs false
open Go.RowKit

structure Rel where
  arity : Int
  tuples : List (List Int)
instance : Inhabited Rel := ⟨⟨0, []⟩⟩
/-- How it reads. -/
def qE : ER Rel := fun w f x bs => ∃ v1 : Value, ∃ b1 : List Nat, f 0 = some (.int .i64 x.arity) ∧ xY x.arity ∧ f 1 = some v1 ∧ Sl 1 zA w v1 x.tuples b1 ∧ bs = b1
theorem qE.fr : Fr 2 qE := by
  intro w w' f g x bs h hs hg
  obtain ⟨v1, b1, h0, k0, h1, k1, rfl⟩ := h
  exact ⟨v1, _, (hg 0 (by omega)).trans h0, k0, (hg 1 (by omega)).trans h1, k1.same zA.fr (fun c hc => hs c (by simp [hc])), rfl⟩
theorem qE.open {w : World} {v : Value} {x : Rel} {bs : List Nat} (h : qH 2 qE w v x bs) : ∃ v1 : Value, ∃ b1 : List Nat, v = .agg #[.int .i64 x.arity, v1] ∧ xY x.arity ∧ Sl 1 zA w v1 x.tuples b1 ∧ bs = b1 := by
  obtain ⟨cs, hl, rfl, v1, b1, h0, k0, h1, k1, rfl⟩ := h
  match cs, hl with
  | [c0, c1], _ =>
    obtain rfl := Option.some.inj h0
    obtain rfl := Option.some.inj h1
    exact ⟨_, _, rfl, k0, k1, rfl⟩
theorem qE.mk' {w : World} {x : Rel} {v1 : Value} {b1 : List Nat} (h0 : xY x.arity) (h1 : Sl 1 zA w v1 x.tuples b1) : qH 2 qE w (.agg #[.int .i64 x.arity, v1]) x (b1) :=
  ⟨[.int .i64 x.arity, v1], rfl, rfl, _, _, rfl, h0, rfl, h1, rfl⟩
def Rel.sz (x : Rel) : Nat := szS List.length x.tuples
def Rel.cnt (x : Rel) : Nat := qM List.length x.tuples
def Rel.ecnt (x : Rel) : Nat := 1 + x.cnt
def Rel.mkv (x : Rel) (k : Int) : Rel := ⟨x.arity, mkS mkInts List.length x.tuples (k)⟩
def Rel.emk (x : Rel) (k : Int) : Rel := ⟨k, mkS mkInts List.length x.tuples (k + 1)⟩

structure Template where
  size : Int
  rels : List Rel
instance : Inhabited Template := ⟨⟨0, []⟩⟩
/-- How it reads. -/
def xJ : ER Template := fun w f x bs => ∃ v1 : Value, ∃ b1 : List Nat, f 0 = some (.int .i64 x.size) ∧ xY x.size ∧ f 1 = some v1 ∧ Sl 2 qE w v1 x.rels b1 ∧ bs = b1
theorem xJ.fr : Fr 2 xJ := by
  intro w w' f g x bs h hs hg
  obtain ⟨v1, b1, h0, k0, h1, k1, rfl⟩ := h
  exact ⟨v1, _, (hg 0 (by omega)).trans h0, k0, (hg 1 (by omega)).trans h1, k1.same qE.fr (fun c hc => hs c (by simp [hc])), rfl⟩
theorem xJ.open {w : World} {v : Value} {x : Template} {bs : List Nat} (h : qH 2 xJ w v x bs) : ∃ v1 : Value, ∃ b1 : List Nat, v = .agg #[.int .i64 x.size, v1] ∧ xY x.size ∧ Sl 2 qE w v1 x.rels b1 ∧ bs = b1 := by
  obtain ⟨cs, hl, rfl, v1, b1, h0, k0, h1, k1, rfl⟩ := h
  match cs, hl with
  | [c0, c1], _ =>
    obtain rfl := Option.some.inj h0
    obtain rfl := Option.some.inj h1
    exact ⟨_, _, rfl, k0, k1, rfl⟩
theorem xJ.mk' {w : World} {x : Template} {v1 : Value} {b1 : List Nat} (h0 : xY x.size) (h1 : Sl 2 qE w v1 x.rels b1) : qH 2 xJ w (.agg #[.int .i64 x.size, v1]) x (b1) :=
  ⟨[.int .i64 x.size, v1], rfl, rfl, _, _, rfl, h0, rfl, h1, rfl⟩
def Template.sz (x : Template) : Nat := szS Rel.sz x.rels
def Template.cnt (x : Template) : Nat := qM Rel.ecnt x.rels
def Template.ecnt (x : Template) : Nat := 1 + x.cnt
def Template.mkv (x : Template) (k : Int) : Template := ⟨x.size, mkS Rel.emk Rel.ecnt x.rels (k)⟩
def Template.emk (x : Template) (k : Int) : Template := ⟨k, mkS Rel.emk Rel.ecnt x.rels (k + 1)⟩

structure Op where
  arity : Int
  table : List Int
instance : Inhabited Op := ⟨⟨0, []⟩⟩
/-- How it reads. -/
def ROp : ER Op := fun w f x bs => ∃ v1 : Value, ∃ b1 : List Nat, f 0 = some (.int .i64 x.arity) ∧ xY x.arity ∧ f 1 = some v1 ∧ Sl 1 xK w v1 x.table b1 ∧ bs = b1
theorem ROp.fr : Fr 2 ROp := by
  intro w w' f g x bs h hs hg
  obtain ⟨v1, b1, h0, k0, h1, k1, rfl⟩ := h
  exact ⟨v1, _, (hg 0 (by omega)).trans h0, k0, (hg 1 (by omega)).trans h1, k1.same xK.fr (fun c hc => hs c (by simp [hc])), rfl⟩
theorem ROp.open {w : World} {v : Value} {x : Op} {bs : List Nat} (h : qH 2 ROp w v x bs) : ∃ v1 : Value, ∃ b1 : List Nat, v = .agg #[.int .i64 x.arity, v1] ∧ xY x.arity ∧ Sl 1 xK w v1 x.table b1 ∧ bs = b1 := by
  obtain ⟨cs, hl, rfl, v1, b1, h0, k0, h1, k1, rfl⟩ := h
  match cs, hl with
  | [c0, c1], _ =>
    obtain rfl := Option.some.inj h0
    obtain rfl := Option.some.inj h1
    exact ⟨_, _, rfl, k0, k1, rfl⟩
theorem ROp.mk' {w : World} {x : Op} {v1 : Value} {b1 : List Nat} (h0 : xY x.arity) (h1 : Sl 1 xK w v1 x.table b1) : qH 2 ROp w (.agg #[.int .i64 x.arity, v1]) x (b1) :=
  ⟨[.int .i64 x.arity, v1], rfl, rfl, _, _, rfl, h0, rfl, h1, rfl⟩
def Op.sz (x : Op) : Nat := x.table.length
def Op.cnt (x : Op) : Nat := qM cI x.table
def Op.ecnt (x : Op) : Nat := 1 + x.cnt
def Op.mkv (x : Op) (k : Int) : Op := ⟨x.arity, mkS mkI cI x.table (k)⟩
def Op.emk (x : Op) (k : Int) : Op := ⟨k, mkS mkI cI x.table (k + 1)⟩

structure Atom where
  rel : Int
  args : List Int
instance : Inhabited Atom := ⟨⟨0, []⟩⟩
/-- How it reads. -/
def xU : ER Atom := fun w f x bs => ∃ v1 : Value, ∃ b1 : List Nat, f 0 = some (.int .i64 x.rel) ∧ xY x.rel ∧ f 1 = some v1 ∧ Sl 1 xK w v1 x.args b1 ∧ bs = b1
theorem xU.fr : Fr 2 xU := by
  intro w w' f g x bs h hs hg
  obtain ⟨v1, b1, h0, k0, h1, k1, rfl⟩ := h
  exact ⟨v1, _, (hg 0 (by omega)).trans h0, k0, (hg 1 (by omega)).trans h1, k1.same xK.fr (fun c hc => hs c (by simp [hc])), rfl⟩
theorem xU.open {w : World} {v : Value} {x : Atom} {bs : List Nat} (h : qH 2 xU w v x bs) : ∃ v1 : Value, ∃ b1 : List Nat, v = .agg #[.int .i64 x.rel, v1] ∧ xY x.rel ∧ Sl 1 xK w v1 x.args b1 ∧ bs = b1 := by
  obtain ⟨cs, hl, rfl, v1, b1, h0, k0, h1, k1, rfl⟩ := h
  match cs, hl with
  | [c0, c1], _ =>
    obtain rfl := Option.some.inj h0
    obtain rfl := Option.some.inj h1
    exact ⟨_, _, rfl, k0, k1, rfl⟩
theorem xU.mk' {w : World} {x : Atom} {v1 : Value} {b1 : List Nat} (h0 : xY x.rel) (h1 : Sl 1 xK w v1 x.args b1) : qH 2 xU w (.agg #[.int .i64 x.rel, v1]) x (b1) :=
  ⟨[.int .i64 x.rel, v1], rfl, rfl, _, _, rfl, h0, rfl, h1, rfl⟩
abbrev Atoms := Sl 2 xU
def Atom.sz (x : Atom) : Nat := x.args.length
def Atom.cnt (x : Atom) : Nat := qM cI x.args
def Atom.ecnt (x : Atom) : Nat := 1 + x.cnt
def Atom.mkv (x : Atom) (k : Int) : Atom := ⟨x.rel, mkS mkI cI x.args (k)⟩
def Atom.emk (x : Atom) (k : Int) : Atom := ⟨k, mkS mkI cI x.args (k + 1)⟩

structure Formula where
  free : Int
  vars : Int
  atoms : List Atom
instance : Inhabited Formula := ⟨⟨0, 0, []⟩⟩
/-- How it reads. -/
def xL : ER Formula := fun w f x bs => ∃ v2 : Value, ∃ b2 : List Nat, f 0 = some (.int .i64 x.free) ∧ xY x.free ∧ f 1 = some (.int .i64 x.vars) ∧ xY x.vars ∧ f 2 = some v2 ∧ Sl 2 xU w v2 x.atoms b2 ∧ bs = b2
theorem xL.fr : Fr 3 xL := by
  intro w w' f g x bs h hs hg
  obtain ⟨v2, b2, h0, k0, h1, k1, h2, k2, rfl⟩ := h
  exact ⟨v2, _, (hg 0 (by omega)).trans h0, k0, (hg 1 (by omega)).trans h1, k1, (hg 2 (by omega)).trans h2, k2.same xU.fr (fun c hc => hs c (by simp [hc])), rfl⟩
theorem xL.open {w : World} {v : Value} {x : Formula} {bs : List Nat} (h : qH 3 xL w v x bs) : ∃ v2 : Value, ∃ b2 : List Nat, v = .agg #[.int .i64 x.free, .int .i64 x.vars, v2] ∧ xY x.free ∧ xY x.vars ∧ Sl 2 xU w v2 x.atoms b2 ∧ bs = b2 := by
  obtain ⟨cs, hl, rfl, v2, b2, h0, k0, h1, k1, h2, k2, rfl⟩ := h
  match cs, hl with
  | [c0, c1, c2], _ =>
    obtain rfl := Option.some.inj h0
    obtain rfl := Option.some.inj h1
    obtain rfl := Option.some.inj h2
    exact ⟨_, _, rfl, k0, k1, k2, rfl⟩
theorem xL.mk' {w : World} {x : Formula} {v2 : Value} {b2 : List Nat} (h0 : xY x.free) (h1 : xY x.vars) (h2 : Sl 2 xU w v2 x.atoms b2) : qH 3 xL w (.agg #[.int .i64 x.free, .int .i64 x.vars, v2]) x (b2) :=
  ⟨[.int .i64 x.free, .int .i64 x.vars, v2], rfl, rfl, _, _, rfl, h0, rfl, h1, rfl, h2, rfl⟩
abbrev Formulas := Sl 3 xL
def Formula.sz (x : Formula) : Nat := szS Atom.sz x.atoms
def Formula.cnt (x : Formula) : Nat := qM Atom.ecnt x.atoms
def Formula.ecnt (x : Formula) : Nat := 2 + x.cnt
def Formula.mkv (x : Formula) (k : Int) : Formula := ⟨x.free, x.vars, mkS Atom.emk Atom.ecnt x.atoms (k)⟩
def Formula.emk (x : Formula) (k : Int) : Formula := ⟨k, k + 1, mkS Atom.emk Atom.ecnt x.atoms (k + 1 + 1)⟩

structure Con where
  rel : Int
  scope : List Int
instance : Inhabited Con := ⟨⟨0, []⟩⟩
/-- How it reads. -/
def oZ : ER Con := fun w f x bs => ∃ v1 : Value, ∃ b1 : List Nat, f 0 = some (.int .i64 x.rel) ∧ xY x.rel ∧ f 1 = some v1 ∧ Sl 1 xK w v1 x.scope b1 ∧ bs = b1
theorem oZ.fr : Fr 2 oZ := by
  intro w w' f g x bs h hs hg
  obtain ⟨v1, b1, h0, k0, h1, k1, rfl⟩ := h
  exact ⟨v1, _, (hg 0 (by omega)).trans h0, k0, (hg 1 (by omega)).trans h1, k1.same xK.fr (fun c hc => hs c (by simp [hc])), rfl⟩
theorem oZ.open {w : World} {v : Value} {x : Con} {bs : List Nat} (h : qH 2 oZ w v x bs) : ∃ v1 : Value, ∃ b1 : List Nat, v = .agg #[.int .i64 x.rel, v1] ∧ xY x.rel ∧ Sl 1 xK w v1 x.scope b1 ∧ bs = b1 := by
  obtain ⟨cs, hl, rfl, v1, b1, h0, k0, h1, k1, rfl⟩ := h
  match cs, hl with
  | [c0, c1], _ =>
    obtain rfl := Option.some.inj h0
    obtain rfl := Option.some.inj h1
    exact ⟨_, _, rfl, k0, k1, rfl⟩
theorem oZ.mk' {w : World} {x : Con} {v1 : Value} {b1 : List Nat} (h0 : xY x.rel) (h1 : Sl 1 xK w v1 x.scope b1) : qH 2 oZ w (.agg #[.int .i64 x.rel, v1]) x (b1) :=
  ⟨[.int .i64 x.rel, v1], rfl, rfl, _, _, rfl, h0, rfl, h1, rfl⟩
def Con.sz (x : Con) : Nat := x.scope.length
def Con.cnt (x : Con) : Nat := qM cI x.scope
def Con.ecnt (x : Con) : Nat := 1 + x.cnt
def Con.mkv (x : Con) (k : Int) : Con := ⟨x.rel, mkS mkI cI x.scope (k)⟩
def Con.emk (x : Con) (k : Int) : Con := ⟨k, mkS mkI cI x.scope (k + 1)⟩

structure Instance where
  vars : Int
  cons : List Con
instance : Inhabited Instance := ⟨⟨0, []⟩⟩
/-- How it reads. -/
def xM : ER Instance := fun w f x bs => ∃ v1 : Value, ∃ b1 : List Nat, f 0 = some (.int .i64 x.vars) ∧ xY x.vars ∧ f 1 = some v1 ∧ Sl 2 oZ w v1 x.cons b1 ∧ bs = b1
theorem xM.fr : Fr 2 xM := by
  intro w w' f g x bs h hs hg
  obtain ⟨v1, b1, h0, k0, h1, k1, rfl⟩ := h
  exact ⟨v1, _, (hg 0 (by omega)).trans h0, k0, (hg 1 (by omega)).trans h1, k1.same oZ.fr (fun c hc => hs c (by simp [hc])), rfl⟩
theorem xM.open {w : World} {v : Value} {x : Instance} {bs : List Nat} (h : qH 2 xM w v x bs) : ∃ v1 : Value, ∃ b1 : List Nat, v = .agg #[.int .i64 x.vars, v1] ∧ xY x.vars ∧ Sl 2 oZ w v1 x.cons b1 ∧ bs = b1 := by
  obtain ⟨cs, hl, rfl, v1, b1, h0, k0, h1, k1, rfl⟩ := h
  match cs, hl with
  | [c0, c1], _ =>
    obtain rfl := Option.some.inj h0
    obtain rfl := Option.some.inj h1
    exact ⟨_, _, rfl, k0, k1, rfl⟩
theorem xM.mk' {w : World} {x : Instance} {v1 : Value} {b1 : List Nat} (h0 : xY x.vars) (h1 : Sl 2 oZ w v1 x.cons b1) : qH 2 xM w (.agg #[.int .i64 x.vars, v1]) x (b1) :=
  ⟨[.int .i64 x.vars, v1], rfl, rfl, _, _, rfl, h0, rfl, h1, rfl⟩
def Instance.sz (x : Instance) : Nat := szS Con.sz x.cons
def Instance.cnt (x : Instance) : Nat := qM Con.ecnt x.cons
def Instance.ecnt (x : Instance) : Nat := 1 + x.cnt
def Instance.mkv (x : Instance) (k : Int) : Instance := ⟨x.vars, mkS Con.emk Con.ecnt x.cons (k)⟩
def Instance.emk (x : Instance) (k : Int) : Instance := ⟨k, mkS Con.emk Con.ecnt x.cons (k + 1)⟩

structure ArcStep where
  var : Int
  value : Int
  con : Int
instance : Inhabited ArcStep := ⟨⟨0, 0, 0⟩⟩
/-- How it reads. -/
def qJ : ER ArcStep := fun w f x bs => f 0 = some (.int .i64 x.var) ∧ xY x.var ∧ f 1 = some (.int .i64 x.value) ∧ xY x.value ∧ f 2 = some (.int .i64 x.con) ∧ xY x.con ∧ bs = []
theorem qJ.fr : Fr 3 qJ := by
  intro w w' f g x bs h _ hg
  obtain ⟨h0, k0, h1, k1, h2, k2, rfl⟩ := h
  exact ⟨(hg 0 (by omega)).trans h0, k0, (hg 1 (by omega)).trans h1, k1, (hg 2 (by omega)).trans h2, k2, rfl⟩
theorem qJ.open {w : World} {v : Value} {x : ArcStep} {bs : List Nat} (h : qH 3 qJ w v x bs) : v = .agg #[.int .i64 x.var, .int .i64 x.value, .int .i64 x.con] ∧ xY x.var ∧ xY x.value ∧ xY x.con ∧ bs = [] := by
  obtain ⟨cs, hl, rfl, h0, k0, h1, k1, h2, k2, rfl⟩ := h
  match cs, hl with
  | [c0, c1, c2], _ =>
    obtain rfl := Option.some.inj h0
    obtain rfl := Option.some.inj h1
    obtain rfl := Option.some.inj h2
    exact ⟨rfl, k0, k1, k2, rfl⟩
theorem qJ.mk' {w : World} {x : ArcStep}  (h0 : xY x.var) (h1 : xY x.value) (h2 : xY x.con) : qH 3 qJ w (.agg #[.int .i64 x.var, .int .i64 x.value, .int .i64 x.con]) x ([]) :=
  ⟨[.int .i64 x.var, .int .i64 x.value, .int .i64 x.con], rfl, rfl, rfl, h0, rfl, h1, rfl, h2, rfl⟩
def ArcStep.sz (x : ArcStep) : Nat := 0
def ArcStep.cnt (x : ArcStep) : Nat := 0
def ArcStep.ecnt (x : ArcStep) : Nat := 3 + x.cnt
def ArcStep.mkv (x : ArcStep) (_ : Int) : ArcStep := x
def ArcStep.emk (_ : ArcStep) (k : Int) : ArcStep := ⟨k, k + 1, k + 1 + 1⟩

structure PairStep where
  i : Int
  j : Int
  through : Int
instance : Inhabited PairStep := ⟨⟨0, 0, 0⟩⟩
/-- How it reads. -/
def oY : ER PairStep := fun w f x bs => f 0 = some (.int .i64 x.i) ∧ xY x.i ∧ f 1 = some (.int .i64 x.j) ∧ xY x.j ∧ f 2 = some (.int .i64 x.through) ∧ xY x.through ∧ bs = []
theorem oY.fr : Fr 3 oY := by
  intro w w' f g x bs h _ hg
  obtain ⟨h0, k0, h1, k1, h2, k2, rfl⟩ := h
  exact ⟨(hg 0 (by omega)).trans h0, k0, (hg 1 (by omega)).trans h1, k1, (hg 2 (by omega)).trans h2, k2, rfl⟩
theorem oY.open {w : World} {v : Value} {x : PairStep} {bs : List Nat} (h : qH 3 oY w v x bs) : v = .agg #[.int .i64 x.i, .int .i64 x.j, .int .i64 x.through] ∧ xY x.i ∧ xY x.j ∧ xY x.through ∧ bs = [] := by
  obtain ⟨cs, hl, rfl, h0, k0, h1, k1, h2, k2, rfl⟩ := h
  match cs, hl with
  | [c0, c1, c2], _ =>
    obtain rfl := Option.some.inj h0
    obtain rfl := Option.some.inj h1
    obtain rfl := Option.some.inj h2
    exact ⟨rfl, k0, k1, k2, rfl⟩
theorem oY.mk' {w : World} {x : PairStep}  (h0 : xY x.i) (h1 : xY x.j) (h2 : xY x.through) : qH 3 oY w (.agg #[.int .i64 x.i, .int .i64 x.j, .int .i64 x.through]) x ([]) :=
  ⟨[.int .i64 x.i, .int .i64 x.j, .int .i64 x.through], rfl, rfl, rfl, h0, rfl, h1, rfl, h2, rfl⟩
def PairStep.sz (x : PairStep) : Nat := 0
def PairStep.cnt (x : PairStep) : Nat := 0
def PairStep.ecnt (x : PairStep) : Nat := 3 + x.cnt
def PairStep.mkv (x : PairStep) (_ : Int) : PairStep := x
def PairStep.emk (_ : PairStep) (k : Int) : PairStep := ⟨k, k + 1, k + 1 + 1⟩

structure Verdict where
  kind : Int
  values : List Int
  arcs : List ArcStep
  pairs : List PairStep
  numbers : List Int
instance : Inhabited Verdict := ⟨⟨0, [], [], [], []⟩⟩
/-- How it reads. -/
def qX : ER Verdict := fun w f x bs => ∃ v1 v2 v3 v4 : Value, ∃ b1 b2 b3 b4 : List Nat, f 0 = some (.int .i64 x.kind) ∧ xY x.kind ∧ f 1 = some v1 ∧ Sl 1 xK w v1 x.values b1 ∧ f 2 = some v2 ∧ Sl 3 qJ w v2 x.arcs b2 ∧ f 3 = some v3 ∧ Sl 3 oY w v3 x.pairs b3 ∧ f 4 = some v4 ∧ Sl 1 xK w v4 x.numbers b4 ∧ bs = b1 ++ b2 ++ b3 ++ b4
theorem qX.fr : Fr 5 qX := by
  intro w w' f g x bs h hs hg
  obtain ⟨v1, v2, v3, v4, b1, b2, b3, b4, h0, k0, h1, k1, h2, k2, h3, k3, h4, k4, rfl⟩ := h
  exact ⟨v1, v2, v3, v4, _, _, _, _, (hg 0 (by omega)).trans h0, k0, (hg 1 (by omega)).trans h1, k1.same xK.fr (fun c hc => hs c (by simp [hc])), (hg 2 (by omega)).trans h2, k2.same qJ.fr (fun c hc => hs c (by simp [hc])), (hg 3 (by omega)).trans h3, k3.same oY.fr (fun c hc => hs c (by simp [hc])), (hg 4 (by omega)).trans h4, k4.same xK.fr (fun c hc => hs c (by simp [hc])), rfl⟩
theorem qX.open {w : World} {v : Value} {x : Verdict} {bs : List Nat} (h : qH 5 qX w v x bs) : ∃ v1 v2 v3 v4 : Value, ∃ b1 b2 b3 b4 : List Nat, v = .agg #[.int .i64 x.kind, v1, v2, v3, v4] ∧ xY x.kind ∧ Sl 1 xK w v1 x.values b1 ∧ Sl 3 qJ w v2 x.arcs b2 ∧ Sl 3 oY w v3 x.pairs b3 ∧ Sl 1 xK w v4 x.numbers b4 ∧ bs = b1 ++ b2 ++ b3 ++ b4 := by
  obtain ⟨cs, hl, rfl, v1, v2, v3, v4, b1, b2, b3, b4, h0, k0, h1, k1, h2, k2, h3, k3, h4, k4, rfl⟩ := h
  match cs, hl with
  | [c0, c1, c2, c3, c4], _ =>
    obtain rfl := Option.some.inj h0
    obtain rfl := Option.some.inj h1
    obtain rfl := Option.some.inj h2
    obtain rfl := Option.some.inj h3
    obtain rfl := Option.some.inj h4
    exact ⟨_, _, _, _, _, _, _, _, rfl, k0, k1, k2, k3, k4, rfl⟩
theorem qX.mk' {w : World} {x : Verdict} {v1 : Value} {b1 : List Nat} {v2 : Value} {b2 : List Nat} {v3 : Value} {b3 : List Nat} {v4 : Value} {b4 : List Nat} (h0 : xY x.kind) (h1 : Sl 1 xK w v1 x.values b1) (h2 : Sl 3 qJ w v2 x.arcs b2) (h3 : Sl 3 oY w v3 x.pairs b3) (h4 : Sl 1 xK w v4 x.numbers b4) : qH 5 qX w (.agg #[.int .i64 x.kind, v1, v2, v3, v4]) x (b1 ++ b2 ++ b3 ++ b4) :=
  ⟨[.int .i64 x.kind, v1, v2, v3, v4], rfl, rfl, _, _, _, _, _, _, _, _, rfl, h0, rfl, h1, rfl, h2, rfl, h3, rfl, h4, rfl⟩
def Verdict.sz (x : Verdict) : Nat := x.values.length + x.arcs.length + x.pairs.length + x.numbers.length
def Verdict.cnt (x : Verdict) : Nat := qM cI x.values + qM ArcStep.ecnt x.arcs + qM PairStep.ecnt x.pairs + qM cI x.numbers
def Verdict.ecnt (x : Verdict) : Nat := 1 + x.cnt
def Verdict.mkv (x : Verdict) (k : Int) : Verdict := ⟨x.kind, mkS mkI cI x.values (k), mkS ArcStep.emk ArcStep.ecnt x.arcs (k + (qM cI x.values : Nat)), mkS PairStep.emk PairStep.ecnt x.pairs (k + (qM cI x.values : Nat) + (qM ArcStep.ecnt x.arcs : Nat)), mkS mkI cI x.numbers (k + (qM cI x.values : Nat) + (qM ArcStep.ecnt x.arcs : Nat) + (qM PairStep.ecnt x.pairs : Nat))⟩
def Verdict.emk (x : Verdict) (k : Int) : Verdict := ⟨k, mkS mkI cI x.values (k + 1), mkS ArcStep.emk ArcStep.ecnt x.arcs (k + 1 + (qM cI x.values : Nat)), mkS PairStep.emk PairStep.ecnt x.pairs (k + 1 + (qM cI x.values : Nat) + (qM ArcStep.ecnt x.arcs : Nat)), mkS mkI cI x.numbers (k + 1 + (qM cI x.values : Nat) + (qM ArcStep.ecnt x.arcs : Nat) + (qM PairStep.ecnt x.pairs : Nat))⟩

structure Equation where
  left : List Int
  right : Int
instance : Inhabited Equation := ⟨⟨[], 0⟩⟩
/-- How it reads. -/
def qY : ER Equation := fun w f x bs => ∃ v0 : Value, ∃ b0 : List Nat, f 0 = some v0 ∧ Sl 1 xK w v0 x.left b0 ∧ f 1 = some (.int .i64 x.right) ∧ xY x.right ∧ bs = b0
theorem qY.fr : Fr 2 qY := by
  intro w w' f g x bs h hs hg
  obtain ⟨v0, b0, h0, k0, h1, k1, rfl⟩ := h
  exact ⟨v0, _, (hg 0 (by omega)).trans h0, k0.same xK.fr (fun c hc => hs c (by simp [hc])), (hg 1 (by omega)).trans h1, k1, rfl⟩
theorem qY.open {w : World} {v : Value} {x : Equation} {bs : List Nat} (h : qH 2 qY w v x bs) : ∃ v0 : Value, ∃ b0 : List Nat, v = .agg #[v0, .int .i64 x.right] ∧ Sl 1 xK w v0 x.left b0 ∧ xY x.right ∧ bs = b0 := by
  obtain ⟨cs, hl, rfl, v0, b0, h0, k0, h1, k1, rfl⟩ := h
  match cs, hl with
  | [c0, c1], _ =>
    obtain rfl := Option.some.inj h0
    obtain rfl := Option.some.inj h1
    exact ⟨_, _, rfl, k0, k1, rfl⟩
theorem qY.mk' {w : World} {x : Equation} {v0 : Value} {b0 : List Nat} (h0 : Sl 1 xK w v0 x.left b0) (h1 : xY x.right) : qH 2 qY w (.agg #[v0, .int .i64 x.right]) x (b0) :=
  ⟨[v0, .int .i64 x.right], rfl, rfl, _, _, rfl, h0, rfl, h1, rfl⟩
def Equation.sz (x : Equation) : Nat := x.left.length
def Equation.cnt (x : Equation) : Nat := qM cI x.left
def Equation.ecnt (x : Equation) : Nat := 1 + x.cnt
def Equation.mkv (x : Equation) (k : Int) : Equation := ⟨mkS mkI cI x.left (k), x.right⟩
def Equation.emk (x : Equation) (k : Int) : Equation := ⟨mkS mkI cI x.left (k), k + (qM cI x.left : Nat)⟩

structure Line where
  kind : Int
  var : Int
  value : Int
  con : Int
instance : Inhabited Line := ⟨⟨0, 0, 0, 0⟩⟩
/-- How it reads. -/
def kW : ER Line := fun w f x bs => f 0 = some (.int .i64 x.kind) ∧ xY x.kind ∧ f 1 = some (.int .i64 x.var) ∧ xY x.var ∧ f 2 = some (.int .i64 x.value) ∧ xY x.value ∧ f 3 = some (.int .i64 x.con) ∧ xY x.con ∧ bs = []
theorem kW.fr : Fr 4 kW := by
  intro w w' f g x bs h _ hg
  obtain ⟨h0, k0, h1, k1, h2, k2, h3, k3, rfl⟩ := h
  exact ⟨(hg 0 (by omega)).trans h0, k0, (hg 1 (by omega)).trans h1, k1, (hg 2 (by omega)).trans h2, k2, (hg 3 (by omega)).trans h3, k3, rfl⟩
theorem kW.open {w : World} {v : Value} {x : Line} {bs : List Nat} (h : qH 4 kW w v x bs) : v = .agg #[.int .i64 x.kind, .int .i64 x.var, .int .i64 x.value, .int .i64 x.con] ∧ xY x.kind ∧ xY x.var ∧ xY x.value ∧ xY x.con ∧ bs = [] := by
  obtain ⟨cs, hl, rfl, h0, k0, h1, k1, h2, k2, h3, k3, rfl⟩ := h
  match cs, hl with
  | [c0, c1, c2, c3], _ =>
    obtain rfl := Option.some.inj h0
    obtain rfl := Option.some.inj h1
    obtain rfl := Option.some.inj h2
    obtain rfl := Option.some.inj h3
    exact ⟨rfl, k0, k1, k2, k3, rfl⟩
theorem kW.mk' {w : World} {x : Line}  (h0 : xY x.kind) (h1 : xY x.var) (h2 : xY x.value) (h3 : xY x.con) : qH 4 kW w (.agg #[.int .i64 x.kind, .int .i64 x.var, .int .i64 x.value, .int .i64 x.con]) x ([]) :=
  ⟨[.int .i64 x.kind, .int .i64 x.var, .int .i64 x.value, .int .i64 x.con], rfl, rfl, rfl, h0, rfl, h1, rfl, h2, rfl, h3, rfl⟩
def Line.sz (x : Line) : Nat := 0
def Line.cnt (x : Line) : Nat := 0
def Line.ecnt (x : Line) : Nat := 4 + x.cnt
def Line.mkv (x : Line) (_ : Int) : Line := x
def Line.emk (_ : Line) (k : Int) : Line := ⟨k, k + 1, k + 1 + 1, k + 1 + 1 + 1⟩

structure Literal where
  var : Int
  value : Int
instance : Inhabited Literal := ⟨⟨0, 0⟩⟩
/-- How it reads. -/
def vP : ER Literal := fun w f x bs => f 0 = some (.int .i64 x.var) ∧ xY x.var ∧ f 1 = some (.int .i64 x.value) ∧ xY x.value ∧ bs = []
theorem vP.fr : Fr 2 vP := by
  intro w w' f g x bs h _ hg
  obtain ⟨h0, k0, h1, k1, rfl⟩ := h
  exact ⟨(hg 0 (by omega)).trans h0, k0, (hg 1 (by omega)).trans h1, k1, rfl⟩
theorem vP.open {w : World} {v : Value} {x : Literal} {bs : List Nat} (h : qH 2 vP w v x bs) : v = .agg #[.int .i64 x.var, .int .i64 x.value] ∧ xY x.var ∧ xY x.value ∧ bs = [] := by
  obtain ⟨cs, hl, rfl, h0, k0, h1, k1, rfl⟩ := h
  match cs, hl with
  | [c0, c1], _ =>
    obtain rfl := Option.some.inj h0
    obtain rfl := Option.some.inj h1
    exact ⟨rfl, k0, k1, rfl⟩
theorem vP.mk' {w : World} {x : Literal}  (h0 : xY x.var) (h1 : xY x.value) : qH 2 vP w (.agg #[.int .i64 x.var, .int .i64 x.value]) x ([]) :=
  ⟨[.int .i64 x.var, .int .i64 x.value], rfl, rfl, rfl, h0, rfl, h1, rfl⟩
def Literal.sz (x : Literal) : Nat := 0
def Literal.cnt (x : Literal) : Nat := 0
def Literal.ecnt (x : Literal) : Nat := 2 + x.cnt
def Literal.mkv (x : Literal) (_ : Int) : Literal := x
def Literal.emk (_ : Literal) (k : Int) : Literal := ⟨k, k + 1⟩

structure Gadgets where
  formulas : List Formula
instance : Inhabited Gadgets := ⟨⟨[]⟩⟩
/-- How it reads. -/
def xV : ER Gadgets := fun w f x bs => ∃ v0 : Value, ∃ b0 : List Nat, f 0 = some v0 ∧ Sl 3 xL w v0 x.formulas b0 ∧ bs = b0
theorem xV.fr : Fr 1 xV := by
  intro w w' f g x bs h hs hg
  obtain ⟨v0, b0, h0, k0, rfl⟩ := h
  exact ⟨v0, _, (hg 0 (by omega)).trans h0, k0.same xL.fr (fun c hc => hs c (by simp [hc])), rfl⟩
theorem xV.open {w : World} {v : Value} {x : Gadgets} {bs : List Nat} (h : qH 1 xV w v x bs) : ∃ v0 : Value, ∃ b0 : List Nat, v = .agg #[v0] ∧ Sl 3 xL w v0 x.formulas b0 ∧ bs = b0 := by
  obtain ⟨cs, hl, rfl, v0, b0, h0, k0, rfl⟩ := h
  match cs, hl with
  | [c0], _ =>
    obtain rfl := Option.some.inj h0
    exact ⟨_, _, rfl, k0, rfl⟩
theorem xV.mk' {w : World} {x : Gadgets} {v0 : Value} {b0 : List Nat} (h0 : Sl 3 xL w v0 x.formulas b0) : qH 1 xV w (.agg #[v0]) x (b0) :=
  ⟨[v0], rfl, rfl, _, _, rfl, h0, rfl⟩
def Gadgets.sz (x : Gadgets) : Nat := szS Formula.sz x.formulas
def Gadgets.cnt (x : Gadgets) : Nat := qM Formula.ecnt x.formulas
def Gadgets.ecnt (x : Gadgets) : Nat := 0 + x.cnt
def Gadgets.mkv (x : Gadgets) (k : Int) : Gadgets := ⟨mkS Formula.emk Formula.ecnt x.formulas (k)⟩
def Gadgets.emk (x : Gadgets) (k : Int) : Gadgets := ⟨mkS Formula.emk Formula.ecnt x.formulas (k)⟩

structure Deed where
  kind : Int
  a : Int
  b : Int
instance : Inhabited Deed := ⟨⟨0, 0, 0⟩⟩
/-- How it reads. -/
def RDeed : ER Deed := fun w f x bs => f 0 = some (.int .i64 x.kind) ∧ xY x.kind ∧ f 1 = some (.int .i64 x.a) ∧ xY x.a ∧ f 2 = some (.int .i64 x.b) ∧ xY x.b ∧ bs = []
theorem RDeed.fr : Fr 3 RDeed := by
  intro w w' f g x bs h _ hg
  obtain ⟨h0, k0, h1, k1, h2, k2, rfl⟩ := h
  exact ⟨(hg 0 (by omega)).trans h0, k0, (hg 1 (by omega)).trans h1, k1, (hg 2 (by omega)).trans h2, k2, rfl⟩
theorem RDeed.open {w : World} {v : Value} {x : Deed} {bs : List Nat} (h : qH 3 RDeed w v x bs) : v = .agg #[.int .i64 x.kind, .int .i64 x.a, .int .i64 x.b] ∧ xY x.kind ∧ xY x.a ∧ xY x.b ∧ bs = [] := by
  obtain ⟨cs, hl, rfl, h0, k0, h1, k1, h2, k2, rfl⟩ := h
  match cs, hl with
  | [c0, c1, c2], _ =>
    obtain rfl := Option.some.inj h0
    obtain rfl := Option.some.inj h1
    obtain rfl := Option.some.inj h2
    exact ⟨rfl, k0, k1, k2, rfl⟩
theorem RDeed.mk' {w : World} {x : Deed}  (h0 : xY x.kind) (h1 : xY x.a) (h2 : xY x.b) : qH 3 RDeed w (.agg #[.int .i64 x.kind, .int .i64 x.a, .int .i64 x.b]) x ([]) :=
  ⟨[.int .i64 x.kind, .int .i64 x.a, .int .i64 x.b], rfl, rfl, rfl, h0, rfl, h1, rfl, h2, rfl⟩
def Deed.sz (x : Deed) : Nat := 0
def Deed.cnt (x : Deed) : Nat := 0
def Deed.ecnt (x : Deed) : Nat := 3 + x.cnt
def Deed.mkv (x : Deed) (_ : Int) : Deed := x
def Deed.emk (_ : Deed) (k : Int) : Deed := ⟨k, k + 1, k + 1 + 1⟩

end Go.Proofs.YtmgdjaiaekhkgaaGreat
