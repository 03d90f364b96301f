/-
  The laws' arguments opened. Printed by gen_p.py.
-/
import Derived.Test.YtjjdbdlbjdoebaaDoorRows
import Derived.Test.YtjjdbdlbjdoebaaDoorO
namespace Go.Proofs.YtjjdbdlbjdoebaaDoor
set_option linter.unusedVariables false
set_option linter.unusedSimpArgs false
open Go.ChangeShapes Go.WideShapes Go.ChangeAt Go.RowKit Go.Deep
theorem Tryd.laidOut : laidOutB Tryd.prog = true := by kernel_rfl
theorem opens_I : Opens Tryd.prog 2 1 RInt := opens_int Tryd.underlying2
theorem opens_SI : Opens Tryd.prog 66 1 (RSl 1 RInt) := opens_slice Tryd.underlying66 (by kernel_rfl) (by decide) RInt.fr opens_I
theorem opens_Atom : Opens Tryd.prog 153 2 RAtom := by
  intro H enc W fuel cs y hy
  obtain ⟨xs, n, _, rfl, hl, hxl, hf⟩ := DataW.trod_struct Tryd.underlying153 hy
  have hl' : cs.length = 2 := hl.trans (by kernel_rfl)
  have F := field_of (by kernel_rfl) hl' hxl hf
  obtain ⟨c0, y0, h0, t0⟩ := F 0 _ rfl
  obtain ⟨_, x0, _, ⟨q0, r0, rfl⟩, _⟩ := opens_I H enc W n _ _ t0
  obtain rfl := Option.some.inj q0
  obtain ⟨c1, y1, h1, t1⟩ := F 1 _ rfl
  obtain ⟨_, x1, b1, ⟨v1, q1, r1⟩, m1⟩ := opens_SI H enc W n _ _ t1
  obtain rfl := Option.some.inj q1
  exact ⟨hl', ⟨x0, x1⟩, _, ⟨_, _, h0, r0, h1, r1, rfl⟩, m1⟩
theorem opens_SAtom : Opens Tryd.prog 113 1 (RSl 2 RAtom) := opens_slice Tryd.underlying113 (by kernel_rfl) (by decide) RAtom.fr opens_Atom
theorem opens_Formula : Opens Tryd.prog 115 3 RFormula := by
  intro H enc W fuel cs y hy
  obtain ⟨xs, n, _, rfl, hl, hxl, hf⟩ := DataW.trod_struct Tryd.underlying115 hy
  have hl' : cs.length = 3 := hl.trans (by kernel_rfl)
  have F := field_of (by kernel_rfl) hl' hxl hf
  obtain ⟨c0, y0, h0, t0⟩ := F 0 _ rfl
  obtain ⟨_, x0, _, ⟨q0, r0, rfl⟩, _⟩ := opens_I H enc W n _ _ t0
  obtain rfl := Option.some.inj q0
  obtain ⟨c1, y1, h1, t1⟩ := F 1 _ rfl
  obtain ⟨_, x1, _, ⟨q1, r1, rfl⟩, _⟩ := opens_I H enc W n _ _ t1
  obtain rfl := Option.some.inj q1
  obtain ⟨c2, y2, h2, t2⟩ := F 2 _ rfl
  obtain ⟨_, x2, b2, ⟨v2, q2, r2⟩, m2⟩ := opens_SAtom H enc W n _ _ t2
  obtain rfl := Option.some.inj q2
  exact ⟨hl', ⟨x0, x1, x2⟩, _, ⟨_, _, h0, r0, h1, r1, h2, r2, rfl⟩, m2⟩
theorem opens_SFormula : Opens Tryd.prog 41 1 (RSl 3 RFormula) := opens_slice Tryd.underlying41 (by kernel_rfl) (by decide) RFormula.fr opens_Formula
theorem opens_Line : Opens Tryd.prog 23 4 RLine := by
  intro H enc W fuel cs y hy
  obtain ⟨xs, n, _, rfl, hl, hxl, hf⟩ := DataW.trod_struct Tryd.underlying23 hy
  have hl' : cs.length = 4 := hl.trans (by kernel_rfl)
  have F := field_of (by kernel_rfl) hl' hxl hf
  obtain ⟨c0, y0, h0, t0⟩ := F 0 _ rfl
  obtain ⟨_, x0, _, ⟨q0, r0, rfl⟩, _⟩ := opens_I H enc W n _ _ t0
  obtain rfl := Option.some.inj q0
  obtain ⟨c1, y1, h1, t1⟩ := F 1 _ rfl
  obtain ⟨_, x1, _, ⟨q1, r1, rfl⟩, _⟩ := opens_I H enc W n _ _ t1
  obtain rfl := Option.some.inj q1
  obtain ⟨c2, y2, h2, t2⟩ := F 2 _ rfl
  obtain ⟨_, x2, _, ⟨q2, r2, rfl⟩, _⟩ := opens_I H enc W n _ _ t2
  obtain rfl := Option.some.inj q2
  obtain ⟨c3, y3, h3, t3⟩ := F 3 _ rfl
  obtain ⟨_, x3, _, ⟨q3, r3, rfl⟩, _⟩ := opens_I H enc W n _ _ t3
  obtain rfl := Option.some.inj q3
  exact ⟨hl', ⟨x0, x1, x2, x3⟩, _, ⟨h0, r0, h1, r1, h2, r2, h3, r3, rfl⟩, fun _ h => by cases h⟩
theorem opens_SLine : Opens Tryd.prog 28 1 (RSl 4 RLine) := opens_slice Tryd.underlying28 (by kernel_rfl) (by decide) RLine.fr opens_Line
theorem opens_Gadgets : Opens Tryd.prog 43 1 RGadgets := by
  intro H enc W fuel cs y hy
  obtain ⟨xs, n, _, rfl, hl, hxl, hf⟩ := DataW.trod_struct Tryd.underlying43 hy
  have hl' : cs.length = 1 := hl.trans (by kernel_rfl)
  have F := field_of (by kernel_rfl) hl' hxl hf
  obtain ⟨c0, y0, h0, t0⟩ := F 0 _ rfl
  obtain ⟨_, x0, b0, ⟨v0, q0, r0⟩, m0⟩ := opens_SFormula H enc W n _ _ t0
  obtain rfl := Option.some.inj q0
  exact ⟨hl', ⟨x0⟩, _, ⟨_, _, h0, r0, rfl⟩, m0⟩
theorem opens_Deed : Opens Tryd.prog 36 3 RDeed := by
  intro H enc W fuel cs y hy
  obtain ⟨xs, n, _, rfl, hl, hxl, hf⟩ := DataW.trod_struct Tryd.underlying36 hy
  have hl' : cs.length = 3 := hl.trans (by kernel_rfl)
  have F := field_of (by kernel_rfl) hl' hxl hf
  obtain ⟨c0, y0, h0, t0⟩ := F 0 _ rfl
  obtain ⟨_, x0, _, ⟨q0, r0, rfl⟩, _⟩ := opens_I H enc W n _ _ t0
  obtain rfl := Option.some.inj q0
  obtain ⟨c1, y1, h1, t1⟩ := F 1 _ rfl
  obtain ⟨_, x1, _, ⟨q1, r1, rfl⟩, _⟩ := opens_I H enc W n _ _ t1
  obtain rfl := Option.some.inj q1
  obtain ⟨c2, y2, h2, t2⟩ := F 2 _ rfl
  obtain ⟨_, x2, _, ⟨q2, r2, rfl⟩, _⟩ := opens_I H enc W n _ _ t2
  obtain rfl := Option.some.inj q2
  exact ⟨hl', ⟨x0, x1, x2⟩, _, ⟨h0, r0, h1, r1, h2, r2, rfl⟩, fun _ h => by cases h⟩
end Go.Proofs.YtjjdbdlbjdoebaaDoor
