/-
  The laws' arguments opened. Printed by gen_p.py.
-/
import Derived.Test.YtmgdjaiaekhkgaaGreatRows
import Derived.Test.YtmgdjaiaekhkgaaGreatO
namespace Go.Proofs.YtmgdjaiaekhkgaaGreat
open Go.Proofs.Tryz
set_option linter.unusedVariables false
set_option linter.unusedSimpArgs false
open Go.ChangeShapes Go.WideShapes Go.ChangeAt Go.RowKit Go.Deep
theorem Tryz.laidOut : laidOutB Tryz.prog = true := by kernel_rfl
theorem opens_I : Opens Tryz.prog 2 1 xK := opens_int underlying2
theorem opens_SI : Opens Tryz.prog 42 1 (RSl 1 xK) := opens_slice underlying42 (by kernel_rfl) (by decide) xK.fr opens_I
theorem opens_SL : Opens Tryz.prog 82 1 (RSl 1 zA) := opens_slice underlying82 (by kernel_rfl) (by decide) zA.fr opens_SI
theorem opens_Rel : Opens Tryz.prog 137 2 qE := by
  intro H enc W fuel cs y hy
  obtain ⟨xs, n, _, rfl, hl, hxl, hf⟩ := DataW.trod_struct underlying137 hy
  have hl' : cs.length = 2 := hl.trans (by kernel_rfl)
  have F := field_of (by kernel_rfl) hl' hxl hf
  obtain ⟨c0, y0, h0, t0⟩ := F 0 _ rfl
  obtain ⟨_, x0, _, ⟨q0, r0, rfl⟩, _⟩ := opens_I H enc W n _ _ t0
  obtain rfl := Option.some.inj q0
  obtain ⟨c1, y1, h1, t1⟩ := F 1 _ rfl
  obtain ⟨_, x1, b1, ⟨v1, q1, r1⟩, m1⟩ := opens_SL H enc W n _ _ t1
  obtain rfl := Option.some.inj q1
  exact ⟨hl', ⟨x0, x1⟩, _, ⟨_, _, h0, r0, h1, r1, rfl⟩, m1⟩
theorem opens_SRel : Opens Tryz.prog 22 1 (RSl 2 qE) := opens_slice underlying22 (by kernel_rfl) (by decide) qE.fr opens_Rel
theorem opens_Template : Opens Tryz.prog 24 2 xJ := by
  intro H enc W fuel cs y hy
  obtain ⟨xs, n, _, rfl, hl, hxl, hf⟩ := DataW.trod_struct underlying24 hy
  have hl' : cs.length = 2 := hl.trans (by kernel_rfl)
  have F := field_of (by kernel_rfl) hl' hxl hf
  obtain ⟨c0, y0, h0, t0⟩ := F 0 _ rfl
  obtain ⟨_, x0, _, ⟨q0, r0, rfl⟩, _⟩ := opens_I H enc W n _ _ t0
  obtain rfl := Option.some.inj q0
  obtain ⟨c1, y1, h1, t1⟩ := F 1 _ rfl
  obtain ⟨_, x1, b1, ⟨v1, q1, r1⟩, m1⟩ := opens_SRel H enc W n _ _ t1
  obtain rfl := Option.some.inj q1
  exact ⟨hl', ⟨x0, x1⟩, _, ⟨_, _, h0, r0, h1, r1, rfl⟩, m1⟩
theorem opens_Atom : Opens Tryz.prog 261 2 xU := by
  intro H enc W fuel cs y hy
  obtain ⟨xs, n, _, rfl, hl, hxl, hf⟩ := DataW.trod_struct underlying261 hy
  have hl' : cs.length = 2 := hl.trans (by kernel_rfl)
  have F := field_of (by kernel_rfl) hl' hxl hf
  obtain ⟨c0, y0, h0, t0⟩ := F 0 _ rfl
  obtain ⟨_, x0, _, ⟨q0, r0, rfl⟩, _⟩ := opens_I H enc W n _ _ t0
  obtain rfl := Option.some.inj q0
  obtain ⟨c1, y1, h1, t1⟩ := F 1 _ rfl
  obtain ⟨_, x1, b1, ⟨v1, q1, r1⟩, m1⟩ := opens_SI H enc W n _ _ t1
  obtain rfl := Option.some.inj q1
  exact ⟨hl', ⟨x0, x1⟩, _, ⟨_, _, h0, r0, h1, r1, rfl⟩, m1⟩
theorem opens_SAtom : Opens Tryz.prog 139 1 (RSl 2 xU) := opens_slice underlying139 (by kernel_rfl) (by decide) xU.fr opens_Atom
theorem opens_Formula : Opens Tryz.prog 141 3 xL := by
  intro H enc W fuel cs y hy
  obtain ⟨xs, n, _, rfl, hl, hxl, hf⟩ := DataW.trod_struct underlying141 hy
  have hl' : cs.length = 3 := hl.trans (by kernel_rfl)
  have F := field_of (by kernel_rfl) hl' hxl hf
  obtain ⟨c0, y0, h0, t0⟩ := F 0 _ rfl
  obtain ⟨_, x0, _, ⟨q0, r0, rfl⟩, _⟩ := opens_I H enc W n _ _ t0
  obtain rfl := Option.some.inj q0
  obtain ⟨c1, y1, h1, t1⟩ := F 1 _ rfl
  obtain ⟨_, x1, _, ⟨q1, r1, rfl⟩, _⟩ := opens_I H enc W n _ _ t1
  obtain rfl := Option.some.inj q1
  obtain ⟨c2, y2, h2, t2⟩ := F 2 _ rfl
  obtain ⟨_, x2, b2, ⟨v2, q2, r2⟩, m2⟩ := opens_SAtom H enc W n _ _ t2
  obtain rfl := Option.some.inj q2
  exact ⟨hl', ⟨x0, x1, x2⟩, _, ⟨_, _, h0, r0, h1, r1, h2, r2, rfl⟩, m2⟩
theorem opens_SFormula : Opens Tryz.prog 25 1 (RSl 3 xL) := opens_slice underlying25 (by kernel_rfl) (by decide) xL.fr opens_Formula
theorem opens_Con : Opens Tryz.prog 164 2 oZ := by
  intro H enc W fuel cs y hy
  obtain ⟨xs, n, _, rfl, hl, hxl, hf⟩ := DataW.trod_struct underlying164 hy
  have hl' : cs.length = 2 := hl.trans (by kernel_rfl)
  have F := field_of (by kernel_rfl) hl' hxl hf
  obtain ⟨c0, y0, h0, t0⟩ := F 0 _ rfl
  obtain ⟨_, x0, _, ⟨q0, r0, rfl⟩, _⟩ := opens_I H enc W n _ _ t0
  obtain rfl := Option.some.inj q0
  obtain ⟨c1, y1, h1, t1⟩ := F 1 _ rfl
  obtain ⟨_, x1, b1, ⟨v1, q1, r1⟩, m1⟩ := opens_SI H enc W n _ _ t1
  obtain rfl := Option.some.inj q1
  exact ⟨hl', ⟨x0, x1⟩, _, ⟨_, _, h0, r0, h1, r1, rfl⟩, m1⟩
theorem opens_SCon : Opens Tryz.prog 52 1 (RSl 2 oZ) := opens_slice underlying52 (by kernel_rfl) (by decide) oZ.fr opens_Con
theorem opens_Instance : Opens Tryz.prog 54 2 xM := by
  intro H enc W fuel cs y hy
  obtain ⟨xs, n, _, rfl, hl, hxl, hf⟩ := DataW.trod_struct underlying54 hy
  have hl' : cs.length = 2 := hl.trans (by kernel_rfl)
  have F := field_of (by kernel_rfl) hl' hxl hf
  obtain ⟨c0, y0, h0, t0⟩ := F 0 _ rfl
  obtain ⟨_, x0, _, ⟨q0, r0, rfl⟩, _⟩ := opens_I H enc W n _ _ t0
  obtain rfl := Option.some.inj q0
  obtain ⟨c1, y1, h1, t1⟩ := F 1 _ rfl
  obtain ⟨_, x1, b1, ⟨v1, q1, r1⟩, m1⟩ := opens_SCon H enc W n _ _ t1
  obtain rfl := Option.some.inj q1
  exact ⟨hl', ⟨x0, x1⟩, _, ⟨_, _, h0, r0, h1, r1, rfl⟩, m1⟩
theorem opens_Gadgets : Opens Tryz.prog 27 1 xV := by
  intro H enc W fuel cs y hy
  obtain ⟨xs, n, _, rfl, hl, hxl, hf⟩ := DataW.trod_struct underlying27 hy
  have hl' : cs.length = 1 := hl.trans (by kernel_rfl)
  have F := field_of (by kernel_rfl) hl' hxl hf
  obtain ⟨c0, y0, h0, t0⟩ := F 0 _ rfl
  obtain ⟨_, x0, b0, ⟨v0, q0, r0⟩, m0⟩ := opens_SFormula H enc W n _ _ t0
  obtain rfl := Option.some.inj q0
  exact ⟨hl', ⟨x0⟩, _, ⟨_, _, h0, r0, rfl⟩, m0⟩
end Go.Proofs.YtmgdjaiaekhkgaaGreat
