/-
  The laws' arguments opened. Printed by gen_p.py.
-/
import Derived.Test.YtfepllddlmhjiaaRows
import Derived.Test.YtfepllddlmhjiaaO
namespace Go.Proofs.Ytfepllddlmhjiaa
set_option linter.unusedVariables false
set_option linter.unusedSimpArgs false
open Go.ChangeShapes Go.WideShapes Go.ChangeAt Go.RowKit Go.Deep
theorem Try.laidOut : laidOutB Try.prog = true := by kernel_rfl
theorem opens_I : Opens Try.prog 2 1 RInt := opens_int Try.underlying2
theorem opens_SI : Opens Try.prog 27 1 (RSl 1 RInt) := opens_slice Try.underlying27 (by kernel_rfl) (by decide) RInt.fr opens_I
theorem opens_SL : Opens Try.prog 26 1 (RSl 1 RInts) := opens_slice Try.underlying26 (by kernel_rfl) (by decide) RInts.fr opens_SI
theorem opens_Rel : Opens Try.prog 63 2 RRel := by
  intro H enc W fuel cs y hy
  obtain ⟨xs, n, _, rfl, hl, hxl, hf⟩ := DataW.trod_struct Try.underlying63 hy
  have hl' : cs.length = 2 := hl.trans (by kernel_rfl)
  have F := field_of (by kernel_rfl) hl' hxl hf
  obtain ⟨c0, y0, h0, t0⟩ := F 0 _ rfl
  obtain ⟨_, x0, _, ⟨q0, r0, rfl⟩, _⟩ := opens_I H enc W n _ _ t0
  obtain rfl := Option.some.inj q0
  obtain ⟨c1, y1, h1, t1⟩ := F 1 _ rfl
  obtain ⟨_, x1, b1, ⟨v1, q1, r1⟩, m1⟩ := opens_SL H enc W n _ _ t1
  obtain rfl := Option.some.inj q1
  exact ⟨hl', ⟨x0, x1⟩, _, ⟨_, _, h0, r0, h1, r1, rfl⟩, m1⟩
theorem opens_SRel : Opens Try.prog 22 1 (RSl 2 RRel) := opens_slice Try.underlying22 (by kernel_rfl) (by decide) RRel.fr opens_Rel
theorem opens_Template : Opens Try.prog 24 2 RTemplate := by
  intro H enc W fuel cs y hy
  obtain ⟨xs, n, _, rfl, hl, hxl, hf⟩ := DataW.trod_struct Try.underlying24 hy
  have hl' : cs.length = 2 := hl.trans (by kernel_rfl)
  have F := field_of (by kernel_rfl) hl' hxl hf
  obtain ⟨c0, y0, h0, t0⟩ := F 0 _ rfl
  obtain ⟨_, x0, _, ⟨q0, r0, rfl⟩, _⟩ := opens_I H enc W n _ _ t0
  obtain rfl := Option.some.inj q0
  obtain ⟨c1, y1, h1, t1⟩ := F 1 _ rfl
  obtain ⟨_, x1, b1, ⟨v1, q1, r1⟩, m1⟩ := opens_SRel H enc W n _ _ t1
  obtain rfl := Option.some.inj q1
  exact ⟨hl', ⟨x0, x1⟩, _, ⟨_, _, h0, r0, h1, r1, rfl⟩, m1⟩
end Go.Proofs.Ytfepllddlmhjiaa
