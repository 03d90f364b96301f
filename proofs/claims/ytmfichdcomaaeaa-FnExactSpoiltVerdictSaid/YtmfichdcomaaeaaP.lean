/-
  The laws' arguments opened. Printed by gen_p.py.
-/
import Derived.Test.YtmfichdcomaaeaaRows
import Derived.Test.YtmfichdcomaaeaaO
namespace Go.Proofs.Ytmfichdcomaaeaa
set_option linter.unusedVariables false
set_option linter.unusedSimpArgs false
open Go.ChangeShapes Go.WideShapes Go.ChangeAt Go.RowKit Go.Deep
theorem Try.laidOut : laidOutB Try.prog = true := by kernel_rfl
theorem opens_I : Opens Try.prog 2 1 RInt := opens_int Try.underlying2
theorem opens_SI : Opens Try.prog 34 1 (RSl 1 RInt) := opens_slice Try.underlying34 (by kernel_rfl) (by decide) RInt.fr opens_I
theorem opens_SL : Opens Try.prog 52 1 (RSl 1 RInts) := opens_slice Try.underlying52 (by kernel_rfl) (by decide) RInts.fr opens_SI
theorem opens_Rel : Opens Try.prog 54 2 RRel := by
  intro H enc W fuel cs y hy
  obtain ⟨xs, n, _, rfl, hl, hxl, hf⟩ := DataW.trod_struct Try.underlying54 hy
  have hl' : cs.length = 2 := hl.trans (by kernel_rfl)
  have F := field_of (by kernel_rfl) hl' hxl hf
  obtain ⟨c0, y0, h0, t0⟩ := F 0 _ rfl
  obtain ⟨_, x0, _, ⟨q0, r0, rfl⟩, _⟩ := opens_I H enc W n _ _ t0
  obtain rfl := Option.some.inj q0
  obtain ⟨c1, y1, h1, t1⟩ := F 1 _ rfl
  obtain ⟨_, x1, b1, ⟨v1, q1, r1⟩, m1⟩ := opens_SL H enc W n _ _ t1
  obtain rfl := Option.some.inj q1
  exact ⟨hl', ⟨x0, x1⟩, _, ⟨_, _, h0, r0, h1, r1, rfl⟩, m1⟩
theorem opens_SRel : Opens Try.prog 79 1 (RSl 2 RRel) := opens_slice Try.underlying79 (by kernel_rfl) (by decide) RRel.fr opens_Rel
theorem opens_Template : Opens Try.prog 81 2 RTemplate := by
  intro H enc W fuel cs y hy
  obtain ⟨xs, n, _, rfl, hl, hxl, hf⟩ := DataW.trod_struct Try.underlying81 hy
  have hl' : cs.length = 2 := hl.trans (by kernel_rfl)
  have F := field_of (by kernel_rfl) hl' hxl hf
  obtain ⟨c0, y0, h0, t0⟩ := F 0 _ rfl
  obtain ⟨_, x0, _, ⟨q0, r0, rfl⟩, _⟩ := opens_I H enc W n _ _ t0
  obtain rfl := Option.some.inj q0
  obtain ⟨c1, y1, h1, t1⟩ := F 1 _ rfl
  obtain ⟨_, x1, b1, ⟨v1, q1, r1⟩, m1⟩ := opens_SRel H enc W n _ _ t1
  obtain rfl := Option.some.inj q1
  exact ⟨hl', ⟨x0, x1⟩, _, ⟨_, _, h0, r0, h1, r1, rfl⟩, m1⟩
theorem opens_Atom : Opens Try.prog 211 2 RAtom := by
  intro H enc W fuel cs y hy
  obtain ⟨xs, n, _, rfl, hl, hxl, hf⟩ := DataW.trod_struct Try.underlying211 hy
  have hl' : cs.length = 2 := hl.trans (by kernel_rfl)
  have F := field_of (by kernel_rfl) hl' hxl hf
  obtain ⟨c0, y0, h0, t0⟩ := F 0 _ rfl
  obtain ⟨_, x0, _, ⟨q0, r0, rfl⟩, _⟩ := opens_I H enc W n _ _ t0
  obtain rfl := Option.some.inj q0
  obtain ⟨c1, y1, h1, t1⟩ := F 1 _ rfl
  obtain ⟨_, x1, b1, ⟨v1, q1, r1⟩, m1⟩ := opens_SI H enc W n _ _ t1
  obtain rfl := Option.some.inj q1
  exact ⟨hl', ⟨x0, x1⟩, _, ⟨_, _, h0, r0, h1, r1, rfl⟩, m1⟩
theorem opens_SAtom : Opens Try.prog 166 1 (RSl 2 RAtom) := opens_slice Try.underlying166 (by kernel_rfl) (by decide) RAtom.fr opens_Atom
theorem opens_Formula : Opens Try.prog 168 3 RFormula := by
  intro H enc W fuel cs y hy
  obtain ⟨xs, n, _, rfl, hl, hxl, hf⟩ := DataW.trod_struct Try.underlying168 hy
  have hl' : cs.length = 3 := hl.trans (by kernel_rfl)
  have F := field_of (by kernel_rfl) hl' hxl hf
  obtain ⟨c0, y0, h0, t0⟩ := F 0 _ rfl
  obtain ⟨_, x0, _, ⟨q0, r0, rfl⟩, _⟩ := opens_I H enc W n _ _ t0
  obtain rfl := Option.some.inj q0
  obtain ⟨c1, y1, h1, t1⟩ := F 1 _ rfl
  obtain ⟨_, x1, _, ⟨q1, r1, rfl⟩, _⟩ := opens_I H enc W n _ _ t1
  obtain rfl := Option.some.inj q1
  obtain ⟨c2, y2, h2, t2⟩ := F 2 _ rfl
  obtain ⟨_, x2, b2, ⟨v2, q2, r2⟩, m2⟩ := opens_SAtom H enc W n _ _ t2
  obtain rfl := Option.some.inj q2
  exact ⟨hl', ⟨x0, x1, x2⟩, _, ⟨_, _, h0, r0, h1, r1, h2, r2, rfl⟩, m2⟩
theorem opens_SFormula : Opens Try.prog 42 1 (RSl 3 RFormula) := opens_slice Try.underlying42 (by kernel_rfl) (by decide) RFormula.fr opens_Formula
theorem opens_ArcStep : Opens Try.prog 186 3 RArcStep := by
  intro H enc W fuel cs y hy
  obtain ⟨xs, n, _, rfl, hl, hxl, hf⟩ := DataW.trod_struct Try.underlying186 hy
  have hl' : cs.length = 3 := hl.trans (by kernel_rfl)
  have F := field_of (by kernel_rfl) hl' hxl hf
  obtain ⟨c0, y0, h0, t0⟩ := F 0 _ rfl
  obtain ⟨_, x0, _, ⟨q0, r0, rfl⟩, _⟩ := opens_I H enc W n _ _ t0
  obtain rfl := Option.some.inj q0
  obtain ⟨c1, y1, h1, t1⟩ := F 1 _ rfl
  obtain ⟨_, x1, _, ⟨q1, r1, rfl⟩, _⟩ := opens_I H enc W n _ _ t1
  obtain rfl := Option.some.inj q1
  obtain ⟨c2, y2, h2, t2⟩ := F 2 _ rfl
  obtain ⟨_, x2, _, ⟨q2, r2, rfl⟩, _⟩ := opens_I H enc W n _ _ t2
  obtain rfl := Option.some.inj q2
  exact ⟨hl', ⟨x0, x1, x2⟩, _, ⟨h0, r0, h1, r1, h2, r2, rfl⟩, fun _ h => by cases h⟩
theorem opens_SArcStep : Opens Try.prog 65 1 (RSl 3 RArcStep) := opens_slice Try.underlying65 (by kernel_rfl) (by decide) RArcStep.fr opens_ArcStep
theorem opens_PairStep : Opens Try.prog 188 3 RPairStep := by
  intro H enc W fuel cs y hy
  obtain ⟨xs, n, _, rfl, hl, hxl, hf⟩ := DataW.trod_struct Try.underlying188 hy
  have hl' : cs.length = 3 := hl.trans (by kernel_rfl)
  have F := field_of (by kernel_rfl) hl' hxl hf
  obtain ⟨c0, y0, h0, t0⟩ := F 0 _ rfl
  obtain ⟨_, x0, _, ⟨q0, r0, rfl⟩, _⟩ := opens_I H enc W n _ _ t0
  obtain rfl := Option.some.inj q0
  obtain ⟨c1, y1, h1, t1⟩ := F 1 _ rfl
  obtain ⟨_, x1, _, ⟨q1, r1, rfl⟩, _⟩ := opens_I H enc W n _ _ t1
  obtain rfl := Option.some.inj q1
  obtain ⟨c2, y2, h2, t2⟩ := F 2 _ rfl
  obtain ⟨_, x2, _, ⟨q2, r2, rfl⟩, _⟩ := opens_I H enc W n _ _ t2
  obtain rfl := Option.some.inj q2
  exact ⟨hl', ⟨x0, x1, x2⟩, _, ⟨h0, r0, h1, r1, h2, r2, rfl⟩, fun _ h => by cases h⟩
theorem opens_SPairStep : Opens Try.prog 66 1 (RSl 3 RPairStep) := opens_slice Try.underlying66 (by kernel_rfl) (by decide) RPairStep.fr opens_PairStep
theorem opens_Verdict : Opens Try.prog 68 5 RVerdict := by
  intro H enc W fuel cs y hy
  obtain ⟨xs, n, _, rfl, hl, hxl, hf⟩ := DataW.trod_struct Try.underlying68 hy
  have hl' : cs.length = 5 := hl.trans (by kernel_rfl)
  have F := field_of (by kernel_rfl) hl' hxl hf
  obtain ⟨c0, y0, h0, t0⟩ := F 0 _ rfl
  obtain ⟨_, x0, _, ⟨q0, r0, rfl⟩, _⟩ := opens_I H enc W n _ _ t0
  obtain rfl := Option.some.inj q0
  obtain ⟨c1, y1, h1, t1⟩ := F 1 _ rfl
  obtain ⟨_, x1, b1, ⟨v1, q1, r1⟩, m1⟩ := opens_SI H enc W n _ _ t1
  obtain rfl := Option.some.inj q1
  obtain ⟨c2, y2, h2, t2⟩ := F 2 _ rfl
  obtain ⟨_, x2, b2, ⟨v2, q2, r2⟩, m2⟩ := opens_SArcStep H enc W n _ _ t2
  obtain rfl := Option.some.inj q2
  obtain ⟨c3, y3, h3, t3⟩ := F 3 _ rfl
  obtain ⟨_, x3, b3, ⟨v3, q3, r3⟩, m3⟩ := opens_SPairStep H enc W n _ _ t3
  obtain rfl := Option.some.inj q3
  obtain ⟨c4, y4, h4, t4⟩ := F 4 _ rfl
  obtain ⟨_, x4, b4, ⟨v4, q4, r4⟩, m4⟩ := opens_SI H enc W n _ _ t4
  obtain rfl := Option.some.inj q4
  exact ⟨hl', ⟨x0, x1, x2, x3, x4⟩, _, ⟨_, _, _, _, _, _, _, _, h0, r0, h1, r1, h2, r2, h3, r3, h4, r4, rfl⟩, (InMem.append (InMem.append (InMem.append m1 m2) m3) m4)⟩
theorem opens_Line : Opens Try.prog 29 4 RLine := by
  intro H enc W fuel cs y hy
  obtain ⟨xs, n, _, rfl, hl, hxl, hf⟩ := DataW.trod_struct Try.underlying29 hy
  have hl' : cs.length = 4 := hl.trans (by kernel_rfl)
  have F := field_of (by kernel_rfl) hl' hxl hf
  obtain ⟨c0, y0, h0, t0⟩ := F 0 _ rfl
  obtain ⟨_, x0, _, ⟨q0, r0, rfl⟩, _⟩ := opens_I H enc W n _ _ t0
  obtain rfl := Option.some.inj q0
  obtain ⟨c1, y1, h1, t1⟩ := F 1 _ rfl
  obtain ⟨_, x1, _, ⟨q1, r1, rfl⟩, _⟩ := opens_I H enc W n _ _ t1
  obtain rfl := Option.some.inj q1
  obtain ⟨c2, y2, h2, t2⟩ := F 2 _ rfl
  obtain ⟨_, x2, _, ⟨q2, r2, rfl⟩, _⟩ := opens_I H enc W n _ _ t2
  obtain rfl := Option.some.inj q2
  obtain ⟨c3, y3, h3, t3⟩ := F 3 _ rfl
  obtain ⟨_, x3, _, ⟨q3, r3, rfl⟩, _⟩ := opens_I H enc W n _ _ t3
  obtain rfl := Option.some.inj q3
  exact ⟨hl', ⟨x0, x1, x2, x3⟩, _, ⟨h0, r0, h1, r1, h2, r2, h3, r3, rfl⟩, fun _ h => by cases h⟩
theorem opens_Gadgets : Opens Try.prog 44 1 RGadgets := by
  intro H enc W fuel cs y hy
  obtain ⟨xs, n, _, rfl, hl, hxl, hf⟩ := DataW.trod_struct Try.underlying44 hy
  have hl' : cs.length = 1 := hl.trans (by kernel_rfl)
  have F := field_of (by kernel_rfl) hl' hxl hf
  obtain ⟨c0, y0, h0, t0⟩ := F 0 _ rfl
  obtain ⟨_, x0, b0, ⟨v0, q0, r0⟩, m0⟩ := opens_SFormula H enc W n _ _ t0
  obtain rfl := Option.some.inj q0
  exact ⟨hl', ⟨x0⟩, _, ⟨_, _, h0, r0, rfl⟩, m0⟩
theorem opens_Deed : Opens Try.prog 23 3 RDeed := by
  intro H enc W fuel cs y hy
  obtain ⟨xs, n, _, rfl, hl, hxl, hf⟩ := DataW.trod_struct Try.underlying23 hy
  have hl' : cs.length = 3 := hl.trans (by kernel_rfl)
  have F := field_of (by kernel_rfl) hl' hxl hf
  obtain ⟨c0, y0, h0, t0⟩ := F 0 _ rfl
  obtain ⟨_, x0, _, ⟨q0, r0, rfl⟩, _⟩ := opens_I H enc W n _ _ t0
  obtain rfl := Option.some.inj q0
  obtain ⟨c1, y1, h1, t1⟩ := F 1 _ rfl
  obtain ⟨_, x1, _, ⟨q1, r1, rfl⟩, _⟩ := opens_I H enc W n _ _ t1
  obtain rfl := Option.some.inj q1
  obtain ⟨c2, y2, h2, t2⟩ := F 2 _ rfl
  obtain ⟨_, x2, _, ⟨q2, r2, rfl⟩, _⟩ := opens_I H enc W n _ _ t2
  obtain rfl := Option.some.inj q2
  exact ⟨hl', ⟨x0, x1, x2⟩, _, ⟨h0, r0, h1, r1, h2, r2, rfl⟩, fun _ h => by cases h⟩
end Go.Proofs.Ytmfichdcomaaeaa
