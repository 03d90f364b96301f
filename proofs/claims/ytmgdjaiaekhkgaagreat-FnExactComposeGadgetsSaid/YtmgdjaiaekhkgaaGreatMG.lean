/-
  How many numbers gadgets bear; a part of a law.
-/
import Derived.Test.YtmgdjaiaekhkgaaGreatM55
import Derived.Test.YtmgdjaiaekhkgaaGreatY
namespace Go.Proofs.YtmgdjaiaekhkgaaGreat
set_option linter.unusedVariables false
set_option linter.unusedSimpArgs false
theorem cntAt (a : Atom) : a.ecnt ≤ 10 * (1 + a.sz) := by
  have : cntS cI a.args ≤ a.sz := by rw [cntI]; unfold Atom.sz; omega
  unfold Atom.ecnt Atom.cnt
  omega
theorem cntFo (f : Formula) : f.ecnt ≤ 10 * (1 + f.sz) := by
  have := cntS_le_szS cntAt f.atoms
  unfold Formula.ecnt Formula.cnt Formula.sz
  omega
theorem cntGa {g : Gadgets} (h : g.sz ≤ 1048576) : g.cnt ≤ 104857600 := by
  have := cntS_le_szS cntFo g.formulas
  unfold Gadgets.sz at h
  unfold Gadgets.cnt
  omega
theorem szq_two {left : Int} {n : Nat} (h0 : 0 ≤ left) (h1 : left ≤ 1048576) : ∃ z, szq left n = some z ∧ (decide (z < 0) = true ∨ (decide (z < 0) = false ∧ z = left - n ∧ (n : Int) ≤ left)) := by
  refine ⟨szR left n, szq_eq h0 h1, ?_⟩
  unfold szR
  split
  · exact .inr ⟨by simp; omega, rfl, by assumption⟩
  · exact .inl (by simp)
end Go.Proofs.YtmgdjaiaekhkgaaGreat
