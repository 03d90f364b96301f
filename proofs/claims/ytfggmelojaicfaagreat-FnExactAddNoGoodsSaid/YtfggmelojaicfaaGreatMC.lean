/-
  Plain laws: the sizes and counts that a law of two arguments reckons.
-/
import Derived.Test.YtfggmelojaicfaaGreatMT
import Derived.Test.YtfggmelojaicfaaGreatY
namespace Go.Proofs.YtfggmelojaicfaaGreat
set_option linter.unusedVariables false
set_option linter.unusedSimpArgs false

theorem cntC (c : Con) : c.ecnt ≤ 10 * (1 + c.sz) := by
  have := cntI c.scope
  unfold Con.ecnt Con.cnt Con.sz
  omega
theorem cntN {x : Instance} (h : x.sz ≤ 1048576) : x.cnt ≤ 104857600 := by
  have := cntS_le_szS cntC x.cons
  unfold Instance.sz at h
  unfold Instance.cnt
  omega
theorem cntLine (l : List Line) : cntS Line.ecnt l = 4 * l.length := by
  induction l with
  | nil => rfl
  | cons x r ih => rw [cntS_cons, ih, List.length_cons]; unfold Line.ecnt Line.cnt; omega
theorem cntLit (l : List Literal) : cntS Literal.ecnt l = 2 * l.length := by
  induction l with
  | nil => rfl
  | cons x r ih => rw [cntS_cons, ih, List.length_cons]; unfold Literal.ecnt Literal.cnt; omega
theorem szq_two {left : Int} {n : Nat} (h0 : 0 ≤ left) (h1 : left ≤ 1048576) : ∃ z, szq left n = some z ∧ (decide (z < 0) = true ∨ (decide (z < 0) = false ∧ z = left - n ∧ (n : Int) ≤ left)) := by
  refine ⟨szR left n, szq_eq h0 h1, ?_⟩
  unfold szR
  split
  · exact .inr ⟨by simp; omega, rfl, by assumption⟩
  · exact .inl (by simp)
end Go.Proofs.YtfggmelojaicfaaGreat
