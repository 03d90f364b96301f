/-
  Plain law: what a law reckons of its arguments' size.
-/
import Derived.Test.YtjjdbdlbjdoebaaDoorY
namespace Go.Proofs.YtjjdbdlbjdoebaaDoor

theorem szq_two {left : Int} {n : Nat} (h0 : 0 ≤ left) (h1 : left ≤ 1048576) : ∃ z, szq left n = some z ∧ (decide (z < 0) = true ∨ (decide (z < 0) = false ∧ z = left - n ∧ (n : Int) ≤ left)) := by
  refine ⟨szR left n, szq_eq h0 h1, ?_⟩
  unfold szR
  split
  · exact .inr ⟨by simp; omega, rfl, by assumption⟩
  · exact .inl (by simp)
end Go.Proofs.YtjjdbdlbjdoebaaDoor
