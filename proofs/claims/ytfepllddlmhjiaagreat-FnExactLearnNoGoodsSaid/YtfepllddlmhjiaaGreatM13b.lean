/-
  Plain laws: searches, refutations.
-/
import Derived.Test.YtfepllddlmhjiaaGreatM13
import Derived.Test.YtfepllddlmhjiaaGreatS3b
namespace Go.Proofs.YtfepllddlmhjiaaGreat
set_option linter.unusedVariables false
set_option linter.unusedSimpArgs false

theorem SearchFor_two {N : Nat} (hN : 5100 ≤ N) {x : Template} {y : Instance} (b : Int) (hx : smallT x) : ∃ l s c, impl_SearchFor N x y b = some (l, s, c) ∧ spec_SearchFor N x y b = some (l, s, c) ∧ l.length ≤ 10 := by
  obtain ⟨c, h1, h2, h3⟩ := budget_two x y b hx
  unfold impl_SearchFor spec_SearchFor
  rw [show (Template.mk x.size x.rels) = x from rfl, show (Instance.mk y.vars y.cons) = y from rfl, h1, h2, bnd_s, bnd_s]
  by_cases hc : c = 0
  · subst hc
    obtain ⟨a1, a2, a3, a4, a5, a6, a7⟩ := h3 rfl
    obtain ⟨D, d1, d2, d3⟩ := full_two (y := y) (tempB_spec hx a1).1 a2 a3
    obtain ⟨st, ln, vl, cd, d, d', ov, e1, e2, e3, e4, e5, e6, e7⟩ := run_two hN (by omega) a5 d3 a6 a7
    rw [if_neg (by simp), if_neg (by simp), d1, d2, bnd_s, bnd_s, e1, e2, bnd_s, bnd_s]
    simp only
    rcases e3 with rfl | ⟨rfl, rfl⟩ | rfl
    · exact ⟨_, _, _, rfl, rfl, e4⟩
    · exact ⟨_, _, _, rfl, rfl, e4⟩
    · exact ⟨_, _, _, rfl, rfl, by simp⟩
  · rw [if_pos (by simpa using hc), if_pos (by simpa using hc)]
    exact ⟨_, _, _, rfl, rfl, by simp⟩
theorem RefuteInstance_bal {N : Nat} (hN : 5100 ≤ N) {x : Template} {y : Instance} (b : Int) (hx : smallT x) : ∃ l c, impl_RefuteInstance N x y b = some (l, c) ∧ spec_RefuteInstance N x y b = some (l, c) ∧ l.length ≤ 4000 ∧ (c = 0 → ∃ seg i, Bal seg ∧ l = seg ++ [Line.mk 3 i 0 0]) := by
  obtain ⟨c, h1, h2, h3⟩ := budget_two x y b hx
  unfold impl_RefuteInstance spec_RefuteInstance spec_l08Refute
  rw [show (Template.mk x.size x.rels) = x from rfl, show (Instance.mk y.vars y.cons) = y from rfl, h1, h2, bnd_s, bnd_s]
  by_cases hc : c = 0
  · subst hc
    obtain ⟨a1, a2, a3, a4, a5, a6, a7⟩ := h3 rfl
    obtain ⟨D, d1, d2, d3⟩ := full_two (y := y) (tempB_spec hx a1).1 a2 a3
    obtain ⟨st, ln, vl, cd, d, d', ov, e1, e2, e3, e4, e5, e6, e7, e8⟩ := run_bal hN (by omega) a5 d3 a6 a7
    rw [if_neg (by simp), if_neg (by simp), d1, d2, bnd_s, bnd_s, e1, e2, bnd_s, bnd_s]
    simp only
    rcases e3 with rfl | ⟨rfl, rfl⟩ | rfl
    · exact ⟨_, _, rfl, rfl, by simp, fun h => by omega⟩
    · by_cases hl : 4000 < (ln.length : Int)
      · have : decide (4000 < (ln.length : Int)) = true := by simpa using hl
        rw [this]
        exact ⟨_, _, rfl, rfl, by simp, fun h => by omega⟩
      · have : decide (4000 < (ln.length : Int)) = false := by simpa using hl
        rw [this]
        exact ⟨_, _, rfl, rfl, by omega, fun _ => e8 rfl⟩
    · exact ⟨_, _, rfl, rfl, by simp, fun h => by omega⟩
  · rw [if_pos (by simpa using hc), if_pos (by simpa using hc)]
    exact ⟨_, _, rfl, rfl, by simp, fun h => absurd h hc⟩
theorem RefuteInstance_two {N : Nat} (hN : 5100 ≤ N) {x : Template} {y : Instance} (b : Int) (hx : smallT x) : ∃ l c, impl_RefuteInstance N x y b = some (l, c) ∧ spec_RefuteInstance N x y b = some (l, c) ∧ l.length ≤ 4000 := by
  obtain ⟨l, c, h1, h2, h3, _⟩ := RefuteInstance_bal hN (y := y) b hx
  exact ⟨l, c, h1, h2, h3⟩
end Go.Proofs.YtfepllddlmhjiaaGreat
