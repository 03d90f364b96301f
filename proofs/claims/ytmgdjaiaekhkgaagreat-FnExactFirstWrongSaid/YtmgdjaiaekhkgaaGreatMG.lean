/-
  How many numbers gadgets bear; a part of a law.
-/
import Derived.Test.YtmgdjaiaekhkgaaGreatM55
import Derived.Test.YtmgdjaiaekhkgaaGreatY
namespace Go.Proofs.YtmgdjaiaekhkgaaGreat
set_option linter.unusedVariables false
set_option linter.unusedSimpArgs false
theorem cntAt (a : Atom) : a.ecnt ≤ 10 * (1 + a.sz) := by
  have : cntS cI a.args ≤ a.sz := by rw [cntI]; unfold Atom.sz; omega
  unfold Atom.ecnt Atom.cnt
  omega
theorem cntFo (f : Formula) : f.ecnt ≤ 10 * (1 + f.sz) := by
  have := cntS_le_szS cntAt f.atoms
  unfold Formula.ecnt Formula.cnt Formula.sz
  omega
theorem cntGa {g : Gadgets} (h : g.sz ≤ 1048576) : g.cnt ≤ 104857600 := by
  have := cntS_le_szS cntFo g.formulas
  unfold Gadgets.sz at h
  unfold Gadgets.cnt
  omega
theorem szq_two {left : Int} {n : Nat} (h0 : 0 ≤ left) (h1 : left ≤ 1048576) : ∃ z, szq left n = some z ∧ (decide (z < 0) = true ∨ (decide (z < 0) = false ∧ z = left - n ∧ (n : Int) ≤ left)) := by
  refine ⟨szR left n, szq_eq h0 h1, ?_⟩
  unfold szR
  split
  · exact .inr ⟨by simp; omega, rfl, by assumption⟩
  · exact .inl (by simp)
theorem wrongR_len {t u : Template} {g : Gadgets} (ht : smallT t) (hu : smallT u) : (wrongR t u g).2.1.length ≤ 4 := by
  unfold wrongR
  split
  · rename_i h
    have hG := gadF_GV ht hu h
    cases hq : fnd (wrongQ t.size.toNat t u) g.formulas 0 with
    | none => simp
    | some r =>
      obtain ⟨j, f, hj, hw⟩ := fnd_some hq
      rw [Nat.zero_add] at hw
      have hf := (hG.f j f hj).1.f0
      unfold wrongQ at hw
      split at hw
      · cases hw
      · rename_i d ds hd
        obtain rfl := Option.some.inj hw
        have hdm : d ∈ wrongL t.size.toNat t u j f := by rw [hd]; simp
        have := (enum_mem.1 (List.mem_filter.1 hdm).1).1
        simp only
        omega
  · simp
end Go.Proofs.YtmgdjaiaekhkgaaGreat
