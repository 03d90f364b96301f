/-
  Plain laws: numbers that are sorted and each taken once; no-goods whose variables are different.
-/
import Derived.Test.YtfggmelojaicfaaGreatM1
import Derived.Lib.SlicesCompact
namespace Go.Proofs.YtfggmelojaicfaaGreat
set_option linter.unusedVariables false
set_option linter.unusedSimpArgs false
open Go.Lib Go.Sort

theorem nodup_rising (l : List Int) : (compactUpTo (l.mergeSort fun x y => decide (x ≤ y)).toArray l.length).length = l.length ↔ l.Nodup := by
  obtain ⟨s, hs⟩ : ∃ s, s = l.mergeSort fun x y => decide (x ≤ y) := ⟨_, rfl⟩
  have hlen : s.length = l.length := by rw [hs]; exact List.length_mergeSort _
  have hperm : s.Perm l := by rw [hs]; exact List.mergeSort_perm _ _
  have hsort : s.Pairwise (fun x y => decide (x ≤ y) = true) := by
    rw [hs]
    exact List.pairwise_mergeSort (fun a b c h1 h2 => by simp at *; omega) (fun a b => by simp; omega) l
  rw [← hs, ← hperm.nodup_iff, ← hlen]
  unfold compactUpTo
  rw [List.length_map]
  have hfl : ((List.range s.length).filter (keeps s.toArray)).length = s.length ↔ ∀ j, j < s.length → keeps s.toArray j = true := by
    have h1 : (List.range s.length).length = s.length := List.length_range
    constructor
    · intro h j hj
      have h2 : (List.range s.length).filter (keeps s.toArray) = List.range s.length := List.filter_eq_self.2 (List.length_filter_eq_length_iff.1 (by rw [h, h1]))
      exact List.filter_eq_self.1 h2 j (List.mem_range.2 hj)
    · intro h
      rw [List.filter_eq_self.2 (fun j hj => h j (List.mem_range.1 hj)), h1]
  rw [hfl, List.nodup_iff_pairwise_ne, List.pairwise_iff_getElem]
  have hle : ∀ i j (hi : i < s.length) (hj : j < s.length), i < j → s[i] ≤ s[j] := fun i j hi hj hij => by
    have := List.pairwise_iff_getElem.1 hsort i j hi hj hij
    simpa using this
  have hk : ∀ j (hj : j < s.length), keeps s.toArray j = true ↔ (j = 0 ∨ ∃ h : j - 1 < s.length, s[j] ≠ s[j - 1]) := fun j hj => by
    unfold keeps
    by_cases h0 : j = 0
    · simp [h0]
    · have hj1 : j - 1 < s.length := by omega
      have e1 : s.toArray[j]! = s[j] := by rw [getElem!_pos s.toArray j (by simpa using hj)]; simp
      have e2 : s.toArray[j - 1]! = s[j - 1] := by rw [getElem!_pos s.toArray (j - 1) (by simpa using hj1)]; simp
      simp [h0, e1, e2, hj1]
  constructor
  · intro h i j hi hj hij
    have h1 := (hk j hj).1 (h j hj)
    rcases h1 with h1 | ⟨hj1, hne⟩
    · omega
    · have h2 : s[j - 1] ≤ s[j] := hle (j - 1) j hj1 hj (by omega)
      by_cases hij2 : i = j - 1
      · subst hij2
        exact fun e => hne e.symm
      · have h3 : s[i] ≤ s[j - 1] := hle i (j - 1) hi hj1 (by omega)
        intro e
        have : s[j] = s[j - 1] := by omega
        exact hne this
  · intro h j hj
    refine (hk j hj).2 ?_
    by_cases h0 : j = 0
    · exact .inl h0
    · exact .inr ⟨by omega, fun e => h (j - 1) j (by omega) hj (by omega) e.symm⟩
end Go.Proofs.YtfggmelojaicfaaGreat
