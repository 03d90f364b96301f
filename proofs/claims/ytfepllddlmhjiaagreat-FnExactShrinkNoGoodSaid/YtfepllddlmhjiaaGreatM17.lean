/-
  Plain laws: a no-good made smaller.
-/
import Derived.Test.YtfepllddlmhjiaaGreatM14
import Derived.Test.YtfepllddlmhjiaaGreatS4e
namespace Go.Proofs.YtfepllddlmhjiaaGreat
set_option linter.unusedVariables false
set_option linter.unusedSimpArgs false

theorem cloneLt_eq (c : List Literal) (h : c.length ≤ 1048576) : slices_Clone_s_Literal_Literal c = some c := by
  unfold slices_Clone_s_Literal_Literal
  rw [ap_eq (by simp only [List.length_nil]; omega)]
  rfl
theorem ShrinkNoGood_two {N : Nat} {x : Template} {y : Instance} (l : List Literal) (b : Int) (hx : smallT x) (hl : l.length ≤ 1048576) (hN : 1100000 ≤ N) : ∃ r c, impl_ShrinkNoGood N x y l b = some (r, c) ∧ spec_ShrinkNoGood N x y l b = some (r, c) ∧ r.length ≤ 1048576 := by
  obtain ⟨g, c, h1, h2, h3⟩ := IsNoGood_two (N := N) (y := y) (by omega) l b hx
  unfold impl_ShrinkNoGood spec_ShrinkNoGood
  rw [show (Template.mk x.size x.rels) = x from rfl, show (Instance.mk y.vars y.cons) = y from rfl, h1, h2, bnd_s, bnd_s]
  by_cases hc : c = 0
  · subst hc
    obtain ⟨hs, a2, a3, a5, a6, a7, ha⟩ := h3 rfl
    have e0 : ((0 : Int) != 0) = false := rfl
    simp only [e0, Bool.false_eq_true, if_false]
    cases g with
    | false => exact ⟨_, _, rfl, rfl, by simp⟩
    | true =>
      have hap : ap ([] : List Literal) l = some l := by rw [ap_eq (by simp only [List.length_nil]; omega)]; rfl
      simp only [Bool.not_true, Bool.false_eq_true, if_false, cloneLt_eq l hl, hap, bnd_s]
      have key : Two _ _ (fun (r r' : List Literal × Int) => r = r' ∧ r.1.length ≤ 1048576) := Two.thn (k := fun (s : List Literal × Int) => some (s.1, (0 : Int))) (k' := fun (s : List Literal × Int) => some (s.1, (0 : Int))) (fun t t' => t = t' ∧ t.1.length ≤ 1048576) (fun (r r' : List Literal × Int) => r = r' ∧ r.1.length ≤ 1048576)
        (Two.whl (N := N) (ρ := List Literal × Int) (ρ' := List Literal × Int) (f := fun (s : (List Literal) × Int) =>
      match s with
      | (s114, s119) =>
      if (decide (s119 < (s114.length : Int))) then
       bnd (slices_Clone_s_Literal_Literal s114) fun z140 =>
       bnd (ck (s119 + 1)) fun z154 =>
       bnd (slices_Delete_s_Literal_Literal z140 s119 z154) fun z156 =>
       bnd (impl_isNoGood N x y z156 b) fun z178 =>
       if (z178.2 != 0) then
        some (.ret ([], z178.2))
       else
        if z178.1 then
         some (.go (z156, s119))
        else
         some (.go (s114, z154))
      else
       some (.brk (s114, s119))) (g := fun (s : (List Literal) × Int) =>
      match s with
      | (s155, s160) =>
      if (decide (s160 < (s155.length : Int))) then
       bnd (sl s155 0 s160) fun z181 =>
       bnd (ck (s160 + 1)) fun z187 =>
       bnd (sl s155 z187 (s155.length : Int)) fun z189 =>
       bnd (ap ([]) z181) fun z208 =>
       bnd (ap z208 z189) fun z223 =>
       bnd (spec_l08Bad N x y z223 b) fun z237 =>
       if (z237.2 != 0) then
        some (.ret ([], z237.2))
       else
        if z237.1 then
         some (.go (z223, s160))
        else
         some (.go (s155, z187))
      else
       some (.brk (s155, s160))) (s := (l, 0)) (s' := (l, 0)) (fun s s' => s = s' ∧ 0 ≤ s.2 ∧ s.1.length ≤ 1048576 ∧ s.1.all (litB x y) = true) (fun t t' => t = t' ∧ t.1.length ≤ 1048576) (fun r r' => r = r' ∧ r.1.length ≤ 1048576) (fun s => s.1.length - s.2.toNat) (by simp only; omega) ⟨rfl, Int.le_refl _, hl, ha⟩ (fun s s' hR => ?_)) (fun t t' h => ⟨_, _, rfl, rfl, by rw [h.1], h.2⟩) (fun r r' h => h)
      · obtain ⟨r, r', k1, k2, rfl, k4⟩ := key
        exact ⟨r.1, r.2, k1, k2, k4⟩
      · obtain ⟨left, i⟩ := s
        obtain ⟨rfl, hi, hll, hla⟩ := hR
        simp only at hi hll hla ⊢
        by_cases hlt : i < (left.length : Int)
        · obtain ⟨k, rfl⟩ : ∃ k : Nat, i = k := ⟨i.toNat, by omega⟩
          obtain ⟨less, hless⟩ : ∃ q, q = left.take k ++ left.drop (k + 1) := ⟨_, rfl⟩
          have hle : less.length + 1 = left.length := by rw [hless]; simp; omega
          have hck : ck ((k : Int) + 1) = some ((k : Int) + 1) := ck_eq (by omega) (by omega)
          have hdel : slices_Delete_s_Literal_Literal left (k : Int) ((k : Int) + 1) = some less := by
            unfold slices_Delete_s_Literal_Literal
            rw [if_pos ⟨by omega, by omega, by omega⟩, hless, Int.toNat_natCast, show ((k : Int) + 1).toNat = k + 1 by omega]
          have hs1 : sl left 0 (k : Int) = some (left.take k) := by
            unfold sl
            rw [if_pos ⟨by omega, by omega, by omega⟩]
            simp
          have hs2 : sl left ((k : Int) + 1) (left.length : Int) = some (left.drop (k + 1)) := by
            unfold sl
            rw [if_pos ⟨by omega, by omega, by omega⟩, show ((k : Int) + 1).toNat = k + 1 by omega]
            simp
          have hap1 : ap ([] : List Literal) (left.take k) = some (left.take k) := by rw [ap_eq (by simp; omega)]; rfl
          have hap2 : ap (left.take k) (left.drop (k + 1)) = some less := by rw [ap_eq (by simp; omega), hless]
          have hal : less.all (litB x y) = true := by
            rw [List.all_eq_true] at hla ⊢
            intro q hq
            rw [hless] at hq
            rcases List.mem_append.1 hq with h | h
            · exact hla q (List.mem_of_mem_take h)
            · exact hla q (List.mem_of_mem_drop h)
          obtain ⟨r, c, r1, r2⟩ := bad_two (N := N) (by omega) (b := b) hs a2 a3 a5 a6 a7 hal
          have hd : decide ((k : Int) < (left.length : Int)) = true := by simpa using hlt
          simp only [hd, if_true, cloneLt_eq left hll, bnd_s, hck, hdel, r1, hs1, hs2, hap1, hap2, r2]
          by_cases hc : c = 0
          · subst hc
            simp only [e0, Bool.false_eq_true, if_false]
            cases r with
            | true => exact ⟨_, _, rfl, rfl, ⟨rfl, hi, by show less.length ≤ 1048576; omega, hal⟩, by simp only [Int.toNat_natCast]; omega⟩
            | false => exact ⟨_, _, rfl, rfl, ⟨rfl, by show (0 : Int) ≤ (k : Int) + 1; omega, hll, hla⟩, by simp only [Int.toNat_natCast]; omega⟩
          · have e1 : (c != 0) = true := by simpa using hc
            simp only [e1, if_true]
            exact ⟨_, _, rfl, rfl, rfl, by simp⟩
        · have hd : decide (i < (left.length : Int)) = false := by simpa using hlt
          simp only [hd, Bool.false_eq_true, if_false]
          exact ⟨_, _, rfl, rfl, rfl, hll⟩
  · have e1 : (c != 0) = true := by simpa using hc
    simp only [e1, if_true]
    exact ⟨_, _, rfl, rfl, by simp⟩
end Go.Proofs.YtfepllddlmhjiaaGreat
