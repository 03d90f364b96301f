/-
  Plain laws: texts cut at a byte, in both programs.
-/
import Derived.Test.YtbgkhipclkhlcaaGreatDoorMS
import Derived.Test.YtbgkhipclkhlcaaGreatDoorS5
import Derived.Lib.SplitLaws
namespace Go.Proofs.YtbgkhipclkhlcaaGreatDoor
set_option linter.unusedVariables false
set_option linter.unusedSimpArgs false

/-- A text cut at a byte. -/
def cutAt (c : UInt8) : List UInt8 → List (List UInt8)
  | [] => [[]]
  | b :: l => if b = c then [] :: cutAt c l else match cutAt c l with | [] => [[b]] | x :: r => (b :: x) :: r
/-- What has been read of the piece, then the rest. -/
def cutOn (c : UInt8) (cur l : List UInt8) : List (List UInt8) := match cutAt c l with | [] => [cur] | x :: r => (cur ++ x) :: r
theorem cutAt_ne (c : UInt8) : ∀ l, cutAt c l ≠ []
  | [] => by simp [cutAt]
  | b :: l => by
    unfold cutAt
    split
    · simp
    · split <;> simp
theorem cutOn_nil (c : UInt8) (l : List UInt8) : cutOn c [] l = cutAt c l := by
  unfold cutOn
  have := cutAt_ne c l
  split
  · contradiction
  · rename_i h; rw [h]; rfl
theorem cutOn_same (c : UInt8) (cur l : List UInt8) : cutOn c cur (c :: l) = cur :: cutAt c l := by
  unfold cutOn
  rw [cutAt, if_pos rfl]
  simp
theorem cutOn_other {c b : UInt8} (h : b ≠ c) (cur l : List UInt8) : cutOn c cur (b :: l) = cutOn c (cur ++ [b]) l := by
  unfold cutOn
  rw [cutAt, if_neg h]
  have := cutAt_ne c l
  cases hc : cutAt c l with
  | nil => contradiction
  | cons x r => simp
theorem splitK_eq (c : UInt8) : ∀ l : List UInt8, Lib.splitK [c] 0 (l.count c) l = cutAt c l
  | [] => rfl
  | b :: l => by
    have ih := splitK_eq c l
    by_cases h : b = c
    · subst h
      have hix : Lib.index (b :: l) [b] = 0 := by rw [Lib.index]; simp [List.isPrefixOf]
      rw [List.count_cons_self, Lib.splitK, hix, cutAt, if_pos rfl, ← ih]
      rfl
    · have hp : ([c] : List UInt8).isPrefixOf (b :: l) = false := by simp [List.isPrefixOf, Ne.symm h]
      have hix : Lib.index (b :: l) [c] = if Lib.index l [c] == -1 then -1 else Lib.index l [c] + 1 := by rw [Lib.index, hp]; simp
      rw [List.count_cons_of_ne (by simpa using h), cutAt, if_neg h, ← ih]
      cases hk : l.count c with
      | zero => rfl
      | succ k =>
        by_cases hm : Lib.index l [c] = -1
        · rw [Lib.splitK, Lib.splitK, hix]
          simp [hm]
        · have hge := Lib.index_ge l [c]
          obtain ⟨j, hj⟩ : ∃ j : Nat, Lib.index l [c] = j := ⟨(Lib.index l [c]).toNat, by omega⟩
          have h1 : ¬ (((j : Nat) : Int) == -1) = true := by simp
          have h2 : ¬ (((j : Nat) : Int) + 1 == -1) = true := by simp; omega
          rw [Lib.splitK, Lib.splitK, hix, hj, if_neg h1, if_neg h2, if_neg h1]
          have h3 : (((j : Nat) : Int) + 1).toNat = j + 1 := by omega
          rw [h3]
          simp
theorem countB_eq (c : UInt8) (l : List UInt8) : Lib.countB (bstr l) (bstr [c]) = l.count c := Lib.count_one c l
theorem splitB_eq (c : UInt8) (l : List UInt8) : Lib.splitB (bstr [c]) 0 (Lib.countB (bstr l) (bstr [c])) (bstr l) = (cutAt c l).map bstr := by
  have h := Lib.splitB_data (bstr [c]) 0 (Lib.countB (bstr l) (bstr [c])) (bstr l)
  rw [countB_eq] at h ⊢
  have e : Lib.splitK (bstr [c]).data.toList 0 (l.count c) (bstr l).data.toList = cutAt c l := splitK_eq c l
  rw [e] at h
  rw [← h, List.map_map]
  have : (bstr ∘ fun x : ByteArray => x.data.toList) = id := by
    funext x
    apply ByteArray.ext
    simp [bstr]
  rw [this, List.map_id]
theorem Split_eq {c : UInt8} {l : List UInt8} (h : l.length ≤ 1048576) : strings_Split (bstr l) (bstr [c]) = some ((cutAt c l).map bstr) := by
  unfold strings_Split
  have h1 : (bstr l).size = l.length := bstr_size l
  have h2 : Lib.countB (bstr l) (bstr [c]) ≤ l.length := by rw [countB_eq]; exact List.count_le_length
  rw [if_pos ⟨by omega, by rw [bstr_size]; exact Nat.le_refl 1, by omega⟩, splitB_eq]
/-- The reference's cutting. -/
theorem six_b {l : List UInt8} {k : Nat} {c : UInt8} (h : l[k]? = some c) : six (bstr l) (k : Int) = some c := by
  unfold six
  rw [if_pos (by omega)]
  simpa [bstr] using h
theorem ssl_b {l : List UInt8} {i j : Nat} (h : i ≤ j) (hj : j ≤ l.length) : ssl (bstr l) (i : Int) (j : Int) = some (bstr ((l.take j).drop i)) := by
  unfold ssl
  rw [if_pos ⟨by omega, by omega, by rw [bstr_size]; omega⟩]
  congr 1
  apply ByteArray.ext
  apply Array.ext'
  rw [ByteArray.data_extract]
  simp [bstr, List.drop_take]
theorem cutAt_len (c : UInt8) : ∀ l : List UInt8, (cutAt c l).length ≤ l.length + 1
  | [] => by simp [cutAt]
  | b :: l => by
    have := cutAt_len c l
    unfold cutAt
    split
    · rw [List.length_cons, List.length_cons]; omega
    · split
      · simp
      · rename_i h; rw [h] at this; simp only [List.length_cons] at this ⊢; omega
theorem split_loop (c : UInt8) (l : List UInt8) (hl : l.length ≤ 1048576) {ρ : Type} : ∀ (m k i : Nat) (out : List ByteArray), k + m = l.length → i ≤ k → out.length + m ≤ 1048576 →
    ∃ (out' : List ByteArray) (i' : Nat), forI (σ := (List ByteArray) × Int) (ρ := ρ) (fun (k61 : Nat) (s : (List ByteArray) × Int) =>
    match s with
    | (s47, s52) =>
    bnd (six (bstr l) (k61 : Int)) fun z67 =>
    if ((z67.toNat : Int) == (c.toNat : Int)) then
     bnd (ssl (bstr l) s52 (k61 : Int)) fun z70 =>
     bnd (ap s47 ([z70])) fun z78 =>
     bnd (ck ((k61 : Int) + 1)) fun z84 =>
     some (.go (z78, z84))
    else
     some (.go (s47, s52))) m k (out, (i : Int)) = some (.nx (out', (i' : Int))) ∧ i' ≤ l.length ∧ out'.length ≤ out.length + m ∧ out' ++ [bstr (l.drop i')] = out ++ (cutOn c ((l.take k).drop i) (l.drop k)).map bstr
  | 0, k, i, out, hk, hi, _ => by
    refine ⟨out, i, rfl, by omega, Nat.le_refl _, ?_⟩
    have : l.drop k = [] := List.drop_eq_nil_of_le (by omega)
    rw [this]
    unfold cutOn cutAt
    simp only [List.append_nil, List.map_cons, List.map_nil]
    rw [List.take_of_length_le (by omega)]
  | m + 1, k, i, out, hk, hi, ho => by
    have hkl : k < l.length := by omega
    have hg : l[k]? = some l[k] := List.getElem?_eq_getElem hkl
    have hd : l.drop k = l[k] :: l.drop (k + 1) := List.drop_eq_getElem_cons hkl
    by_cases hc : l[k] = c
    · obtain ⟨o', i', h1, h2, h3, h4⟩ := split_loop c l hl (ρ := ρ) m (k + 1) (k + 1) (out ++ [bstr ((l.take k).drop i)]) (by omega) (Nat.le_refl _) (by rw [List.length_append, List.length_singleton]; omega)
      refine ⟨o', i', ?_, h2, by rw [List.length_append, List.length_singleton] at h3; omega, ?_⟩
      · rw [forI_go (s' := (out ++ [bstr ((l.take k).drop i)], ((k + 1 : Nat) : Int))) (by
          simp only [six_b hg, bnd_s, hc, beq_self_eq_true, if_true]
          rw [ssl_b hi (by omega), bnd_s, ap_eq (by simp only [List.length_cons, List.length_nil]; omega), bnd_s, ck_eq (by omega) (by omega), bnd_s]
          rfl)]
        exact h1
      · rw [h4, hd, hc, cutOn_same]
        have : (l.take (k + 1)).drop (k + 1) = [] := List.drop_eq_nil_of_le (by rw [List.length_take]; omega)
        rw [this, cutOn_nil]
        simp
    · obtain ⟨o', i', h1, h2, h3, h4⟩ := split_loop c l hl (ρ := ρ) m (k + 1) i out (by omega) (by omega) (by omega)
      refine ⟨o', i', ?_, h2, by omega, ?_⟩
      · rw [forI_go (s' := (out, (i : Int))) (by
          have hne : ((l[k].toNat : Int) == (c.toNat : Int)) = false := by
            rw [beq_eq_false_iff_ne]
            intro h
            exact hc (UInt8.toNat_inj.1 (by omega))
          simp only [six_b hg, bnd_s, hne, Bool.false_eq_true, if_false])]
        exact h1
      · rw [h4, hd, cutOn_other hc]
        congr 3
        rw [List.take_add_one, hg]
        rw [List.drop_append_of_le_length (by rw [List.length_take]; omega)]
        rfl
theorem l01Split_eq {c : UInt8} {l : List UInt8} (h : l.length ≤ 1048576) : spec_l01Split (bstr l) c = some ((cutAt c l).map bstr) := by
  unfold spec_l01Split
  obtain ⟨o', i', h1, h2, h3, h4⟩ := split_loop c l (by omega) (ρ := List ByteArray) l.length 0 0 [] (by omega) (Nat.le_refl _) (by simp only [List.length_nil]; omega)
  have e : ((bstr l).size : Int).toNat = l.length := by rw [bstr_size]; simp
  rw [e]
  have h1' := h1
  rw [show ((0 : Nat) : Int) = 0 from rfl] at h1'
  rw [h1', thn_nx]
  have e2 : ((bstr l).size : Int) = (l.length : Int) := by rw [bstr_size]
  show (bnd (ssl (bstr l) (i' : Int) ((bstr l).size : Int)) fun z86 => bnd (ap o' [z86]) fun z94 => some z94) = _
  rw [e2, ssl_b h2 (Nat.le_refl _), bnd_s, List.take_length, ap_eq (by simp only [List.length_cons, List.length_nil] at h3 ⊢; omega), bnd_s, h4]
  simp [cutOn_nil]
end Go.Proofs.YtbgkhipclkhlcaaGreatDoor
