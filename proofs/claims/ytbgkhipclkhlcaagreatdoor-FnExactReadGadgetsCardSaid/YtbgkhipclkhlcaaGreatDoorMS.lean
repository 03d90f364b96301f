/-
  Plain laws: decimal numerals and texts, in both programs.
-/
import Derived.Test.YtbgkhipclkhlcaaGreatDoorS1
import Derived.Test.YtbgkhipclkhlcaaGreatDoorM1
import Derived.Laws.Strings
namespace Go.Proofs.YtbgkhipclkhlcaaGreatDoor
set_option linter.unusedVariables false
set_option linter.unusedSimpArgs false

theorem bstr_size (l : List UInt8) : (bstr l).size = l.length := by simp [bstr, ByteArray.size]
theorem bstr_app (a b : List UInt8) : bstr a ++ bstr b = bstr (a ++ b) := by
  apply ByteArray.ext
  simp [bstr]
theorem scat_b {a b : List UInt8} (h : a.length + b.length ≤ 9223372036854775807) : scat (bstr a) (bstr b) = some (bstr (a ++ b)) := by
  unfold scat
  rw [bstr_size, bstr_size, if_pos h, bstr_app]
theorem u8w_digit (k : Nat) (h : k < 10) : u8w (48 + (k : Int)) = UInt8.ofNat (48 + k) := by
  unfold u8w
  congr 1
  omega
theorem digits_len (n : Nat) (h : n ≤ 9223372036854775807) : (Lib.decDigits n).length ≤ 21 := by
  have := Lib.itoa_length_le (n : Int) (by omega) (by omega)
  rwa [Lib.itoa_nonneg] at this
theorem Decimal_eq : ∀ (N n : Nat), n ≤ 9223372036854775807 → n < 10 ^ N → 1 ≤ N → spec_Decimal N (n : Int) = some (bstr (Lib.decDigits n))
  | 0, _, _, _, h => absurd h (by omega)
  | N + 1, n, h1, h2, _ => by
    unfold spec_Decimal
    by_cases h : 10 ≤ n
    · have hN : 1 ≤ N := by
        rcases N with _ | N
        · simp at h2; omega
        · omega
      have hd : dv (n : Int) 10 = some ((n / 10 : Nat) : Int) := by
        unfold dv
        rw [if_neg (by decide), show (n : Int).tdiv 10 = ((n / 10 : Nat) : Int) from rfl]
        exact ck_eq (by omega) (by omega)
      have hr : rm (n : Int) 10 = some ((n % 10 : Nat) : Int) := by
        unfold rm
        rw [if_neg (by decide)]
        exact congrArg some (Int.ofNat_tmod n 10)
      have hl := digits_len (n / 10) (by omega)
      rw [if_pos (by simpa using (show (10 : Int) ≤ (n : Int) by omega)), hd, bnd_s, hr, bnd_s, ck_eq (by omega) (by omega), bnd_s, Decimal_eq N (n / 10) (by omega) (by rw [Nat.pow_succ] at h2; omega) hN, bnd_s, u8w_digit _ (by omega),
        scat_b (by simp only [List.length_cons, List.length_nil]; omega), bnd_s]
      conv => rhs; rw [Lib.decDigits, dif_neg (by omega)]
    · rw [if_neg (by simpa using (show ¬ (10 : Int) ≤ (n : Int) by omega)), ck_eq (by omega) (by omega), bnd_s, u8w_digit _ (by omega), Lib.decDigits_one (by omega)]
/-- A number's numeral, as the texts here bear it. -/
def num (n : Int) : List UInt8 := Lib.decDigits n.toNat
theorem num_len {n : Int} (h : n ≤ 9223372036854775807) : (num n).length ≤ 21 := digits_len _ (by omega)
theorem Decimal_num {N : Nat} {n : Int} (hN : 20 ≤ N) (h0 : 0 ≤ n) (h1 : n ≤ 9223372036854775807) : spec_Decimal N n = some (bstr (num n)) := by
  obtain ⟨m, rfl⟩ : ∃ m : Nat, n = m := ⟨n.toNat, by omega⟩
  exact Decimal_eq N m (by omega) (Nat.lt_of_lt_of_le (show m < 10 ^ 20 by omega) (Nat.pow_le_pow_right (by decide) hN)) (by omega)
theorem dec_num {n : Int} (h0 : 0 ≤ n) : impl_dec n = some (bstr (num n)) := by
  unfold impl_dec strconv_FormatInt
  rw [if_pos rfl, bnd_s]
  have : Lib.itoa n = num n := by
    unfold Lib.itoa num
    rw [if_neg (by omega)]
  rw [this]
  rfl
theorem sEq_self (a : ByteArray) : sEq a a = true := by simp [sEq]
theorem within_b (a b c : Int) : impl_within a b c = some (decide (b ≤ a) && decide (a ≤ c)) := by
  unfold impl_within
  by_cases h : b ≤ a <;> simp [h]
theorem in_b (a b c : Int) : spec_l00In a b c = some (decide (b ≤ a) && decide (a ≤ c)) := by
  unfold spec_l00In
  by_cases h : b ≤ a <;> simp [h]
theorem contains_b (l : List Int) (p : Int → Bool) (f : Int → Option Bool) (hf : ∀ x ∈ l, f x = some (p x)) : slices_ContainsFunc_s_int64_int64 l f = some (l.any p) := by
  obtain ⟨i, h1, h2⟩ := forL_idx l p f hf
  have h3 : slices_IndexFunc_s_int64_int64 l f = some i := h1
  unfold slices_ContainsFunc_s_int64_int64
  rw [h3, bnd_s, h2]
theorem any_not' {α : Type} (l : List α) (p : α → Bool) : (l.any fun a => !p a) = !(l.all p) := by rw [List.all_eq_not_any_not, Bool.not_not]
theorem areValues_b (T : Int) (l : List Int) (n : Int) (hT : 1 ≤ T ∧ T ≤ 1000000) : impl_areValues T l n = some (decide ((l.length : Int) = n) && l.all fun x => decide (0 ≤ x) && decide (x ≤ T - 1)) := by
  unfold impl_areValues
  have h : ∀ x : Int, impl_areValues_1 x T = some (!(decide (0 ≤ x) && decide (x ≤ T - 1))) := fun x => by
    unfold impl_areValues_1 impl_isValue
    rw [ck_eq (by omega) (by omega), bnd_s, within_b, bnd_s, bnd_s]
  by_cases hl : (l.length : Int) = n
  · rw [if_pos (by simpa using hl), contains_b l (fun x => !(decide (0 ≤ x) && decide (x ≤ T - 1))) _ (fun x _ => h x), bnd_s, thn_nx, any_not', Bool.not_not]
    simp [hl]
  · rw [if_neg (by simpa using hl), thn_nx]
    simp [hl]
theorem sEq_b (a b : List UInt8) : sEq (bstr a) (bstr b) = (a == b) := by
  unfold sEq
  rw [ByteArray.toList_eq, ByteArray.toList_eq]
  rfl
/-- A loop that writes a text for each. -/
theorem forL_text {α ρ : Type} (t : α → List UInt8) (B M : Nat) {b : Nat → α → ByteArray → Option (Ctl ByteArray ρ)} : ∀ {l : List α} {k : Nat} {s : List UInt8}, (∀ x ∈ l, (t x).length ≤ B) → s.length + B * l.length ≤ M → (∀ j x s, x ∈ l → s.length + B ≤ M → b j x (bstr s) = some (.go (bstr (s ++ t x)))) → forL b l k (bstr s) = some (.nx (bstr (s ++ (l.map t).flatten)))
  | [], _, s, _, _, _ => by simp
  | x :: l, k, s, h1, h2, h3 => by
    rw [List.length_cons, Nat.mul_add, Nat.mul_one] at h2
    have hx := h1 x (by simp)
    rw [forL_go (h3 k x s (by simp) (by omega)), forL_text t B M (l := l) (k := k + 1) (s := s ++ t x) (fun y hy => h1 y (by simp [hy])) (by rw [List.length_append]; omega) (fun j y s hy hs => h3 j y s (by simp [hy]) hs)]
    simp
/-- A loop that lists a text for each. -/
theorem forL_texts {α ρ : Type} (t : α → List UInt8) {b : Nat → α → List ByteArray → Option (Ctl (List ByteArray) ρ)} : ∀ {l : List α} {k : Nat} {s : List ByteArray}, s.length + l.length ≤ 1048576 → (∀ j x s, x ∈ l → s.length ≤ 1048575 → b j x s = some (.go (s ++ [bstr (t x)]))) → forL b l k s = some (.nx (s ++ l.map fun x => bstr (t x)))
  | [], _, s, _, _ => by simp
  | x :: l, k, s, h2, h3 => by
    rw [List.length_cons] at h2
    rw [forL_go (h3 k x s (by simp) (by omega)), forL_texts t (l := l) (k := k + 1) (s := s ++ [bstr (t x)]) (by rw [List.length_append, List.length_singleton]; omega) (fun j y s hy hs => h3 j y s (by simp [hy]) hs)]
    simp
theorem flat_len {α : Type} (t : α → List UInt8) (B : Nat) : ∀ l : List α, (∀ x ∈ l, (t x).length ≤ B) → ((l.map t).flatten).length ≤ B * l.length
  | [], _ => by simp
  | x :: l, h => by
    have h1 := h x (by simp)
    have h2 := flat_len t B l (fun y hy => h y (by simp [hy]))
    rw [List.map_cons, List.flatten_cons, List.length_append, List.length_cons, Nat.mul_add]
    omega
theorem Join_b (x : List UInt8) (l : List (List UInt8)) (sep : List UInt8) (B : Nat) (h : ∀ y ∈ l, y.length ≤ B) (hb : x.length + (B + sep.length) * l.length ≤ 140737488355328) (hl : l.length ≤ 1048576) : strings_Join (bstr x :: l.map bstr) (bstr sep) = some (bstr (x ++ (l.map fun y => sep ++ y).flatten)) := by
  have e : joinL (bstr x :: l.map bstr) (bstr sep) = x ++ (l.map fun y => sep ++ y).flatten := by
    unfold joinL
    rw [List.map_cons, List.map_map, Lib.join_cons]
    unfold Lib.joinTail
    rw [List.map_map]
    rfl
  unfold strings_Join
  rw [e]
  have h2 := flat_len (fun y => sep ++ y) (B + sep.length) l (fun y hy => by have := h y hy; rw [List.length_append]; omega)
  rw [if_pos ⟨by rw [List.length_cons, List.length_map]; omega, by rw [List.length_append]; omega⟩]
  rfl
end Go.Proofs.YtbgkhipclkhlcaaGreatDoor
