/-
  Plain laws: decimal numerals and texts, in both programs.
-/
import Derived.Test.YtjjdbdlbjdoebaaDoorS1
import Derived.Test.YtjjdbdlbjdoebaaDoorM1
namespace Go.Proofs.YtjjdbdlbjdoebaaDoor
set_option linter.unusedVariables false
set_option linter.unusedSimpArgs false

theorem bstr_size (l : List UInt8) : (bstr l).size = l.length := by simp [bstr, ByteArray.size]
theorem bstr_app (a b : List UInt8) : bstr a ++ bstr b = bstr (a ++ b) := by
  apply ByteArray.ext
  simp [bstr]
theorem scat_b {a b : List UInt8} (h : a.length + b.length ≤ 9223372036854775807) : scat (bstr a) (bstr b) = some (bstr (a ++ b)) := by
  unfold scat
  rw [bstr_size, bstr_size, if_pos h, bstr_app]
theorem u8w_digit (k : Nat) (h : k < 10) : u8w (48 + (k : Int)) = UInt8.ofNat (48 + k) := by
  unfold u8w
  congr 1
  omega
theorem digits_len (n : Nat) (h : n ≤ 9223372036854775807) : (Lib.decDigits n).length ≤ 21 := by
  have := Lib.itoa_length_le (n : Int) (by omega) (by omega)
  rwa [Lib.itoa_nonneg] at this
theorem Decimal_eq : ∀ (N n : Nat), n ≤ 9223372036854775807 → n < 10 ^ N → 1 ≤ N → spec_Decimal N (n : Int) = some (bstr (Lib.decDigits n))
  | 0, _, _, _, h => absurd h (by omega)
  | N + 1, n, h1, h2, _ => by
    unfold spec_Decimal
    by_cases h : 10 ≤ n
    · have hN : 1 ≤ N := by
        rcases N with _ | N
        · simp at h2; omega
        · omega
      have hd : dv (n : Int) 10 = some ((n / 10 : Nat) : Int) := by
        unfold dv
        rw [if_neg (by decide), show (n : Int).tdiv 10 = ((n / 10 : Nat) : Int) from rfl]
        exact ck_eq (by omega) (by omega)
      have hr : rm (n : Int) 10 = some ((n % 10 : Nat) : Int) := by
        unfold rm
        rw [if_neg (by decide)]
        exact congrArg some (Int.ofNat_tmod n 10)
      have hl := digits_len (n / 10) (by omega)
      rw [if_pos (by simpa using (show (10 : Int) ≤ (n : Int) by omega)), hd, bnd_s, hr, bnd_s, ck_eq (by omega) (by omega), bnd_s, Decimal_eq N (n / 10) (by omega) (by rw [Nat.pow_succ] at h2; omega) hN, bnd_s, u8w_digit _ (by omega),
        scat_b (by simp only [List.length_cons, List.length_nil]; omega), bnd_s]
      conv => rhs; rw [Lib.decDigits, dif_neg (by omega)]
    · rw [if_neg (by simpa using (show ¬ (10 : Int) ≤ (n : Int) by omega)), ck_eq (by omega) (by omega), bnd_s, u8w_digit _ (by omega), Lib.decDigits_one (by omega)]
/-- A number's numeral, as the texts here bear it. -/
def num (n : Int) : List UInt8 := Lib.decDigits n.toNat
theorem num_len {n : Int} (h : n ≤ 9223372036854775807) : (num n).length ≤ 21 := digits_len _ (by omega)
theorem Decimal_num {N : Nat} {n : Int} (hN : 20 ≤ N) (h0 : 0 ≤ n) (h1 : n ≤ 9223372036854775807) : spec_Decimal N n = some (bstr (num n)) := by
  obtain ⟨m, rfl⟩ : ∃ m : Nat, n = m := ⟨n.toNat, by omega⟩
  exact Decimal_eq N m (by omega) (Nat.lt_of_lt_of_le (show m < 10 ^ 20 by omega) (Nat.pow_le_pow_right (by decide) hN)) (by omega)
theorem dec_num {n : Int} (h0 : 0 ≤ n) : impl_dec n = some (bstr (num n)) := by
  unfold impl_dec strconv_FormatInt
  rw [if_pos rfl, bnd_s]
  have : Lib.itoa n = num n := by
    unfold Lib.itoa num
    rw [if_neg (by omega)]
  rw [this]
  rfl
theorem sEq_self (a : ByteArray) : sEq a a = true := by simp [sEq]
theorem within_b (a b c : Int) : impl_within a b c = some (decide (b ≤ a) && decide (a ≤ c)) := by
  unfold impl_within
  by_cases h : b ≤ a <;> simp [h]
theorem in_b (a b c : Int) : spec_l00In a b c = some (decide (b ≤ a) && decide (a ≤ c)) := by
  unfold spec_l00In
  by_cases h : b ≤ a <;> simp [h]
theorem contains_b (l : List Int) (p : Int → Bool) (f : Int → Option Bool) (hf : ∀ x ∈ l, f x = some (p x)) : slices_ContainsFunc_s_int64_int64 l f = some (l.any p) := by
  obtain ⟨i, h1, h2⟩ := forL_idx l p f hf
  have h3 : slices_IndexFunc_s_int64_int64 l f = some i := h1
  unfold slices_ContainsFunc_s_int64_int64
  rw [h3, bnd_s, h2]
theorem any_not' {α : Type} (l : List α) (p : α → Bool) : (l.any fun a => !p a) = !(l.all p) := by rw [List.all_eq_not_any_not, Bool.not_not]
theorem areValues_b (T : Int) (l : List Int) (n : Int) (hT : 1 ≤ T ∧ T ≤ 1000000) : impl_areValues T l n = some (decide ((l.length : Int) = n) && l.all fun x => decide (0 ≤ x) && decide (x ≤ T - 1)) := by
  unfold impl_areValues
  have h : ∀ x : Int, impl_areValues_1 x T = some (!(decide (0 ≤ x) && decide (x ≤ T - 1))) := fun x => by
    unfold impl_areValues_1 impl_isValue
    rw [ck_eq (by omega) (by omega), bnd_s, within_b, bnd_s, bnd_s]
  by_cases hl : (l.length : Int) = n
  · rw [if_pos (by simpa using hl), contains_b l (fun x => !(decide (0 ≤ x) && decide (x ≤ T - 1))) _ (fun x _ => h x), bnd_s, thn_nx, any_not', Bool.not_not]
    simp [hl]
  · rw [if_neg (by simpa using hl), thn_nx]
    simp [hl]
end Go.Proofs.YtjjdbdlbjdoebaaDoor
