/-
  Plain laws: numbers read by the program; numerals; texts cut and joined.
-/
import Derived.Test.YtbgkhipclkhlcaaGreatDoorMN
namespace Go.Proofs.YtbgkhipclkhlcaaGreatDoor
set_option linter.unusedVariables false
set_option linter.unusedSimpArgs false

theorem parseM (M : Nat) (hM : 1000000000 ≤ M) : ∀ (l : List UInt8) (acc k : Nat), l.all dig = true → acc < 10 ^ k → k + l.length ≤ 9 → Lib.parseUintM M acc l = .ok (dval acc l)
  | [], acc, k, _, _, _ => rfl
  | c :: l, acc, k, h, ha, hk => by
    simp only [List.all_cons, Bool.and_eq_true] at h
    have hd := h.1
    unfold dig at hd
    simp only [Bool.and_eq_true, decide_eq_true_eq] at hd
    rw [List.length_cons] at hk
    have h1 : 10 ^ (k + 1) ≤ 10 ^ 9 := Nat.pow_le_pow_right (by decide) (by omega)
    rw [Nat.pow_succ] at h1
    unfold Lib.parseUintM
    rw [if_pos hd, if_neg (by omega), if_neg (by omega), parseM M hM l _ (k + 1) h.2 (by rw [Nat.pow_succ]; omega) (by omega)]
    rfl
theorem dval_lt : ∀ (l : List UInt8) (acc k : Nat), l.all dig = true → acc < 10 ^ k → dval acc l < 10 ^ (k + l.length)
  | [], acc, k, _, ha => ha
  | c :: l, acc, k, h, ha => by
    simp only [List.all_cons, Bool.and_eq_true] at h
    have hd := h.1
    unfold dig at hd
    simp only [Bool.and_eq_true, decide_eq_true_eq] at hd
    have := dval_lt l (acc * 10 + (c.toNat - 48)) (k + 1) h.2 (by rw [Nat.pow_succ]; omega)
    rw [List.length_cons, show k + (l.length + 1) = k + 1 + l.length by omega]
    exact this
theorem parse_num {l : List UInt8} (h : isNum l = true) (hl : l.length ≤ 9) : Lib.parseIntB 64 l = .ok ((dval 0 l : Nat) : Int) := by
  have h0 := h
  unfold isNum at h
  simp only [Bool.and_eq_true] at h
  have hall := h.1.2
  cases l with
  | nil => simp at h
  | cons c r =>
    have hd : dig c = true := by simp only [List.all_cons, Bool.and_eq_true] at hall; exact hall.1
    unfold dig at hd
    simp only [Bool.and_eq_true, decide_eq_true_eq] at hd
    have hv := dval_lt (c :: r) 0 0 hall (by decide)
    have hp : 10 ^ (0 + (c :: r).length) ≤ 10 ^ 9 := Nat.pow_le_pow_right (by decide) (by omega)
    rw [Lib.parseIntB_plain 64 c r (by omega) (by omega)]
    unfold Lib.parseUintB
    rw [if_neg (by simp), parseM _ (by decide) (c :: r) 0 0 hall (by decide) (by omega)]
    unfold Lib.signlessC
    simp only
    rw [if_neg (by omega)]
theorem sat_I64 (l : List UInt8) : I64 (Lib.intSat 64 l) := by
  unfold Lib.intSat
  split <;> decide
theorem ParseInt_b {l : List UInt8} (hl : l.length ≤ 1048576) : strconv_ParseInt (bstr l) 10 64 = some (match Lib.parseIntB 64 l with | .ok v => (v, true) | .range => (Lib.intSat 64 l, false) | _ => (0, false)) := by
  unfold strconv_ParseInt
  rw [if_pos ⟨rfl, rfl, by rw [bstr_size]; omega, sat_I64 _⟩]
  rfl
theorem readNumber_num {l : List UInt8} (h : isNum l = true) (hl : l.length ≤ 9) : impl_readNumber (bstr l) = some ((dval 0 l : Nat) : Int) := by
  unfold impl_readNumber
  rw [ParseInt_b (by omega), parse_num h hl, bnd_s]
  have hn : num ((dval 0 l : Nat) : Int) = l := by
    unfold num
    rw [Int.toNat_natCast]
    exact num_of l.length l rfl h
  have h0 : ¬ (((dval 0 l : Nat) : Int) < 0) := by omega
  simp only [Bool.not_true, Bool.false_eq_true, if_false]
  rw [if_neg (fun h => h0 (of_decide_eq_true h)), dec_num (by omega), bnd_s, thn_nx, hn, sEq_self]
  rfl
theorem readNumber_some {l : List UInt8} (hl : l.length ≤ 1048576) : ∃ n, impl_readNumber (bstr l) = some n ∧ (0 ≤ n → num n = l) := by
  unfold impl_readNumber
  rw [ParseInt_b hl, bnd_s]
  cases hp : Lib.parseIntB 64 l
  case range => exact ⟨-2, rfl, fun h => absurd h (by decide)⟩
  case ok v =>
    simp only [Bool.not_true, Bool.false_eq_true, if_false]
    by_cases hv : v < 0
    · rw [if_pos (decide_eq_true hv), thn_nx, if_pos rfl]
      exact ⟨-2, rfl, fun h => absurd h (by decide)⟩
    · rw [if_neg (by simpa using hv), dec_num (by omega), bnd_s, thn_nx, sEq_b]
      by_cases hn : num v = l
      · rw [hn, beq_self_eq_true, if_neg (by simp)]
        exact ⟨v, rfl, fun _ => hn⟩
      · have : (num v == l) = false := by rw [beq_eq_false_iff_ne]; exact hn
        rw [this, if_pos (by rfl)]
        exact ⟨-2, rfl, fun h => absurd h (by decide)⟩
  · exact ⟨-2, rfl, fun h => absurd h (by decide)⟩
/-- The numeral of a number is a numeral, of that number. -/
theorem digit_is (k : Nat) (h : k < 10) : dig (UInt8.ofNat (48 + k)) = true ∧ (UInt8.ofNat (48 + k)).toNat = 48 + k := by
  have : (UInt8.ofNat (48 + k)).toNat = 48 + k := by simp; omega
  refine ⟨?_, this⟩
  unfold dig
  rw [this]
  simp
  omega
theorem digits_are : ∀ n : Nat, Lib.decDigits n ≠ [] ∧ (Lib.decDigits n).all dig = true ∧ (1 ≤ n → (Lib.decDigits n).head? ≠ some 48) ∧ dval 0 (Lib.decDigits n) = n ∧ (n < 10 → (Lib.decDigits n).length = 1) := by
  intro n
  induction n using Nat.strongRecOn with
  | _ n ih =>
    by_cases h : n < 10
    · rw [Lib.decDigits_one h]
      obtain ⟨h1, h2⟩ := digit_is n h
      refine ⟨by simp, by rw [List.all_cons, h1]; rfl, fun hn e => ?_, ?_, fun _ => rfl⟩
      · rw [List.head?_cons] at e
        have := congrArg UInt8.toNat (Option.some.inj e)
        rw [h2] at this
        have : (48 : UInt8).toNat = 48 := rfl
        omega
      · unfold dval
        simp only [List.foldl_cons, List.foldl_nil, h2]
        omega
    · obtain ⟨i1, i2, i3, i4, _⟩ := ih (n / 10) (by omega)
      obtain ⟨h1, h2⟩ := digit_is (n % 10) (by omega)
      rw [Lib.decDigits, dif_neg h]
      refine ⟨by simp, by rw [List.all_append, i2, List.all_cons, h1]; rfl, fun _ => ?_, ?_, fun hn => absurd hn h⟩
      · rw [List.head?_append]
        cases hh : (Lib.decDigits (n / 10)).head? with
        | none => rw [List.head?_eq_none_iff] at hh; contradiction
        | some c =>
          have := i3 (by omega)
          rw [hh] at this
          simpa using this
      · rw [dval_snoc, i4, h2]
        omega
theorem isNum_num {n : Int} (h : 0 ≤ n) : isNum (num n) = true ∧ ((dval 0 (num n) : Nat) : Int) = n := by
  obtain ⟨h1, h2, h3, h4, h5⟩ := digits_are n.toNat
  unfold num
  refine ⟨?_, by rw [h4]; omega⟩
  unfold isNum
  have e1 : (Lib.decDigits n.toNat).isEmpty = false := by cases hd : Lib.decDigits n.toNat with | nil => contradiction | cons _ _ => rfl
  rw [e1, h2]
  by_cases h0 : 1 ≤ n.toNat
  · have := h3 h0
    have e2 : ((Lib.decDigits n.toNat).head? != some 48) = true := by simpa using this
    rw [e2]
    rfl
  · rw [h5 (by omega)]
    simp
theorem num_len9 {n : Int} (h : 0 ≤ n) (h9 : n ≤ 999) : (num n).length ≤ 9 := by
  unfold num
  have : ∀ m : Nat, m ≤ 999 → (Lib.decDigits m).length ≤ 3 := by
    intro m hm
    by_cases h1 : m < 10
    · rw [Lib.decDigits_one h1, List.length_singleton]; omega
    · rw [Lib.decDigits, dif_neg h1, List.length_append, List.length_singleton]
      by_cases h2 : m / 10 < 10
      · rw [Lib.decDigits_one h2, List.length_singleton]; omega
      · rw [Lib.decDigits, dif_neg h2, List.length_append, List.length_singleton, Lib.decDigits_one (by omega), List.length_singleton]; omega
  have := this n.toNat (by omega)
  omega
/-- No blank in a numeral. -/
theorem num_noblank (n : Int) : ∀ c ∈ num n, c ≠ 32 := by
  obtain ⟨_, h2, _⟩ := digits_are n.toNat
  intro c hc e
  have := List.all_eq_true.1 h2 c hc
  rw [e] at this
  exact absurd this (by decide)
theorem cut_one {c : UInt8} : ∀ {p : List UInt8}, (∀ x ∈ p, x ≠ c) → cutAt c p = [p]
  | [], _ => rfl
  | b :: p, h => by
    rw [cutAt, if_neg (h b (by simp)), cut_one (fun x hx => h x (by simp [hx]))]
theorem cut_app {c : UInt8} : ∀ {p : List UInt8} (q : List UInt8), (∀ x ∈ p, x ≠ c) → cutAt c (p ++ c :: q) = p :: cutAt c q
  | [], q, _ => by rw [List.nil_append, cutAt, if_pos rfl]
  | b :: p, q, h => by
    rw [List.cons_append, cutAt, if_neg (h b (by simp)), cut_app q (fun x hx => h x (by simp [hx]))]
/-- Pieces with the byte between each two. -/
def joinAt (c : UInt8) : List (List UInt8) → List UInt8
  | [] => []
  | [x] => x
  | x :: y :: r => x ++ c :: joinAt c (y :: r)
theorem join_cut (c : UInt8) : ∀ l : List UInt8, joinAt c (cutAt c l) = l
  | [] => rfl
  | b :: l => by
    have ih := join_cut c l
    have hne := cutAt_ne c l
    by_cases h : b = c
    · rw [cutAt, if_pos h]
      cases hc : cutAt c l with
      | nil => contradiction
      | cons x r => rw [hc] at ih; rw [joinAt, ih, h]; rfl
    · rw [cutAt, if_neg h]
      cases hc : cutAt c l with
      | nil => contradiction
      | cons x r =>
        rw [hc] at ih
        cases r with
        | nil => rw [joinAt] at ih ⊢; rw [ih]
        | cons y r => rw [joinAt] at ih ⊢; rw [List.cons_append, ih]
end Go.Proofs.YtbgkhipclkhlcaaGreatDoor
