/-
  Plain laws: numbers read, in both programs.
-/
import Derived.Test.YtbgkhipclkhlcaaGreatDoorMW
namespace Go.Proofs.YtbgkhipclkhlcaaGreatDoor
set_option linter.unusedVariables false
set_option linter.unusedSimpArgs false

/-- A digit; a text of digits; its number. -/
def dig (c : UInt8) : Bool := decide (48 ≤ c.toNat) && decide (c.toNat ≤ 57)
def dval (s : Nat) (l : List UInt8) : Nat := l.foldl (fun s c => s * 10 + (c.toNat - 48)) s
theorem dval_snoc (s : Nat) (l : List UInt8) (c : UInt8) : dval s (l ++ [c]) = dval s l * 10 + (c.toNat - 48) := by unfold dval; rw [List.foldl_append]; rfl
/-- A numeral: digits, none ahead that is 0. -/
def isNum (l : List UInt8) : Bool := !l.isEmpty && l.all dig && (l.head? != some 48 || l.length == 1)
theorem dval_pos : ∀ l : List UInt8, l ≠ [] → l.all dig = true → l.head? ≠ some 48 → 1 ≤ dval 0 l := by
  have mono : ∀ (l : List UInt8) (s : Nat), 1 ≤ s → 1 ≤ dval s l := by
    intro l
    induction l with
    | nil => intro s h; exact h
    | cons c l ih => intro s h; exact ih (s * 10 + (c.toNat - 48)) (by omega)
  intro l h1 h2 h3
  cases l with
  | nil => contradiction
  | cons c l =>
    have hd : dig c = true := by simp only [List.all_cons, Bool.and_eq_true] at h2; exact h2.1
    unfold dig at hd
    simp only [Bool.and_eq_true, decide_eq_true_eq] at hd
    have hc : c.toNat ≠ 48 := fun e => h3 (by rw [List.head?_cons]; congr 1; exact UInt8.toNat_inj.1 (by rw [e]; rfl))
    exact mono l (0 * 10 + (c.toNat - 48)) (by omega)
theorem digit_of {c : UInt8} (h : dig c = true) : UInt8.ofNat (48 + (c.toNat - 48)) = c := by
  unfold dig at h
  simp only [Bool.and_eq_true, decide_eq_true_eq] at h
  rw [show 48 + (c.toNat - 48) = c.toNat by omega]
  exact UInt8.ofNat_toNat
/-- A numeral is the numeral of its number. -/
theorem num_of (n : Nat) : ∀ l : List UInt8, l.length = n → isNum l = true → Lib.decDigits (dval 0 l) = l := by
  induction n with
  | zero => intro l hl h; rw [List.length_eq_zero_iff] at hl; subst hl; simp [isNum] at h
  | succ n ih =>
    intro l hl h
    have hne : l ≠ [] := by intro e; subst e; simp at hl
    obtain ⟨l', c, rfl⟩ : ∃ l' c, l = l' ++ [c] := ⟨l.dropLast, l.getLast hne, (List.dropLast_concat_getLast hne).symm⟩
    unfold isNum at h
    simp only [Bool.and_eq_true, List.all_append, List.all_cons, List.all_nil, Bool.and_true] at h
    obtain ⟨⟨_, h2, h3⟩, h4⟩ := h
    rw [dval_snoc]
    have hc := h3
    unfold dig at hc
    simp only [Bool.and_eq_true, decide_eq_true_eq] at hc
    by_cases hl' : l' = []
    · subst hl'
      have : dval 0 ([] : List UInt8) = 0 := rfl
      rw [this, Nat.zero_mul, Nat.zero_add, Lib.decDigits_one (by omega), digit_of h3]
      rfl
    · have hh : l'.head? ≠ some 48 := by
        intro e
        have e2 : (l' ++ [c]).head? = some 48 := by rw [List.head?_append, e]; rfl
        have e3 : 2 ≤ (l' ++ [c]).length := by
          rw [List.length_append, List.length_singleton]
          have := List.length_pos_iff.2 hl'
          omega
        rw [e2] at h4
        simp only [bne_self_eq_false, Bool.false_or, beq_iff_eq] at h4
        omega
      have hp := dval_pos l' hl' h2 hh
      have hi : isNum l' = true := by
        unfold isNum
        rw [h2]
        have h5 : l'.isEmpty = false := by cases l' with | nil => contradiction | cons _ _ => rfl
        have h6 : (l'.head? != some 48) = true := by simpa using hh
        rw [h5, h6]
        rfl
      rw [Lib.decDigits, dif_neg (by omega)]
      have e1 : (dval 0 l' * 10 + (c.toNat - 48)) / 10 = dval 0 l' := by omega
      have e2 : (dval 0 l' * 10 + (c.toNat - 48)) % 10 = c.toNat - 48 := by omega
      rw [e1, e2, ih l' (by rw [List.length_append, List.length_singleton] at hl; omega) hi, digit_of h3]
/-- What the reference reads. -/
theorem number_loop (l : List UInt8) (hl : l.length ≤ 9) : ∀ (m k s : Nat), k + m = l.length → s < 10 ^ k → forI (σ := Int) (ρ := Int × Bool) (fun (k55 : Nat) (s51 : Int) =>
    thn (σ := Bool) (
     bnd (six (bstr l) (k55 : Int)) fun z68 =>
     if (decide ((z68.toNat : Int) < ((48 : UInt8).toNat : Int))) then  some (.nx true) else  some (.nx (decide (((57 : UInt8).toNat : Int) < (z68.toNat : Int))))) fun s67 =>
    if s67 then
     some (.ret (0, false))
    else
     bnd (ck (s51 * 10)) fun z72 =>
     bnd (six (bstr l) (k55 : Int)) fun z74 =>
     bnd (ck (z72 + ((u8w ((z74.toNat : Int) - ((48 : UInt8).toNat : Int))).toNat : Int))) fun z76 =>
     some (.go z76)) m k (s : Int) = some (if (l.drop k).all dig then .nx ((dval s (l.drop k) : Nat) : Int) else .ret (0, false))
  | 0, k, s, hk, _ => by
    have : l.drop k = [] := List.drop_eq_nil_of_le (by omega)
    rw [this]
    rfl
  | m + 1, k, s, hk, hs => by
    have hkl : k < l.length := by omega
    have hg : l[k]? = some l[k] := List.getElem?_eq_getElem hkl
    have hd : l.drop k = l[k] :: l.drop (k + 1) := List.drop_eq_getElem_cons hkl
    have hp : 10 ^ k ≤ 10 ^ 8 := Nat.pow_le_pow_right (by decide) (by omega)
    have n48 : ((48 : UInt8).toNat : Int) = 48 := rfl
    have n57 : ((57 : UInt8).toNat : Int) = 57 := rfl
    rw [hd]
    generalize l[k] = c at *
    have hc := c.toNat_lt
    cases hdg : dig c with
    | false =>
      have hb : (c.toNat : Int) < 48 ∨ 57 < (c.toNat : Int) := by
        unfold dig at hdg
        simp only [Bool.and_eq_false_iff, decide_eq_false_iff_not] at hdg
        omega
      rw [forI_rt (r := (0, false)) (by
        rw [six_b hg, bnd_s, n48, n57]
        by_cases h1 : (c.toNat : Int) < 48
        · rw [if_pos (by simpa using h1), thn_nx, if_pos rfl]
        · have h2 : (57 : Int) < (c.toNat : Int) := by omega
          rw [if_neg (by simpa using h1), thn_nx, decide_eq_true h2, if_pos rfl])]
      simp [hdg]
    | true =>
      have hb := hdg
      unfold dig at hb
      simp only [Bool.and_eq_true, decide_eq_true_eq] at hb
      have hu : ((u8w ((c.toNat : Int) - 48)).toNat : Int) = ((c.toNat - 48 : Nat) : Int) := by
        unfold u8w
        simp
        omega
      rw [forI_go (s' := ((s * 10 + (c.toNat - 48) : Nat) : Int)) (by
        rw [six_b hg, bnd_s, n48, n57, if_neg (by simp; omega), thn_nx, if_neg (by simp; omega), ck_eq (by omega) (by omega), bnd_s, bnd_s, hu, ck_eq (by omega) (by omega), bnd_s]
        rfl)]
      rw [number_loop l hl m (k + 1) _ (by omega) (by rw [Nat.pow_succ]; omega)]
      simp [hdg, dval]
theorem l01Number_eq (l : List UInt8) : spec_l01Number (bstr l) = some (if isNum l && decide (l.length ≤ 9) then ((dval 0 l : Nat) : Int) else 0, isNum l && decide (l.length ≤ 9)) := by
  unfold spec_l01Number
  rw [bstr_size]
  cases l with
  | nil => rfl
  | cons c r =>
    have h1 : ¬ (((c :: r).length : Int) < 1) := by rw [List.length_cons]; omega
    rw [if_neg (by simpa using h1)]
    by_cases h9 : (c :: r).length ≤ 9
    · have h9' : ¬ ((9 : Int) < ((c :: r).length : Int)) := by omega
      rw [if_neg (by simpa using h9'), show six (bstr (c :: r)) 0 = some c from six_b (k := 0) rfl, bnd_s]
      have n48 : ((48 : UInt8).toNat : Int) = 48 := rfl
      by_cases hz : c = 48 ∧ 1 < (c :: r).length
      · obtain ⟨hz1, hz2⟩ := hz
        have e : ((c.toNat : Int) == ((48 : UInt8).toNat : Int)) = true := by rw [hz1]; rfl
        have hi : isNum (c :: r) = false := by
          unfold isNum
          have h7 : ((c :: r).length == 1) = false := by rw [beq_eq_false_iff_ne]; omega
          rw [h7, hz1]
          simp
        rw [if_pos e, thn_nx, if_pos (decide_eq_true (by omega)), hi]
        rfl
      · have e : (if ((c.toNat : Int) == ((48 : UInt8).toNat : Int)) = true then some (Out.nx (ρ := Int × Bool) (decide (1 < ((c :: r).length : Int)))) else some (.nx false)) = some (.nx false) := by
          split
          · rename_i h
            have hc : c = 48 := by
              rw [n48] at h
              simp only [beq_iff_eq] at h
              exact UInt8.toNat_inj.1 (by have : (48 : UInt8).toNat = 48 := rfl; omega)
            have : ¬ (1 < ((c :: r).length : Int)) := fun h => hz ⟨hc, by omega⟩
            rw [decide_eq_false this]
          · rfl
        rw [e, thn_nx, if_neg (by simp)]
        have e3 : (((c :: r).length : Nat) : Int).toNat = (c :: r).length := by simp
        have hnl := number_loop (c :: r) h9 (c :: r).length 0 0 (by omega) (by decide)
        rw [show ((0 : Nat) : Int) = 0 from rfl] at hnl
        rw [e3, hnl]
        have hh : ((c :: r).head? != some 48 || (c :: r).length == 1) = true := by
          by_cases hc : c = 48
          · have : (c :: r).length = 1 := by
              have h2 : ¬ 1 < (c :: r).length := fun h => hz ⟨hc, h⟩
              rw [List.length_cons] at h2 ⊢
              omega
            rw [this]
            simp
          · simp [hc]
        unfold isNum
        rw [hh, decide_eq_true h9]
        cases hall : (c :: r).all dig with
        | false => simp [hall]
        | true => simp [hall]
    · have h9' : ((9 : Int) < ((c :: r).length : Int)) := by omega
      rw [if_pos (by simpa using h9'), thn_nx, if_pos rfl, decide_eq_false h9]
      simp
end Go.Proofs.YtbgkhipclkhlcaaGreatDoor
