/-
  Plain law: the texts of atoms read, on both sides.
-/
import Derived.Test.YtbgkhipclkhlcaaGreatDoorMR
import Derived.Test.YtbgkhipclkhlcaaGreatDoorM31
import Derived.Lib.IndexLaws
namespace Go.Proofs.YtbgkhipclkhlcaaGreatDoor
set_option maxRecDepth 100000
set_option linter.unusedVariables false
set_option linter.unusedSimpArgs false

theorem dataList_bstr (l : List UInt8) : (bstr l).data.toList = l := by simp [bstr]
theorem bstr_of (x : ByteArray) : bstr x.data.toList = x := by apply ByteArray.ext; simp [bstr]
theorem numbersB (x : List UInt8) : spec_l01Number (bstr x) = some (if numB x then ((dval 0 x : Nat) : Int) else 0, numB x) := l01Number_eq x
/-! Digits -/
def dgI (c : UInt8) : Int := ((c.toNat : Nat) : Int) - 48
def rdDig (y : List UInt8) : List Int := if y.all dig then y.map dgI else []
theorem dig_iff (c : UInt8) : dig c = true ↔ 48 ≤ c.toNat ∧ c.toNat ≤ 57 := by unfold dig; simp
theorem readDigits_loop : ∀ (y : List UInt8) (k : Nat) (s : List Int), s.length + y.length ≤ 100000000 → thn (forL (σ := (List Int)) (ρ := (List Int)) (fun (k47 : Nat) (x49 : UInt8) (s41 : (List Int)) =>
   thn (σ := Bool) (
    if (decide ((x49.toNat : Int) < ((48 : UInt8).toNat : Int))) then  some (.nx true) else  some (.nx (decide (((57 : UInt8).toNat : Int) < (x49.toNat : Int))))) fun s59 =>
   if s59 then
    some (.ret ([]))
   else
    bnd (ap s41 ([((u8w ((x49.toNat : Int) - ((48 : UInt8).toNat : Int))).toNat : Int)])) fun z65 =>
    some (.go z65)) y k s) (fun s44 => some s44) = some (if y.all dig then s ++ y.map dgI else [])
  | [], k, s, _ => by simp [forL]
  | c :: y, k, s, h => by
    rw [List.length_cons] at h
    have e48 : ((48 : UInt8).toNat : Int) = 48 := rfl
    have e57 : ((57 : UInt8).toNat : Int) = 57 := rfl
    by_cases hd : dig c = true
    · have hd' := (dig_iff c).1 hd
      have hw : ((u8w ((c.toNat : Int) - 48)).toNat : Int) = dgI c := by
        unfold u8w dgI
        rw [show ((c.toNat : Int) - 48) % 256 = (c.toNat : Int) - 48 by omega]
        have : ((c.toNat : Int) - 48).toNat = c.toNat - 48 := by omega
        rw [this]
        have h2 : (UInt8.ofNat (c.toNat - 48)).toNat = c.toNat - 48 := by simp; omega
        rw [h2]
        omega
      rw [forL_go (s' := s ++ [dgI c]) (by
        rw [e48, e57, if_neg (by simp; omega), thn_nx, if_neg (by simp; omega), hw, ap_eq (by simp only [List.length_cons, List.length_nil]; omega), bnd_s])]
      rw [readDigits_loop y (k + 1) (s ++ [dgI c]) (by rw [List.length_append, List.length_singleton]; omega)]
      simp [hd]
    · have hd' : ¬ (48 ≤ c.toNat ∧ c.toNat ≤ 57) := fun h => hd ((dig_iff c).2 h)
      have hb : ∃ b, (if (decide ((c.toNat : Int) < 48)) = true then some (Out.nx (ρ := Ctl (List Int) (List Int)) true) else some (.nx (decide (57 < (c.toNat : Int))))) = some (.nx b) ∧ b = true := by
        by_cases h1 : (c.toNat : Int) < 48
        · exact ⟨true, by rw [if_pos (decide_eq_true h1)], rfl⟩
        · exact ⟨_, by rw [if_neg (by simpa using h1)], decide_eq_true (by omega)⟩
      obtain ⟨b, h1, h2⟩ := hb
      rw [forL_rt (r := []) (by rw [e48, e57, h1, thn_nx, h2]; rfl), thn_ret]
      simp [hd]
theorem readDigits_eq {y : List UInt8} (h : y.length ≤ 1048576) : impl_readDigits (bstr y) = some (rdDig y) := by
  unfold impl_readDigits
  rw [dataList_bstr]
  exact (readDigits_loop y 0 [] (by simp; omega)).trans (by simp [rdDig])
theorem digT_dig {l : List Int} (h : ∀ x ∈ l, 0 ≤ x ∧ x ≤ 9) : (digT l).all dig = true ∧ (digT l).map dgI = l := by
  induction l with
  | nil => exact ⟨rfl, rfl⟩
  | cons x r ih =>
    obtain ⟨h1, h2⟩ := ih (fun y hy => h y (by simp [hy]))
    have hx := h x (by simp)
    have e : digT (x :: r) = num x ++ digT r := rfl
    have e1 : num x = [UInt8.ofNat (48 + x.toNat)] := by unfold num; rw [Lib.decDigits_one (by omega)]
    obtain ⟨d1, d2⟩ := digit_is x.toNat (by omega)
    rw [e, e1]
    refine ⟨by rw [List.all_append, h1, List.all_cons, d1]; rfl, ?_⟩
    rw [List.map_append, h2]
    simp only [List.map_cons, List.map_nil, List.singleton_append, List.cons.injEq, and_true]
    unfold dgI
    rw [d2]
    omega
theorem rdDig_digT {l : List Int} (h : ∀ x ∈ l, 0 ≤ x ∧ x ≤ 9) : rdDig (digT l) = l := by
  obtain ⟨h1, h2⟩ := digT_dig h
  unfold rdDig
  rw [if_pos h1, h2]
/-! A text cut at its first colon -/
theorem index_app {c : UInt8} : ∀ {p : List UInt8} (q : List UInt8), (∀ x ∈ p, x ≠ c) → Lib.index (p ++ c :: q) [c] = p.length
  | [], q, _ => by simp [Lib.index]
  | b :: p, q, h => by
    have ih := index_app q (fun x hx => h x (List.mem_cons_of_mem _ hx))
    have hb : b ≠ c := h b (by simp)
    show Lib.index (b :: (p ++ c :: q)) [c] = _
    rw [Lib.index]
    have h1 : [c].isPrefixOf (b :: (p ++ c :: q)) = false := by simp [List.isPrefixOf, hb.symm]
    rw [h1, ih]
    simp
theorem cut_app1 {p q : List UInt8} {c : UInt8} (h : ∀ x ∈ p, x ≠ c) : Lib.cut (p ++ c :: q) [c] = (p, q, true) := by
  unfold Lib.cut
  rw [index_app q h]
  simp
theorem cut_le (l sep : List UInt8) : (Lib.cut l sep).1.length ≤ l.length ∧ (Lib.cut l sep).2.1.length ≤ l.length := by
  unfold Lib.cut
  split
  · simp only [List.length_take, List.length_drop]; omega
  · simp
theorem Cut_b {l sep : List UInt8} (h : l.length ≤ 1048576) : strings_Cut (bstr l) (bstr sep) = some (bstr (Lib.cut l sep).1, bstr (Lib.cut l sep).2.1, (Lib.cut l sep).2.2) := by
  unfold strings_Cut
  rw [if_pos (by rw [bstr_size]; omega), dataList_bstr, dataList_bstr]
  rfl
theorem HasPrefix_b (l p : List UInt8) : internal_stringslite_HasPrefix (bstr l) (bstr p) = some (p.isPrefixOf l) := by
  unfold internal_stringslite_HasPrefix
  rw [bstr_size, bstr_size]
  by_cases h : p.length ≤ l.length
  · rw [if_pos (decide_eq_true (by omega)), show (0 : Int) = ((0 : Nat) : Int) from rfl, ssl_b (Nat.zero_le _) h, bnd_s, thn_nx, sEq_b, List.drop_zero]
    congr 1
    rw [Bool.eq_iff_iff, beq_iff_eq, List.isPrefixOf_iff_prefix, List.prefix_iff_eq_take]
    exact eq_comm
  · rw [if_neg (by simp; omega), thn_nx]
    congr 1
    symm
    rw [← Bool.not_eq_true, List.isPrefixOf_iff_prefix]
    intro hp
    exact h hp.length_le
theorem CutPrefix_b (l p : List UInt8) : strings_CutPrefix (bstr l) (bstr p) = some (if p.isPrefixOf l then (bstr (l.drop p.length), true) else (bstr l, false)) := by
  unfold strings_CutPrefix internal_stringslite_CutPrefix
  rw [HasPrefix_b, bnd_s]
  cases h : p.isPrefixOf l with
  | false => simp [bnd]
  | true =>
    have hl : p.length ≤ l.length := (List.isPrefixOf_iff_prefix.1 h).length_le
    rw [if_neg (by simp), bstr_size, bstr_size, ssl_b hl (Nat.le_refl _), bnd_s, bnd_s, List.take_length]
    rfl
theorem relT_nocolon {a : Atom} : ∀ c ∈ relT a, c ≠ 58 := by
  unfold relT
  split
  · intro c hc; simp at hc; subst hc; decide
  · intro c hc
    rcases List.mem_cons.1 hc with rfl | hc
    · decide
    · obtain ⟨_, h2, _⟩ := digits_are a.rel.toNat
      intro e
      subst e
      have := List.all_eq_true.1 h2 58 hc
      exact absurd this (by decide)
theorem digT_ne {l : List Int} {c : UInt8} (hc : dig c = false) : ∀ x ∈ digT l, x ≠ c := by
  intro x hx e
  subst e
  unfold digT at hx
  obtain ⟨y, hy, hxy⟩ := List.mem_flatten.1 hx
  obtain ⟨n, _, rfl⟩ := List.mem_map.1 hy
  obtain ⟨_, h2, _⟩ := digits_are n.toNat
  have := List.all_eq_true.1 h2 x hxy
  rw [hc] at this
  cases this
theorem readAtom_some {x : List UInt8} (h : x.length ≤ 1048576) : ∃ a, impl_readAtom (bstr x) = some a := by
  unfold impl_readAtom
  obtain ⟨c1, c2⟩ := cut_le x [58]
  rw [Cut_b h, bnd_s, readDigits_eq (by omega), bnd_s, CutPrefix_b, bnd_s]
  split
  · rename_i hp
    rw [if_pos rfl]
    obtain ⟨n, hn, _⟩ := readNumber_some (l := (Lib.cut x [58]).1.drop ([82] : List UInt8).length) (by rw [List.length_drop]; omega)
    show ∃ a, (bnd (impl_readNumber (bstr ((Lib.cut x [58]).1.drop ([82] : List UInt8).length))) fun z28 => some (Atom.mk z28 _)) = some a
    rw [hn, bnd_s]
    exact ⟨_, rfl⟩
  · rw [if_neg (by simp)]
    exact ⟨_, rfl⟩
theorem num_is {n : Int} (h : 0 ≤ n) (h9 : n ≤ 999) : impl_readNumber (bstr (num n)) = some n := by
  obtain ⟨h1, h2⟩ := isNum_num h
  rw [readNumber_num h1 (num_len9 h h9), h2]
theorem numB_num {n : Int} (h : 0 ≤ n) (h9 : n ≤ 999) : spec_l01Number (bstr (num n)) = some (n, true) := by
  obtain ⟨h1, h2⟩ := isNum_num h
  have hb : numB (num n) = true := by unfold numB; rw [h1, decide_eq_true (num_len9 h h9)]; rfl
  rw [numbersB, hb, if_pos rfl, h2]
theorem readAtom_atomT {v : Int} {a : Atom} (hv : v ≤ 8) (h : atomW v a = true) : impl_readAtom (bstr (atomT a)) = some a := by
  obtain ⟨h1, h2, h3, h4⟩ := atomW_spec hv h
  have hl := atomT_len hv h
  unfold impl_readAtom
  have hc : Lib.cut (atomT a) [58] = (relT a, digT a.args, true) := cut_app1 relT_nocolon
  have hd : (digT a.args).length ≤ 1048576 := by have := digT_len h4; omega
  rw [Cut_b (by omega), hc, bnd_s, readDigits_eq hd, rdDig_digT h4, bnd_s, CutPrefix_b, bnd_s]
  by_cases hr : a.rel = -1
  · have e : relT a = [61] := by unfold relT; rw [if_pos hr]
    rw [e]
    have hp : List.isPrefixOf [82] ([61] : List UInt8) = false := rfl
    show (if (if List.isPrefixOf [82] ([61] : List UInt8) = true then _ else (bstr ([61] : List UInt8), false)).2 = true then _ else some (Atom.mk (-1) a.args)) = some a
    rw [hp, if_neg (by simp), ← hr]
  · have e : relT a = 82 :: num a.rel := by unfold relT; rw [if_neg hr]
    have hp : List.isPrefixOf [82] (82 :: num a.rel) = true := by simp [List.isPrefixOf]
    rw [e, if_pos hp, if_pos rfl]
    show (bnd (impl_readNumber (bstr (num a.rel))) fun z28 => some (Atom.mk z28 a.args)) = some a
    rw [num_is (by omega) (by omega), bnd_s]
/-! The reference -/
theorem dig_loop {ρ : Type} (y : List UInt8) : ∀ (m k : Nat) (s : List Int), k + m = y.length → s.length + m ≤ 100000000 → forI (σ := (List Int)) (ρ := ρ) (fun (k792 : Nat) (s786 : (List Int)) =>
          bnd (six (bstr y) (k792 : Int)) fun z804 =>
          bnd (ck ((z804.toNat : Int) - 48)) fun z806 =>
          bnd (ap s786 ([z806])) fun z810 =>
          some (.go z810)) m k s = some (.nx (s ++ (y.drop k).map dgI))
  | 0, k, s, hk, _ => by rw [List.drop_eq_nil_of_le (by omega)]; simp [forI]
  | m + 1, k, s, hk, hs => by
    have hlt : k < y.length := by omega
    rw [forI_go (s' := s ++ [dgI y[k]]) (by
      rw [six_b (List.getElem?_eq_getElem hlt), bnd_s, ck_eq (by omega) (by have := (y[k]).toNat_lt; omega), bnd_s, ap_eq (by simp only [List.length_cons, List.length_nil]; omega), bnd_s]; rfl),
      dig_loop y m (k + 1) _ (by omega) (by rw [List.length_append, List.length_singleton]; omega), List.drop_eq_getElem_cons hlt, List.map_cons, List.append_assoc]
    rfl
end Go.Proofs.YtbgkhipclkhlcaaGreatDoor
