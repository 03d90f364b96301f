/-
  Plain law: DeedText.
-/
import Derived.Test.YtjjdbdlbjdoebaaDoorMS
import Derived.Test.YtjjdbdlbjdoebaaDoorS3
namespace Go.Proofs.YtjjdbdlbjdoebaaDoor
set_option linter.unusedVariables false
set_option linter.unusedSimpArgs false

def ok9 (n : Int) : Bool := decide (0 ≤ n) && decide (n ≤ 999)
theorem ok9_spec {n : Int} (h : ok9 n = true) : 0 ≤ n ∧ n ≤ 999 := by
  unfold ok9 at h
  simp only [Bool.and_eq_true, decide_eq_true_eq] at h
  exact h
/-- A deed that is well made. -/
def deedB (x : Deed) : Bool := (decide (1 ≤ x.kind) && decide (x.kind ≤ 8)) && (ok9 x.a && ok9 x.b) && (decide (x.kind ≤ 6) || x.a == 0) && (decide (x.kind ≤ 1) || x.b == 0)
theorem kinds {k : Int} (h : 1 ≤ k ∧ k ≤ 8) : k = 1 ∨ k = 2 ∨ k = 3 ∨ k = 4 ∨ k = 5 ∨ k = 6 ∨ k = 7 ∨ k = 8 := by omega
theorem containsD (l : List Int) : slices_ContainsFunc_s_int64_int64 l (fun a0 => impl_ValidDeed_1 a0) = some (l.any fun y => y != 0) := contains_b l _ _ (fun y _ => rfl)
theorem ValidDeed_eq (x : Deed) : impl_ValidDeed x = some (deedB x) := by
  unfold impl_ValidDeed deedB
  rw [show (Deed.mk x.kind x.a x.b) = x from rfl, within_b, bnd_s, areValues_b _ _ _ (by decide)]
  cases hk : (decide (1 ≤ x.kind) && decide (x.kind ≤ 8)) with
  | false => rfl
  | true =>
    have ea : (decide ((([x.a, x.b] : List Int).length : Int) = 2) && ([x.a, x.b].all fun y => decide (0 ≤ y) && decide (y ≤ 1000 - 1))) = (ok9 x.a && ok9 x.b) := by
      unfold ok9
      simp
    rw [ea]
    cases ha : (ok9 x.a && ok9 x.b) with
    | false => rfl
    | true =>
      simp only [Bool.and_eq_true, decide_eq_true_eq] at hk
      simp only [Bool.not_true, Bool.false_eq_true, if_false, bnd_s, thn_nx, Bool.true_and]
      unfold impl_Deed_mentioned
      rcases kinds hk with h | h | h | h | h | h | h | h <;> rw [h] <;> simp [ck, ix, sl, bnd, containsD, bne]
theorem l10Deed_eq (x : Deed) : spec_l10Deed x = some (deedB x) := by
  unfold spec_l10Deed spec_l10Words deedB
  rw [in_b, in_b, in_b, bnd_s, bnd_s, bnd_s, bnd_s]
  cases hk : (decide (1 ≤ x.kind) && decide (x.kind ≤ 8)) with
  | false => rfl
  | true =>
    show thn (if (!true) = true then _ else if (!ok9 x.a) = true then some (.nx true) else some (.nx (!ok9 x.b))) _ = _
    cases ha : ok9 x.a with
    | false => rfl
    | true =>
      cases hb : ok9 x.b with
      | false => rfl
      | true =>
        simp only [Bool.and_eq_true, decide_eq_true_eq] at hk
        simp only [Bool.not_true, Bool.false_eq_true, if_false, thn_nx, Bool.true_and]
        rcases kinds hk with h | h | h | h | h | h | h | h <;> rw [h] <;> simp [ix, bnd, thn] <;> (by_cases ha0 : x.a = 0 <;> simp [ha0])
/-- The word of a deed, and how many numbers follow. -/
def deedW (k : Int) : List UInt8 := ([[], [103, 105, 118, 101], [119, 111, 114, 107], [100, 101, 108, 105, 118, 101, 114], [99, 111, 112, 121], [100, 114, 111, 112], [115, 112, 111, 105, 108], [115, 97, 118, 101], [99, 114, 97, 115, 104]] : List (List UInt8)).getD k.toNat []
def deedT (x : Deed) : List UInt8 := deedW x.kind ++ (if x.kind ≤ 6 then 32 :: num x.a else []) ++ (if x.kind ≤ 1 then 32 :: num x.b else [])
theorem deedWords_eq : impl_deedWords = some [bstr [103, 105, 118, 101], bstr [119, 111, 114, 107], bstr [100, 101, 108, 105, 118, 101, 114], bstr [99, 111, 112, 121], bstr [100, 114, 111, 112], bstr [115, 112, 111, 105, 108], bstr [115, 97, 118, 101], bstr [99, 114, 97, 115, 104]] := by
  decide +kernel
theorem deedB_spec {x : Deed} (h : deedB x = true) : (1 ≤ x.kind ∧ x.kind ≤ 8) ∧ ok9 x.a = true ∧ ok9 x.b = true := by
  unfold deedB at h
  simp only [Bool.and_eq_true, decide_eq_true_eq] at h
  exact ⟨h.1.1.1, h.1.1.2⟩
theorem DeedText_impl (x : Deed) : impl_DeedText x = some (bstr (if deedB x then deedT x else [])) := by
  unfold impl_DeedText
  rw [show (Deed.mk x.kind x.a x.b) = x from rfl, ValidDeed_eq, bnd_s]
  cases h : deedB x with
  | false => rfl
  | true =>
    obtain ⟨hk, h1, h2⟩ := deedB_spec h
    have g1 := ok9_spec h1
    have g2 := ok9_spec h2
    have n1 := num_len (n := x.a) (by omega)
    have n2 := num_len (n := x.b) (by omega)
    rw [if_neg (by simp), deedWords_eq, if_pos rfl]
    have lp : ∀ (l : List Int) (s : List UInt8), (∀ n ∈ l, 0 ≤ n ∧ n ≤ 999) → s.length + 22 * l.length ≤ 1000 → forL (σ := ByteArray) (ρ := ByteArray) (fun (k73 : Nat) (x75 : Int) (s69 : ByteArray) =>
        bnd (impl_dec x75) fun z84 =>
        bnd (scat (bstr [32]) z84) fun z88 =>
        bnd (scat s69 z88) fun z90 =>
        some (.go z90)) l 0 (bstr s) = some (.nx (bstr (s ++ (l.map fun n => 32 :: num n).flatten))) := fun l s hl hs => forL_text (fun n => 32 :: num n) 22 1000 (fun n hn => by have := num_len (n := n) (by have := hl n hn; omega); rw [List.length_cons]; omega) hs (fun j n s hn hs => by
          have := num_len (n := n) (by have := hl n hn; omega)
          rw [dec_num (hl n hn).1, bnd_s, scat_b (by simp only [List.length_cons, List.length_nil]; omega), bnd_s, scat_b (by simp only [List.length_append, List.length_cons, List.length_nil]; omega), bnd_s]
          simp)
    have hab : ∀ n ∈ [x.a, x.b], 0 ≤ n ∧ n ≤ 999 := by simp only [List.forall_mem_cons, List.not_mem_nil, false_implies, implies_true, and_true]; exact ⟨g1, g2⟩
    have ha : ∀ n ∈ [x.a], 0 ≤ n ∧ n ≤ 999 := by simp only [List.forall_mem_cons, List.not_mem_nil, false_implies, implies_true, and_true]; exact g1
    have h0 : ∀ n ∈ ([] : List Int), 0 ≤ n ∧ n ≤ 999 := fun _ h => absurd h List.not_mem_nil
    have wl : ∀ (k : Int) (w : List UInt8) (l : List Int), x.kind = k → ck (k - 1) = some (k - 1) → ix [bstr [103, 105, 118, 101], bstr [119, 111, 114, 107], bstr [100, 101, 108, 105, 118, 101, 114], bstr [99, 111, 112, 121], bstr [100, 114, 111, 112], bstr [115, 112, 111, 105, 108], bstr [115, 97, 118, 101], bstr [99, 114, 97, 115, 104]] (k - 1) = some (bstr w) → impl_Deed_mentioned x = some l → (∀ n ∈ l, 0 ≤ n ∧ n ≤ 999) → w.length ≤ 10 → l.length ≤ 2 → w ++ (l.map fun n => 32 :: num n).flatten = deedT x →
      (bnd (ck (x.kind - 1)) fun z22 => bnd (some [bstr [103, 105, 118, 101], bstr [119, 111, 114, 107], bstr [100, 101, 108, 105, 118, 101, 114], bstr [99, 111, 112, 121], bstr [100, 114, 111, 112], bstr [115, 112, 111, 105, 108], bstr [115, 97, 118, 101], bstr [99, 114, 97, 115, 104]]) fun z24 => bnd (ix z24 z22) fun z33 => bnd (impl_Deed_mentioned x) fun z41 =>
        thn (σ := ByteArray) (forL (σ := ByteArray) (ρ := ByteArray) (fun (k73 : Nat) (x75 : Int) (s69 : ByteArray) =>
        bnd (impl_dec x75) fun z84 =>
        bnd (scat (bstr [32]) z84) fun z88 =>
        bnd (scat s69 z88) fun z90 =>
        some (.go z90)) z41 0 z33) fun s71 => some s71) = some (bstr (deedT x)) := fun k w l e1 e2 e3 e4 e5 e6 e7 e8 => by
        rw [e1, e2, bnd_s, bnd_s, e3, bnd_s, e4, bnd_s, lp l w e5 (by omega), thn_nx, e8]
    have tt : ∀ k : Int, x.kind = k → deedT x = deedW k ++ (if k ≤ 6 then 32 :: num x.a else []) ++ (if k ≤ 1 then 32 :: num x.b else []) := fun k h => by unfold deedT; rw [h]
    rcases kinds hk with hk | hk | hk | hk | hk | hk | hk | hk
    · exact wl 1 _ [x.a, x.b] hk rfl rfl (by unfold impl_Deed_mentioned; rw [hk]; rfl) hab (by decide) (by simp) (by rw [tt _ hk]; simp [deedW])
    · exact wl 2 _ [x.a] hk rfl rfl (by unfold impl_Deed_mentioned; rw [hk]; rfl) ha (by decide) (by simp) (by rw [tt _ hk]; simp [deedW])
    · exact wl 3 _ [x.a] hk rfl rfl (by unfold impl_Deed_mentioned; rw [hk]; rfl) ha (by decide) (by simp) (by rw [tt _ hk]; simp [deedW])
    · exact wl 4 _ [x.a] hk rfl rfl (by unfold impl_Deed_mentioned; rw [hk]; rfl) ha (by decide) (by simp) (by rw [tt _ hk]; simp [deedW])
    · exact wl 5 _ [x.a] hk rfl rfl (by unfold impl_Deed_mentioned; rw [hk]; rfl) ha (by decide) (by simp) (by rw [tt _ hk]; simp [deedW])
    · exact wl 6 _ [x.a] hk rfl rfl (by unfold impl_Deed_mentioned; rw [hk]; rfl) ha (by decide) (by simp) (by rw [tt _ hk]; simp [deedW])
    · exact wl 7 _ [] hk rfl rfl (by unfold impl_Deed_mentioned; rw [hk]; rfl) h0 (by decide) (by simp) (by rw [tt _ hk]; simp [deedW])
    · exact wl 8 _ [] hk rfl rfl (by unfold impl_Deed_mentioned; rw [hk]; rfl) h0 (by decide) (by simp) (by rw [tt _ hk]; simp [deedW])
theorem DeedText_spec {N : Nat} (hN : 20 ≤ N) (x : Deed) : spec_DeedText N x = some (bstr (if deedB x then deedT x else [])) := by
  unfold spec_DeedText
  rw [show (Deed.mk x.kind x.a x.b) = x from rfl, l10Deed_eq, bnd_s]
  cases h : deedB x with
  | false => rfl
  | true =>
    obtain ⟨hk, h1, h2⟩ := deedB_spec h
    have g1 := ok9_spec h1
    have g2 := ok9_spec h2
    have n1 := num_len (n := x.a) (by omega)
    have n2 := num_len (n := x.b) (by omega)
    have d1 := Decimal_num hN g1.1 (by omega)
    have d2 := Decimal_num hN g2.1 (by omega)
    have c1 : scat (bstr [32]) (bstr (num x.a)) = some (bstr (32 :: num x.a)) := scat_b (by simp only [List.length_cons, List.length_nil]; omega)
    have c2 : scat (bstr [32]) (bstr (num x.b)) = some (bstr (32 :: num x.b)) := scat_b (by simp only [List.length_cons, List.length_nil]; omega)
    have tt : ∀ k : Int, x.kind = k → deedT x = deedW k ++ (if k ≤ 6 then 32 :: num x.a else []) ++ (if k ≤ 1 then 32 :: num x.b else []) := fun k h => by unfold deedT; rw [h]
    have sc : ∀ (w : List UInt8) (t : List UInt8), w.length ≤ 100 → t.length ≤ 100 → scat (bstr w) (bstr t) = some (bstr (w ++ t)) := fun w t h1 h2 => scat_b (by omega)
    rw [if_neg (by simp), if_pos rfl]
    unfold spec_l10Words
    rw [bnd_s]
    rcases kinds hk with hk | hk | hk | hk | hk | hk | hk | hk <;> rw [tt _ hk, hk] <;> simp only [ix, d1, d2, c1, c2, bnd_s, thn_nx] <;> simp [deedW, bnd, thn, d1, d2, c1, c2]
    · rw [sc _ _ (by decide) (by rw [List.length_cons]; omega)]
      simp only []
      rw [sc _ _ (by simp only [List.length_append, List.length_cons, List.length_nil]; omega) (by rw [List.length_cons]; omega)]
      simp
    all_goals (rw [sc _ _ (by decide) (by rw [List.length_cons]; omega)]; simp)
end Go.Proofs.YtjjdbdlbjdoebaaDoor
