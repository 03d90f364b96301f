/-
  Plain laws: an operation on a relation: what is made, whether it breaks.
-/
import Derived.Test.YtfepllddlmhjiaaM5
import Derived.Test.YtfepllddlmhjiaaM3
namespace Go.Proofs.Ytfepllddlmhjiaa
set_option linter.unusedVariables false
set_option linter.unusedSimpArgs false

theorem pow_any {T : Int} {m N : Nat} (h0 : 0 ≤ T) (h1 : T ≤ 1048576) (hm : 1 ≤ m ∧ m ≤ 3) (hN : 5 ≤ N) : ∃ p, impl_power T (m : Int) = some p ∧ spec_l01Power N T (m : Int) = some p ∧ 0 ≤ p ∧ p ≤ 1152921504606846976 ∧ (T = 0 → p = 0) := by
  obtain ⟨M, rfl⟩ : ∃ M, N = M + 5 := ⟨N - 5, by omega⟩
  have b2 : 0 ≤ T * T ∧ T * T ≤ 1048576 * 1048576 := ⟨Int.mul_nonneg h0 h0, Int.mul_le_mul h1 h1 h0 (by omega)⟩
  have b3 : 0 ≤ T * T * T ∧ T * T * T ≤ 1048576 * 1048576 * 1048576 := ⟨Int.mul_nonneg b2.1 h0, Int.mul_le_mul b2.2 h1 h0 (by omega)⟩
  have c1 : ck T = some T := ck_eq (by omega) (by omega)
  have c2 : ck (T * T) = some (T * T) := ck_eq (by omega) (by omega)
  have c3 : ck (T * T * T) = some (T * T * T) := ck_eq (by omega) (by omega)
  have k1 : ck 0 = some 0 := by decide
  have k2 : ck 1 = some 1 := by decide
  have k3 : ck 2 = some 2 := by decide
  match m, hm with
  | 1, _ => exact ⟨T, by simp [impl_power, forI, c1], by simp [spec_l01Power, whl, c1, k1], by omega, by omega, fun h => h⟩
  | 2, _ => exact ⟨T * T, by simp [impl_power, forI, c1, c2], by simp [spec_l01Power, whl, c1, c2, k1, k2], by omega, by omega, fun h => by rw [h]; rfl⟩
  | 3, _ => exact ⟨T * T * T, by simp [impl_power, forI, c1, c2, c3], by simp [spec_l01Power, whl, c1, c2, c3, k1, k2, k3], by omega, by omega, fun h => by rw [h]; rfl⟩
theorem code_loop {ρ : Type} : ∀ (l : List Int) (k : Nat) (s : Int), Bits l → 0 ≤ s → (s + 1) * ((2 ^ l.length : Nat) : Int) ≤ 1000 →
    forL (σ := Int) (ρ := ρ) (fun (k34 : Nat) (x36 : Int) (s30 : Int) =>
      bnd (ck (s30 * 2)) fun z41 =>
      bnd (ck (z41 + x36)) fun z48 =>
      some (.go z48)) l k s = some (.nx (l.foldl (fun a x => a * 2 + x) s))
  | [], _, _, _, _, _ => rfl
  | x :: l, k, s, hb, h0, h1 => by
    have hx := hb x (by simp)
    have hP : (1 : Int) ≤ ((2 ^ l.length : Nat) : Int) := by have := Nat.one_le_two_pow (n := l.length); omega
    have hPe : ((2 ^ (x :: l).length : Nat) : Int) = ((2 ^ l.length : Nat) : Int) * 2 := by rw [List.length_cons, Nat.pow_succ]; push_cast; rfl
    rw [hPe] at h1
    obtain ⟨P, hPd⟩ : ∃ P, P = ((2 ^ l.length : Nat) : Int) := ⟨_, rfl⟩
    rw [← hPd] at hP h1
    clear hPe
    have h2 : (s + 1) * 2 ≤ (s + 1) * (P * 2) := Int.mul_le_mul_of_nonneg_left (by omega) (by omega)
    have h3 : (s * 2 + x + 1) * P ≤ (s + 1) * (P * 2) := by
      have : (s * 2 + x + 1) * P ≤ ((s + 1) * 2) * P := Int.mul_le_mul_of_nonneg_right (by omega) (by omega)
      rw [Int.mul_assoc, Int.mul_comm 2 P] at this
      exact this
    rw [forL_go (s' := s * 2 + x) (by simp only [ck_eq (x := s * 2) (by omega) (by omega), bnd_s, ck_eq (x := s * 2 + x) (by omega) (by omega)])]
    exact code_loop l (k + 1) (s * 2 + x) (fun a ha => hb a (by simp [ha])) (by omega) (by rw [← hPd]; omega)
theorem forL_mapped {α β σ ρ : Type} (g : α → β) {b : Nat → α → σ → Option (Ctl σ ρ)} {b' : Nat → β → σ → Option (Ctl σ ρ)} : ∀ (l : List α) (i : Nat) (s : σ), (∀ i x s, x ∈ l → b i x s = b' i (g x) s) → forL b l i s = forL b' (l.map g) i s
  | [], _, _, _ => rfl
  | x :: l, i, s, h => by
    have ih := fun s' => forL_mapped g l (i + 1) s' (fun i y s hy => h i y s (by simp [hy]))
    simp only [List.map_cons, forL, h i x s (by simp)]
    cases b' i (g x) s with
    | none => rfl
    | some c => cases c <;> simp only [ih]
theorem forI_map {β ρ : Type} {n : Nat} (g : Nat → β) {b : Nat → List β → Option (Ctl (List β) ρ)}
    (h1 : ∀ (i : Nat) s, i < n → s.length = i → b i s = some (.go (s ++ [g i]))) :
    ∀ (m k : Nat) (s : List β), s.length = k → k + m ≤ n → forI b m k s = some (.nx (s ++ (List.range' k m).map g))
  | 0, k, s, hs, _ => by simp [forI]
  | m + 1, k, s, hs, hk => by
    rw [forI_go (h1 k s (by omega) hs), forI_map g h1 m (k + 1) (s ++ [g k]) (by simp [hs]) (by omega)]
    simp [List.range'_succ]
theorem forL_fill {α β ρ : Type} {n : Nat} (g : Nat → β) {b : Nat → α → List β → Option (Ctl (List β) ρ)}
    (h1 : ∀ (i : Nat) x s, i < n → s.length = n → b i x s = some (.go (s.set i (g i)))) :
    ∀ (l : List α) (k : Nat) (s : List β), s.length = n → k + l.length ≤ n → ∃ s', forL b l k s = some (.nx s') ∧ s'.length = n ∧ ∀ j, s'[j]? = if k ≤ j ∧ j < k + l.length then some (g j) else s[j]?
  | [], k, s, hs, _ => ⟨s, rfl, hs, fun j => by rw [if_neg (by simp)]⟩
  | x :: l, k, s, hs, hk => by
    rw [List.length_cons] at hk
    obtain ⟨s', h2, h3, h4⟩ := forL_fill g h1 l (k + 1) (s.set k (g k)) (by simpa using hs) (by omega)
    refine ⟨s', by rw [forL_go (h1 k x s (by omega) hs)]; exact h2, h3, fun j => ?_⟩
    rw [h4 j, List.length_cons, List.getElem?_set]
    by_cases hj : k = j
    · subst hj
      rw [if_neg (by omega), if_pos rfl, if_pos (by omega), if_pos (by omega)]
    · rw [if_neg hj]
      by_cases hj2 : k + 1 ≤ j ∧ j < k + 1 + l.length
      · rw [if_pos hj2, if_pos (by omega)]
      · rw [if_neg hj2, if_neg (by omega)]
def col (sel : List (List Int)) (k : Nat) : List Int := sel.map fun t => t.getD k 0
def valO (o : Op) (sel : List (List Int)) (k : Nat) : Int := o.table.getD (codeN (col sel k)).toNat 0
def mkR (o : Op) (sel : List (List Int)) (n : Nat) : List Int := (List.range' 0 n).map (valO o sel)
structure OpOk (o : Op) (m : Nat) : Prop where
  ar : o.arity = m
  m1 : 1 ≤ m
  m3 : m ≤ 3
  tl : o.table.length = 2 ^ m
  tb : Bits o.table
theorem col_bits {sel : List (List Int)} {n : Nat} (h : ∀ t ∈ sel, Bits t ∧ t.length = n) (k : Nat) : Bits (col sel k) := by
  intro a ha
  obtain ⟨t, ht, rfl⟩ := List.mem_map.1 ha
  have := bit (h t ht).1 k
  omega
theorem val_at {o : Op} {m : Nat} (ho : OpOk o m) {sel : List (List Int)} {n : Nat} (h : ∀ t ∈ sel, Bits t ∧ t.length = n) (hm : sel.length = m) (k : Nat) : spec_l01Code 2 (col sel k) = some (codeN (col sel k)) ∧ ix o.table (codeN (col sel k)) = some (valO o sel k) ∧ (0 ≤ valO o sel k ∧ valO o sel k ≤ 1) := by
  have hl : (col sel k).length = m := by unfold col; rw [List.length_map, hm]
  obtain ⟨c1, c2, c3⟩ := code_eq (col_bits h k) (by have := ho.m3; omega)
  rw [hl] at c3
  have hlt : (codeN (col sel k)).toNat < o.table.length := by rw [ho.tl]; omega
  have hx : o.table[(codeN (col sel k)).toNat]? = some (o.table[(codeN (col sel k)).toNat]'hlt) := List.getElem?_eq_getElem hlt
  have hv : valO o sel k = o.table[(codeN (col sel k)).toNat]'hlt := getD_of' hx
  refine ⟨c1, ?_, ?_⟩
  · rw [hv]; exact ix_of c2 hx
  · rw [hv]; exact ho.tb _ (List.getElem_mem hlt)
theorem make_eq {o : Op} {m n : Nat} (ho : OpOk o m) (hn : n ≤ 4) {sel : List (List Int)} (h : ∀ t ∈ sel, Bits t ∧ t.length = n) (hm : sel.length = m) : spec_l02Make 2 o sel = some (mkR o sel n) := by
  have hm1 := ho.m1
  have hm3 := ho.m3
  have hx : sel[0]? = some (sel[0]'(by omega)) := List.getElem?_eq_getElem (by omega)
  have hx2 := (h _ (List.mem_of_getElem? hx)).2
  generalize sel[0]'(by omega) = t0 at hx hx2
  unfold spec_l02Make
  rw [show ix sel 0 = some t0 from ix_nat hx, bnd_s, hx2, show ((n : Nat) : Int).toNat = n from by omega]
  rw [forI_map (n := n) (valO o sel) (fun i s hi hs => by
    rw [forL_map sel (fun t => t.getD i 0) (fun j x s2 hj hs2 => by
      have hxt := h x (List.mem_of_getElem? hj)
      have hjl := (List.getElem?_eq_some_iff.1 hj).1
      have hxi : x[i]? = some (x[i]'(by omega)) := List.getElem?_eq_getElem (by omega)
      generalize x[i]'(by omega) = y at hxi
      simp only [ix_nat hxi, bnd_s, ap_eq (l := s2) (m := [y]) (by simp; omega), getD_of' hxi]) sel 0 [] rfl rfl]
    obtain ⟨v1, v2, v3⟩ := val_at ho h hm i
    unfold col at v1 v2
    simp only [thn_nx, List.nil_append]
    unfold spec_l02Value
    simp only [v1, bnd_s, v2, ap_eq (l := s) (m := [valO o sel i]) (by simp; omega)]) n 0 [] rfl (by omega)]
  rfl
theorem made_eq {o : Op} {m n : Nat} (ho : OpOk o m) (hn : n ≤ 4) {sel : List (List Int)} (h : ∀ t ∈ sel, Bits t ∧ t.length = n) (hm : sel.length = m) : impl_made 2 o sel = some (mkR o sel n) := by
  have hm1 := ho.m1
  have hm3 := ho.m3
  have hx : sel[0]? = some (sel[0]'(by omega)) := List.getElem?_eq_getElem (by omega)
  have hx2 := (h _ (List.mem_of_getElem? hx)).2
  generalize sel[0]'(by omega) = t0 at hx hx2
  have hz : mkz (0 : Int) (n : Int) = some (List.replicate n 0) := by unfold mkz; rw [if_pos ⟨by omega, by omega⟩]; simp
  unfold impl_made
  rw [show ix sel 0 = some t0 from ix_nat hx, bnd_s, hx2, hz, bnd_s]
  obtain ⟨s', h2, h3, h4⟩ := forL_fill (α := Int) (ρ := List Int) (n := n) (valO o sel) (b := fun (k217 : Nat) (x219 : Int) (s205 : (List Int)) =>
      thn (σ := Int) (
        forL (σ := Int) (ρ := (Ctl ((List Int)) (List Int))) (fun (k255 : Nat) (x257 : (List Int)) (s251 : Int) =>
          bnd (ck (s251 * 2)) fun z269 =>
          bnd (ix x257 (k217 : Int)) fun z271 =>
          bnd (ck (z269 + z271)) fun z278 =>
          some (.go z278)) sel 0 0) fun s253 =>
      bnd (ix o.table s253) fun z280 =>
      bnd (ix s205 (k217 : Int)) fun z287 =>
      some (.go (s205.set ((k217 : Int)).toNat z280))) (fun i x s hi hs => by
    obtain ⟨v1, v2, v3⟩ := val_at ho h hm i
    have hcl : (col sel i).length ≤ 3 := by unfold col; rw [List.length_map]; omega
    have hp : ((0 : Int) + 1) * ((2 ^ (col sel i).length : Nat) : Int) ≤ 1000 := by
      have : ∀ k : Nat, k ≤ 3 → ((0 : Int) + 1) * ((2 ^ k : Nat) : Int) ≤ 1000 := by
        intro k hk
        match k, hk with
        | 0, _ => decide
        | 1, _ => decide
        | 2, _ => decide
        | 3, _ => decide
      exact this _ hcl
    have hsi : s[i]? = some (s[i]'(by omega)) := List.getElem?_eq_getElem (by omega)
    generalize s[i]'(by omega) = y at hsi
    rw [forL_mapped (fun t => t.getD i 0) (b' := fun (k34 : Nat) (x36 : Int) (s30 : Int) =>
      bnd (ck (s30 * 2)) fun z41 =>
      bnd (ck (z41 + x36)) fun z48 =>
      some (.go z48)) sel 0 0 (fun j t s2 ht => by
        have hxt := h t ht
        have hxi : t[i]? = some (t[i]'(by omega)) := List.getElem?_eq_getElem (by omega)
        generalize t[i]'(by omega) = y at hxi
        simp only [ix_nat hxi, bnd_s, getD_of' hxi])]
    have hcl2 := code_loop (ρ := (Ctl ((List Int)) (List Int))) (col sel i) 0 0 (col_bits h i) (by omega) hp
    unfold col at hcl2
    rw [hcl2]
    have v2' : ix o.table (List.foldl (fun a x => a * 2 + x) 0 (List.map (fun t => t.getD i 0) sel)) = some (valO o sel i) := v2
    simp only [thn_nx, v2', bnd_s, ix_nat hsi, Int.toNat_natCast]) (List.replicate n 0) 0 (List.replicate n 0) (by simp) (by simp)
  rw [h2, thn_nx]
  congr 1
  apply List.ext_getElem?
  intro j
  rw [h4 j]
  unfold mkR
  by_cases hj : j < n
  · rw [if_pos (by simp; omega), List.getElem?_map, List.getElem?_range' hj]
    simp
  · rw [if_neg (by simp; omega), List.getElem?_eq_none (by simp; omega), List.getElem?_eq_none (by simp; omega)]
end Go.Proofs.Ytfepllddlmhjiaa
