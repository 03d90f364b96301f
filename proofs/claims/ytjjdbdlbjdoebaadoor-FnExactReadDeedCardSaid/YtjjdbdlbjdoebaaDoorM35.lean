/-
  Plain law: ReadDeed, the program's side.
-/
import Derived.Test.YtjjdbdlbjdoebaaDoorM34
namespace Go.Proofs.YtjjdbdlbjdoebaaDoor
set_option linter.unusedVariables false
set_option linter.unusedSimpArgs false

theorem cutAt_mem (c : UInt8) : ∀ l : List UInt8, ∀ x ∈ cutAt c l, x.length ≤ l.length
  | [], x, hx => by
    rw [cutAt, List.mem_singleton] at hx
    rw [hx]
    exact Nat.le_refl _
  | b :: l, x, hx => by
    have ih := cutAt_mem c l
    rw [List.length_cons]
    by_cases h : b = c
    · rw [cutAt, if_pos h] at hx
      rcases List.mem_cons.1 hx with rfl | hx
      · exact Nat.zero_le _
      · have := ih x hx; omega
    · rw [cutAt, if_neg h] at hx
      cases hc : cutAt c l with
      | nil => exact absurd hc (cutAt_ne c l)
      | cons y r =>
        rw [hc] at hx ih
        rcases List.mem_cons.1 hx with rfl | hx
        · have := ih y (by simp); rw [List.length_cons]; omega
        · have := ih x (by simp [hx]); omega
/-- The number at a place of the words; 0 where there is none. -/
theorem at_word {ws : List (List UInt8)} (hw : ∀ x ∈ ws, x.length ≤ 1048576) (k : Nat) : ∃ a, (if decide ((k : Int) < ((ws.map bstr).length : Int)) = true then bnd (ix (ws.map bstr) (k : Int)) fun z161 => bnd (impl_readNumber z161) fun z169 => some (Out.nx (ρ := Deed × Int) z169) else some (.nx 0)) = some (.nx a) ∧ (ws.length ≤ k → a = 0) ∧ ∀ x, ws[k]? = some x → impl_readNumber (bstr x) = some a ∧ (0 ≤ a → num a = x) := by
  by_cases h : k < ws.length
  · have hg : ws[k]? = some ws[k] := List.getElem?_eq_getElem h
    obtain ⟨n, h1, h2⟩ := readNumber_some (hw _ (List.mem_of_getElem? hg))
    refine ⟨n, ?_, fun h3 => absurd h3 (by omega), fun x hx => ?_⟩
    · have hi : ix (ws.map bstr) (k : Int) = some (bstr ws[k]) := ix_nat (by rw [List.getElem?_map, hg]; rfl)
      rw [if_pos (decide_eq_true (by rw [List.length_map]; omega)), hi, bnd_s, h1, bnd_s]
    · rw [hg] at hx
      obtain rfl := Option.some.inj hx
      exact ⟨h1, h2⟩
  · refine ⟨0, ?_, fun _ => rfl, fun x hx => ?_⟩
    · rw [if_neg (by rw [List.length_map]; simp; omega)]
    · rw [List.getElem?_eq_none (by omega)] at hx
      cases hx
theorem deedT_ne {d : Deed} (h : 1 ≤ d.kind ∧ d.kind ≤ 8) : (deedT d == ([] : List UInt8)) = false := by
  rw [beq_eq_false_iff_ne]
  intro e
  unfold deedT at e
  have : deedW d.kind = [] := by
    have := congrArg List.length e
    simp only [List.length_append, List.length_nil] at this
    exact List.length_eq_zero_iff.1 (by omega)
  rcases kinds h with h | h | h | h | h | h | h | h <;> rw [h] at this <;> exact absurd this (by decide)
theorem last_step (d : Deed) (l : List UInt8) : (bnd (impl_DeedText d) fun z201 =>
 thn (σ := Bool) (
  if (sEq z201 (bstr [])) then  some (.nx true) else  some (.nx (!sEq z201 (bstr l)))) fun s209 =>
 if s209 then
  some badD
 else
  some (d, 0)) = some (if deedB d = true ∧ deedT d = l then (d, 0) else badD) := by
  rw [DeedText_impl, bnd_s, sEq_b, sEq_b]
  cases h : deedB d with
  | false =>
    rw [show (if false = true then deedT d else []) = ([] : List UInt8) from rfl, if_pos (show (([] : List UInt8) == []) = true from rfl), thn_nx, if_pos rfl, if_neg (fun h => by cases h.1)]
  | true =>
    rw [show (if true = true then deedT d else []) = deedT d from rfl, deedT_ne (deedB_spec h).1, if_neg (by simp), thn_nx]
    by_cases he : deedT d = l
    · rw [he, beq_self_eq_true, if_neg (by simp), if_pos ⟨rfl, rfl⟩]
    · have : (deedT d == l) = false := by rw [beq_eq_false_iff_ne]; exact he
      rw [this, if_pos (by rfl), if_neg (fun h => he h.2)]
theorem deedB_parts {k a b : Int} (h : deedB ⟨k, a, b⟩ = true) : (1 ≤ k ∧ k ≤ 8) ∧ (0 ≤ a ∧ a ≤ 999) ∧ (0 ≤ b ∧ b ≤ 999) ∧ (6 < k → a = 0) ∧ (1 < k → b = 0) := by
  obtain ⟨h1, h2, h3⟩ := deedB_spec h
  refine ⟨h1, ok9_spec h2, ok9_spec h3, fun hk => ?_, fun hk => ?_⟩
  · unfold deedB at h
    simp only [Bool.and_eq_true, Bool.or_eq_true, decide_eq_true_eq, beq_iff_eq] at h
    have := h.1.2
    omega
  · unfold deedB at h
    simp only [Bool.and_eq_true, Bool.or_eq_true, decide_eq_true_eq, beq_iff_eq] at h
    have := h.2
    omega
theorem deedB_of {k a b : Int} (h1 : 1 ≤ k ∧ k ≤ 8) (h2 : 0 ≤ a ∧ a ≤ 999) (h3 : 0 ≤ b ∧ b ≤ 999) (h4 : 6 < k → a = 0) (h5 : 1 < k → b = 0) : deedB ⟨k, a, b⟩ = true := by
  unfold deedB ok9
  simp only [Bool.and_eq_true, Bool.or_eq_true, decide_eq_true_eq, beq_iff_eq]
  exact ⟨⟨⟨h1, h2, h3⟩, by omega⟩, by omega⟩
/-- A text that is its deed's text reads as that deed; no other text reads as one. -/
theorem read_iff {w : List UInt8} {r : List (List UInt8)} {l : List UInt8} {a b : Int} (hc : cutAt 32 l = w :: r) (ha0 : (w :: r).length ≤ 1 → a = 0) (hb0 : (w :: r).length ≤ 2 → b = 0)
    (ha : ∀ x, (w :: r)[1]? = some x → impl_readNumber (bstr x) = some a ∧ (0 ≤ a → num a = x)) (hb : ∀ x, (w :: r)[2]? = some x → impl_readNumber (bstr x) = some b ∧ (0 ≤ b → num b = x)) :
    (if deedB ⟨kindOf w, a, b⟩ = true ∧ deedT ⟨kindOf w, a, b⟩ = l then ((⟨kindOf w, a, b⟩ : Deed), (0 : Int)) else badD) = resD (w :: r) := by
  have hj := join_cut 32 l
  rw [hc] at hj
  by_cases hC : deedB ⟨kindOf w, a, b⟩ = true ∧ deedT ⟨kindOf w, a, b⟩ = l
  · rw [if_pos hC]
    obtain ⟨hB, hT⟩ := hC
    obtain ⟨k1, a1, b1, a6, b6⟩ := deedB_parts hB
    obtain ⟨w1, w2⟩ := kindOf_word (kindOf w) k1.1 k1.2
    have na := num_noblank a
    have nb := num_noblank b
    have hT' : deedW (kindOf w) ++ (if kindOf w ≤ 6 then 32 :: num a else []) ++ (if kindOf w ≤ 1 then 32 :: num b else []) = l := hT
    obtain ⟨ia, va⟩ := isNum_num a1.1
    obtain ⟨ib, vb⟩ := isNum_num b1.1
    by_cases h6 : kindOf w ≤ 6
    · by_cases h1 : kindOf w ≤ 1
      · rw [if_pos h6, if_pos h1, List.append_assoc, List.cons_append] at hT'
        rw [← hT', cut_app _ w2, cut_app _ na, cut_one nb] at hc
        obtain ⟨e1, e2⟩ := List.cons.inj hc
        subst e2
        have hk : kindOf w = 1 := by omega
        rw [resD3, if_pos ⟨hk, ⟨ia, num_len9 a1.1 a1.2, by omega⟩, ib, num_len9 b1.1 b1.2, by omega⟩, va, vb, hk]
      · have hb' : b = 0 := b6 (by omega)
        rw [if_pos h6, if_neg h1, List.append_nil] at hT'
        rw [← hT', cut_app _ w2, cut_one na] at hc
        obtain ⟨e1, e2⟩ := List.cons.inj hc
        subst e2
        rw [resD2, if_pos ⟨⟨by omega, h6⟩, ia, num_len9 a1.1 a1.2, by omega⟩, va, hb']
    · have ha' : a = 0 := a6 (by omega)
      have hb' : b = 0 := b6 (by omega)
      rw [if_neg h6, if_neg (by omega), List.append_nil, List.append_nil] at hT'
      rw [← hT', cut_one w2] at hc
      obtain ⟨e1, e2⟩ := List.cons.inj hc
      subst e2
      rw [resD1, if_pos (by omega), ha', hb']
  · rw [if_neg hC]
    rcases kindOf_cases w with h0 | ⟨k1, k2, k3⟩
    · rw [resD0 r h0]
    · match r with
      | [] =>
        rw [resD1]
        by_cases h7 : kindOf w = 7 ∨ kindOf w = 8
        · exfalso
          have e1 := ha0 (Nat.le_refl _)
          have e2 := hb0 (by simp)
          subst e1 e2
          refine hC ⟨deedB_of ⟨k1, k2⟩ (by decide) (by decide) (fun _ => rfl) (fun _ => rfl), ?_⟩
          show deedW (kindOf w) ++ (if kindOf w ≤ 6 then _ else []) ++ (if kindOf w ≤ 1 then _ else []) = l
          rw [if_neg (by omega), if_neg (by omega), List.append_nil, List.append_nil, k3, ← hj]
          rfl
        · rw [if_neg h7]
      | [x] =>
        rw [resD2]
        by_cases h7 : (2 ≤ kindOf w ∧ kindOf w ≤ 6) ∧ isNum x = true ∧ x.length ≤ 9 ∧ dval 0 x ≤ 999
        · exfalso
          obtain ⟨h8, h9, h10, h11⟩ := h7
          have e2 := hb0 (by simp)
          obtain ⟨r1, r2⟩ := ha x rfl
          rw [readNumber_num h9 h10] at r1
          obtain rfl := Option.some.inj r1
          subst e2
          refine hC ⟨deedB_of ⟨k1, k2⟩ (by omega) (by decide) (fun _ => by omega) (fun _ => rfl), ?_⟩
          show deedW (kindOf w) ++ (if kindOf w ≤ 6 then 32 :: num _ else []) ++ (if kindOf w ≤ 1 then _ else []) = l
          rw [if_pos (by omega), if_neg (by omega), List.append_nil, k3, r2 (by omega), ← hj]
          rfl
        · rw [if_neg h7]
      | [x, y] =>
        rw [resD3]
        by_cases h7 : kindOf w = 1 ∧ (isNum x = true ∧ x.length ≤ 9 ∧ dval 0 x ≤ 999) ∧ isNum y = true ∧ y.length ≤ 9 ∧ dval 0 y ≤ 999
        · exfalso
          obtain ⟨h8, ⟨h9, h10, h11⟩, h12, h13, h14⟩ := h7
          obtain ⟨r1, r2⟩ := ha x rfl
          rw [readNumber_num h9 h10] at r1
          obtain rfl := Option.some.inj r1
          obtain ⟨r3, r4⟩ := hb y rfl
          rw [readNumber_num h12 h13] at r3
          obtain rfl := Option.some.inj r3
          refine hC ⟨deedB_of ⟨k1, k2⟩ (by omega) (by omega) (fun _ => by omega) (fun _ => by omega), ?_⟩
          show deedW (kindOf w) ++ (if kindOf w ≤ 6 then 32 :: num _ else []) ++ (if kindOf w ≤ 1 then 32 :: num _ else []) = l
          rw [if_pos (by omega), if_pos (by omega), k3, r2 (by omega), r4 (by omega), ← hj]
          simp [joinAt]
        · rw [if_neg h7]
      | x :: y :: z :: r => rfl
theorem ReadDeed_impl {l : List UInt8} (hl : l.length ≤ 1048576) : impl_ReadDeed (bstr l) = some (resD (cutAt 32 l)) := by
  unfold impl_ReadDeed
  rw [Split_eq hl, bnd_s, deedWords_eq]
  have hm := cutAt_mem 32 l
  cases hc : cutAt 32 l with
  | nil => exact absurd hc (cutAt_ne 32 l)
  | cons w r =>
    rw [hc] at hm
    obtain ⟨a, a1, a2, a3⟩ := at_word (ws := w :: r) (fun x hx => by have := hm x hx; omega) 1
    obtain ⟨b, b1, b2, b3⟩ := at_word (ws := w :: r) (fun x hx => by have := hm x hx; omega) 2
    have hk : -9223372036854775808 ≤ kindOf w - 1 + 1 ∧ kindOf w - 1 + 1 ≤ 9223372036854775807 := by
      rcases kindOf_cases w with h | ⟨h1, h2, _⟩ <;> omega
    rw [show ix ((w :: r).map bstr) 0 = some (bstr w) from rfl, bnd_s, bnd_s, index_kind, bnd_s, ck_eq hk.1 hk.2, bnd_s, show kindOf w - 1 + 1 = kindOf w by omega]
    have a1' : (if decide ((1 : Int) < (((w :: r).map bstr).length : Int)) = true then bnd (ix ((w :: r).map bstr) 1) fun z161 => bnd (impl_readNumber z161) fun z169 => some (Out.nx (ρ := Deed × Int) z169) else some (.nx 0)) = some (.nx a) := a1
    have b1' : (if decide ((2 : Int) < (((w :: r).map bstr).length : Int)) = true then bnd (ix ((w :: r).map bstr) 2) fun z190 => bnd (impl_readNumber z190) fun z198 => some (Out.nx (ρ := Deed × Int) z198) else some (.nx 0)) = some (.nx b) := b1
    rw [a1', thn_nx, b1', thn_nx]
    have hlast := last_step ⟨kindOf w, a, b⟩ l
    have hr := read_iff hc a2 b2 a3 b3
    rw [hr] at hlast
    exact hlast
end Go.Proofs.YtjjdbdlbjdoebaaDoor
