/-
  Plain law: ReadLine, the program's side.
-/
import Derived.Test.YtbgkhipclkhlcaaDoorMR
import Derived.Test.YtbgkhipclkhlcaaDoorM30
import Derived.Test.YtbgkhipclkhlcaaDoorS6
namespace Go.Proofs.YtbgkhipclkhlcaaDoor
set_option linter.unusedVariables false
set_option linter.unusedSimpArgs false

/-- The kind that a word names; 0 for none. -/
def kindL (w : List UInt8) : Int := if w = [99, 104, 111, 111, 115, 101] then 1 else if w = [114, 101, 109, 111, 118, 101] then 2 else if w = [101, 109, 112, 116, 121] then 3 else 0
def lineW (k : Int) : List UInt8 := if k = 1 then [99, 104, 111, 111, 115, 101] else if k = 2 then [114, 101, 109, 111, 118, 101] else [101, 109, 112, 116, 121]
theorem kindL_none {w : List UInt8} (h1 : w ≠ [99, 104, 111, 111, 115, 101]) (h2 : w ≠ [114, 101, 109, 111, 118, 101]) (h3 : w ≠ [101, 109, 112, 116, 121]) : kindL w = 0 := by
  unfold kindL
  rw [if_neg h1, if_neg h2, if_neg h3]
theorem kindL_cases (w : List UInt8) : kindL w = 0 ∨ (1 ≤ kindL w ∧ kindL w ≤ 3 ∧ lineW (kindL w) = w) := by
  by_cases h1 : w = [99, 104, 111, 111, 115, 101]
  · subst h1; exact .inr (by decide)
  by_cases h2 : w = [114, 101, 109, 111, 118, 101]
  · subst h2; exact .inr (by decide)
  by_cases h3 : w = [101, 109, 112, 116, 121]
  · subst h3; exact .inr (by decide)
  exact .inl (kindL_none h1 h2 h3)
theorem kindL_word : ∀ k : Int, 1 ≤ k → k ≤ 3 → kindL (lineW k) = k ∧ ∀ c ∈ lineW k, c ≠ 32 := by
  intro k h1 h2
  rcases (show k = 1 ∨ k = 2 ∨ k = 3 by omega) with h | h | h <;> subst h <;> decide
theorem index_kindL (w : List UInt8) : slices_Index_s_string_string [bstr [99, 104, 111, 111, 115, 101], bstr [114, 101, 109, 111, 118, 101], bstr [101, 109, 112, 116, 121]] (bstr w) = some (kindL w - 1) := by
  by_cases h1 : w = [99, 104, 111, 111, 115, 101]
  · subst h1; unfold slices_Index_s_string_string; simp only [forL, sEq_b]; rfl
  by_cases h2 : w = [114, 101, 109, 111, 118, 101]
  · subst h2; unfold slices_Index_s_string_string; simp only [forL, sEq_b]; rfl
  by_cases h3 : w = [101, 109, 112, 116, 121]
  · subst h3; unfold slices_Index_s_string_string; simp only [forL, sEq_b]; rfl
  rw [kindL_none h1 h2 h3]
  unfold slices_Index_s_string_string
  have e : ∀ u : List UInt8, w ≠ u → (w == u) = false := fun u h => by rw [beq_eq_false_iff_ne]; exact h
  simp only [forL, sEq_b, e _ h1, e _ h2, e _ h3, Bool.false_eq_true, if_false, thn_nx]
  rfl
/-- What a text of a line reads as. -/
def badL : Line × Int := (⟨0, 0, 0, 0⟩, 5)
def num9 (x : List UInt8) : Prop := isNum x = true ∧ x.length ≤ 9 ∧ dval 0 x ≤ 999
instance (x : List UInt8) : Decidable (num9 x) := by unfold num9; infer_instance
def resL (ws : List (List UInt8)) : Line × Int :=
  match ws with
  | [w, x] => if kindL w = 3 ∧ num9 x then (⟨3, (dval 0 x : Nat), 0, 0⟩, 0) else badL
  | [w, x, y] => if kindL w = 1 ∧ num9 x ∧ num9 y then (⟨1, (dval 0 x : Nat), (dval 0 y : Nat), 0⟩, 0) else badL
  | [w, x, y, z] => if kindL w = 2 ∧ num9 x ∧ num9 y ∧ num9 z then (⟨2, (dval 0 x : Nat), (dval 0 y : Nat), (dval 0 z : Nat)⟩, 0) else badL
  | _ => badL
theorem resL2 (w x : List UInt8) : resL [w, x] = if kindL w = 3 ∧ num9 x then (⟨3, (dval 0 x : Nat), 0, 0⟩, 0) else badL := rfl
theorem resL3 (w x y : List UInt8) : resL [w, x, y] = if kindL w = 1 ∧ num9 x ∧ num9 y then (⟨1, (dval 0 x : Nat), (dval 0 y : Nat), 0⟩, 0) else badL := rfl
theorem resL4 (w x y z : List UInt8) : resL [w, x, y, z] = if kindL w = 2 ∧ num9 x ∧ num9 y ∧ num9 z then (⟨2, (dval 0 x : Nat), (dval 0 y : Nat), (dval 0 z : Nat)⟩, 0) else badL := rfl
theorem resL0 {w : List UInt8} (r : List (List UInt8)) (h : kindL w = 0) : resL (w :: r) = badL := by
  match r with
  | [] => rfl
  | [x] => rw [resL2, if_neg (by omega)]
  | [x, y] => rw [resL3, if_neg (by omega)]
  | [x, y, z] => rw [resL4, if_neg (by omega)]
  | x :: y :: z :: u :: r => rfl
theorem in9_of {n : Int} (h : 0 ≤ n ∧ n ≤ 999) : in9 n = true := by
  unfold in9
  simp only [Bool.and_eq_true, decide_eq_true_eq]
  exact h
theorem lineB_parts {k a b c : Int} (h : lineB ⟨k, a, b, c⟩ = true) : (1 ≤ k ∧ k ≤ 3) ∧ (0 ≤ a ∧ a ≤ 999) ∧ (0 ≤ b ∧ b ≤ 999) ∧ (0 ≤ c ∧ c ≤ 999) ∧ (k ≠ 2 → c = 0) ∧ (k = 3 → b = 0) := by
  obtain ⟨h1, h2, h3, h4⟩ := lineB_spec h
  have h1' : k = 1 ∨ k = 2 ∨ k = 3 := h1
  refine ⟨by omega, in9_spec h2, in9_spec h3, in9_spec h4, fun hk => ?_, fun hk => ?_⟩
  · unfold lineB at h
    simp only [Bool.and_eq_true, Bool.or_eq_true, beq_iff_eq, bne_iff_ne] at h
    have := h.1.2
    omega
  · unfold lineB at h
    simp only [Bool.and_eq_true, Bool.or_eq_true, beq_iff_eq, bne_iff_ne] at h
    have := h.2
    omega
theorem lineB_of {k a b c : Int} (h1 : 1 ≤ k ∧ k ≤ 3) (h2 : 0 ≤ a ∧ a ≤ 999) (h3 : 0 ≤ b ∧ b ≤ 999) (h4 : 0 ≤ c ∧ c ≤ 999) (h5 : k ≠ 2 → c = 0) (h6 : k = 3 → b = 0) : lineB ⟨k, a, b, c⟩ = true := by
  unfold lineB
  simp only [Bool.and_eq_true, Bool.or_eq_true, beq_iff_eq, bne_iff_ne]
  exact ⟨⟨⟨⟨⟨by omega, in9_of h2⟩, in9_of h3⟩, in9_of h4⟩, by omega⟩, by omega⟩
theorem lineT_of {k a b c : Int} (h : 1 ≤ k ∧ k ≤ 3) : lineT ⟨k, a, b, c⟩ = lineW k ++ 32 :: num a ++ (if k ≤ 2 then 32 :: num b else []) ++ (if k = 2 then 32 :: num c else []) := by
  rcases (show k = 1 ∨ k = 2 ∨ k = 3 by omega) with h | h | h <;> subst h <;> simp [lineT, lineW]
theorem lineT_ne' (x : Line) : (lineT x == ([] : List UInt8)) = false := by
  unfold lineT
  split
  · rfl
  · split <;> rfl
theorem last_stepL (d : Line) (l : List UInt8) : (bnd (impl_LineText d) fun z201 =>
 thn (σ := Bool) (
  if (sEq z201 (bstr [])) then  some (.nx true) else  some (.nx (!sEq z201 (bstr l)))) fun s209 =>
 if s209 then
  some badL
 else
  some (d, 0)) = some (if lineB d = true ∧ lineT d = l then (d, 0) else badL) := by
  rw [LineText_impl, bnd_s, sEq_b, sEq_b]
  cases h : lineB d with
  | false =>
    rw [show (if false = true then lineT d else []) = ([] : List UInt8) from rfl, if_pos (show (([] : List UInt8) == []) = true from rfl), thn_nx, if_pos rfl, if_neg (fun h => by cases h.1)]
  | true =>
    rw [show (if true = true then lineT d else []) = lineT d from rfl, lineT_ne' d, if_neg (by simp), thn_nx]
    by_cases he : lineT d = l
    · rw [he, beq_self_eq_true, if_neg (by simp), if_pos ⟨rfl, rfl⟩]
    · have : (lineT d == l) = false := by rw [beq_eq_false_iff_ne]; exact he
      rw [this, if_pos (by rfl), if_neg (fun h => he h.2)]
theorem at_wordL {ρ : Type} {ws : List (List UInt8)} (hw : ∀ x ∈ ws, x.length ≤ 1048576) (k : Nat) : ∃ a, (if decide ((k : Int) < ((ws.map bstr).length : Int)) = true then bnd (ix (ws.map bstr) (k : Int)) fun z161 => bnd (impl_readNumber z161) fun z169 => some (Out.nx (ρ := ρ) z169) else some (.nx 0)) = some (.nx a) ∧ (ws.length ≤ k → a = 0) ∧ ∀ x, ws[k]? = some x → impl_readNumber (bstr x) = some a ∧ (0 ≤ a → num a = x) := by
  by_cases h : k < ws.length
  · have hg : ws[k]? = some ws[k] := List.getElem?_eq_getElem h
    obtain ⟨n, h1, h2⟩ := readNumber_some (hw _ (List.mem_of_getElem? hg))
    refine ⟨n, ?_, fun h3 => absurd h3 (by omega), fun x hx => ?_⟩
    · have hi : ix (ws.map bstr) (k : Int) = some (bstr ws[k]) := ix_nat (by rw [List.getElem?_map, hg]; rfl)
      rw [if_pos (decide_eq_true (by rw [List.length_map]; omega)), hi, bnd_s, h1, bnd_s]
    · rw [hg] at hx
      obtain rfl := Option.some.inj hx
      exact ⟨h1, h2⟩
  · refine ⟨0, ?_, fun _ => rfl, fun x hx => ?_⟩
    · rw [if_neg (by rw [List.length_map]; simp; omega)]
    · rw [List.getElem?_eq_none (by omega)] at hx
      cases hx
theorem read_iffL {w : List UInt8} {r : List (List UInt8)} {l : List UInt8} {a b c : Int} (hc : cutAt 32 l = w :: r) (ha0 : (w :: r).length ≤ 1 → a = 0) (hb0 : (w :: r).length ≤ 2 → b = 0) (hc0 : (w :: r).length ≤ 3 → c = 0)
    (ha : ∀ x, (w :: r)[1]? = some x → impl_readNumber (bstr x) = some a ∧ (0 ≤ a → num a = x)) (hb : ∀ x, (w :: r)[2]? = some x → impl_readNumber (bstr x) = some b ∧ (0 ≤ b → num b = x)) (hcc : ∀ x, (w :: r)[3]? = some x → impl_readNumber (bstr x) = some c ∧ (0 ≤ c → num c = x)) :
    (if lineB ⟨kindL w, a, b, c⟩ = true ∧ lineT ⟨kindL w, a, b, c⟩ = l then ((⟨kindL w, a, b, c⟩ : Line), (0 : Int)) else badL) = resL (w :: r) := by
  have hj := join_cut 32 l
  rw [hc] at hj
  by_cases hC : lineB ⟨kindL w, a, b, c⟩ = true ∧ lineT ⟨kindL w, a, b, c⟩ = l
  · rw [if_pos hC]
    obtain ⟨hB, hT⟩ := hC
    obtain ⟨k1, a1, b1, c1, c2, b3⟩ := lineB_parts hB
    obtain ⟨w1, w2⟩ := kindL_word (kindL w) k1.1 k1.2
    have na := num_noblank a
    have nb := num_noblank b
    have nc := num_noblank c
    rw [lineT_of k1] at hT
    obtain ⟨ia, va⟩ := isNum_num a1.1
    obtain ⟨ib, vb⟩ := isNum_num b1.1
    obtain ⟨ic, vc⟩ := isNum_num c1.1
    have qa : num9 (num a) := ⟨ia, num_len9 a1.1 a1.2, by omega⟩
    have qb : num9 (num b) := ⟨ib, num_len9 b1.1 b1.2, by omega⟩
    have qc : num9 (num c) := ⟨ic, num_len9 c1.1 c1.2, by omega⟩
    by_cases h3 : kindL w = 3
    · rw [if_neg (by omega), if_neg (by omega), List.append_nil, List.append_nil] at hT
      rw [← hT, cut_app _ w2, cut_one na] at hc
      obtain ⟨e1, e2⟩ := List.cons.inj hc
      subst e2
      rw [resL2, if_pos ⟨h3, qa⟩, va, h3, b3 h3, c2 (by omega)]
    · by_cases h2 : kindL w = 2
      · rw [if_pos (by omega), if_pos h2, List.append_assoc, List.append_assoc, List.cons_append, List.cons_append] at hT
        rw [← hT, cut_app _ w2, cut_app _ na, cut_app _ nb, cut_one nc] at hc
        obtain ⟨e1, e2⟩ := List.cons.inj hc
        subst e2
        rw [resL4, if_pos ⟨h2, qa, qb, qc⟩, va, vb, vc, h2]
      · have h1 : kindL w = 1 := by omega
        rw [if_pos (by omega), if_neg h2, List.append_nil, List.append_assoc, List.cons_append] at hT
        rw [← hT, cut_app _ w2, cut_app _ na, cut_one nb] at hc
        obtain ⟨e1, e2⟩ := List.cons.inj hc
        subst e2
        rw [resL3, if_pos ⟨h1, qa, qb⟩, va, vb, h1, c2 (by omega)]
  · rw [if_neg hC]
    rcases kindL_cases w with h0 | ⟨k1, k2, k3⟩
    · rw [resL0 r h0]
    · match r with
      | [] => rfl
      | [x] =>
        rw [resL2]
        by_cases h7 : kindL w = 3 ∧ num9 x
        · exfalso
          obtain ⟨h8, h9, h10, h11⟩ := h7
          have e2 := hb0 (by simp)
          have e3 := hc0 (by simp)
          obtain ⟨r1, r2⟩ := ha x rfl
          rw [readNumber_num h9 h10] at r1
          obtain rfl := Option.some.inj r1
          subst e2 e3
          refine hC ⟨lineB_of ⟨k1, k2⟩ (by omega) (by decide) (by decide) (fun _ => rfl) (fun _ => rfl), ?_⟩
          rw [lineT_of ⟨k1, k2⟩, if_neg (by omega), if_neg (by omega), List.append_nil, List.append_nil, k3, r2 (by omega), ← hj]
          rfl
        · rw [if_neg h7]
      | [x, y] =>
        rw [resL3]
        by_cases h7 : kindL w = 1 ∧ num9 x ∧ num9 y
        · exfalso
          obtain ⟨h8, ⟨h9, h10, h11⟩, h12, h13, h14⟩ := h7
          have e3 := hc0 (by simp)
          obtain ⟨r1, r2⟩ := ha x rfl
          rw [readNumber_num h9 h10] at r1
          obtain rfl := Option.some.inj r1
          obtain ⟨r3, r4⟩ := hb y rfl
          rw [readNumber_num h12 h13] at r3
          obtain rfl := Option.some.inj r3
          subst e3
          refine hC ⟨lineB_of ⟨k1, k2⟩ (by omega) (by omega) (by decide) (fun _ => rfl) (fun _ => by omega), ?_⟩
          rw [lineT_of ⟨k1, k2⟩, if_pos (by omega), if_neg (by omega), List.append_nil, k3, r2 (by omega), r4 (by omega), ← hj]
          simp [joinAt]
        · rw [if_neg h7]
      | [x, y, z] =>
        rw [resL4]
        by_cases h7 : kindL w = 2 ∧ num9 x ∧ num9 y ∧ num9 z
        · exfalso
          obtain ⟨h8, ⟨h9, h10, h11⟩, ⟨h12, h13, h14⟩, h15, h16, h17⟩ := h7
          obtain ⟨r1, r2⟩ := ha x rfl
          rw [readNumber_num h9 h10] at r1
          obtain rfl := Option.some.inj r1
          obtain ⟨r3, r4⟩ := hb y rfl
          rw [readNumber_num h12 h13] at r3
          obtain rfl := Option.some.inj r3
          obtain ⟨r5, r6⟩ := hcc z rfl
          rw [readNumber_num h15 h16] at r5
          obtain rfl := Option.some.inj r5
          refine hC ⟨lineB_of ⟨k1, k2⟩ (by omega) (by omega) (by omega) (fun _ => by omega) (fun _ => by omega), ?_⟩
          rw [lineT_of ⟨k1, k2⟩, if_pos (by omega), if_pos h8, k3, r2 (by omega), r4 (by omega), r6 (by omega), ← hj]
          simp [joinAt]
        · rw [if_neg h7]
      | x :: y :: z :: u :: r => rfl
theorem ReadLine_impl {l : List UInt8} (hl : l.length ≤ 1048576) : impl_ReadLine (bstr l) = some (resL (cutAt 32 l)) := by
  unfold impl_ReadLine
  rw [Split_eq hl, bnd_s]
  unfold impl_lineWords
  have hm := cutAt_mem 32 l
  cases hc : cutAt 32 l with
  | nil => exact absurd hc (cutAt_ne 32 l)
  | cons w r =>
    rw [hc] at hm
    obtain ⟨a, a1, a2, a3⟩ := at_wordL (ρ := Line × Int) (ws := w :: r) (fun x hx => by have := hm x hx; omega) 1
    obtain ⟨b, b1, b2, b3⟩ := at_wordL (ρ := Line × Int) (ws := w :: r) (fun x hx => by have := hm x hx; omega) 2
    obtain ⟨c, c1, c2, c3⟩ := at_wordL (ρ := Line × Int) (ws := w :: r) (fun x hx => by have := hm x hx; omega) 3
    have hk : -9223372036854775808 ≤ kindL w - 1 + 1 ∧ kindL w - 1 + 1 ≤ 9223372036854775807 := by
      rcases kindL_cases w with h | ⟨h1, h2, _⟩ <;> omega
    rw [show ix ((w :: r).map bstr) 0 = some (bstr w) from rfl, bnd_s, bnd_s, index_kindL, bnd_s, ck_eq hk.1 hk.2, bnd_s, show kindL w - 1 + 1 = kindL w by omega]
    have a1' : (if decide ((1 : Int) < (((w :: r).map bstr).length : Int)) = true then bnd (ix ((w :: r).map bstr) 1) fun z166 => bnd (impl_readNumber z166) fun z174 => some (Out.nx (ρ := Line × Int) z174) else some (.nx 0)) = some (.nx a) := a1
    have b1' : (if decide ((2 : Int) < (((w :: r).map bstr).length : Int)) = true then bnd (ix ((w :: r).map bstr) 2) fun z195 => bnd (impl_readNumber z195) fun z203 => some (Out.nx (ρ := Line × Int) z203) else some (.nx 0)) = some (.nx b) := b1
    have c1' : (if decide ((3 : Int) < (((w :: r).map bstr).length : Int)) = true then bnd (ix ((w :: r).map bstr) 3) fun z224 => bnd (impl_readNumber z224) fun z232 => some (Out.nx (ρ := Line × Int) z232) else some (.nx 0)) = some (.nx c) := c1
    rw [a1', thn_nx, b1', thn_nx, c1', thn_nx]
    have hlast := last_stepL ⟨kindL w, a, b, c⟩ l
    have hr := read_iffL hc a2 b2 c2 a3 b3 c3
    rw [hr] at hlast
    exact hlast
end Go.Proofs.YtbgkhipclkhlcaaDoor
