/-
  Plain law: LineText.
-/
import Derived.Test.YtbgkhipclkhlcaaDoorMS
namespace Go.Proofs.YtbgkhipclkhlcaaDoor
set_option linter.unusedVariables false
set_option linter.unusedSimpArgs false

/-- The texts with a byte between each two. -/
theorem spaced_loop : ∀ (l : List Int) (k : Nat) (s : List ByteArray), (∀ n ∈ l, 0 ≤ n) → s.length + l.length ≤ 1048576 → forL (σ := (List ByteArray)) (ρ := ByteArray) (fun (k58 : Nat) (x60 : Int) (s48 : (List ByteArray)) =>
   bnd (impl_dec x60) fun z69 =>
   bnd (ap s48 ([z69])) fun z79 =>
   some (.go z79)) l k s = some (.nx (s ++ l.map fun n => bstr (num n)))
  | [], _, s, _, _ => by simp
  | n :: l, k, s, h0, hl => by
    rw [List.length_cons] at hl
    rw [forL_go (s' := s ++ [bstr (num n)]) (by rw [dec_num (h0 n (by simp)), bnd_s, ap_eq (by simp only [List.length_cons, List.length_nil]; omega), bnd_s]), spaced_loop l (k + 1) _ (fun m hm => h0 m (by simp [hm])) (by simp only [List.length_append, List.length_singleton]; omega)]
    simp
theorem spaced_eq (l : List Int) (h0 : ∀ n ∈ l, 0 ≤ n) (h1 : ∀ n ∈ l, n ≤ 9223372036854775807) (hl : l.length ≤ 1048576) : impl_spaced l = some (bstr (Lib.join (l.map num) [32])) := by
  unfold impl_spaced
  rw [spaced_loop l 0 [] h0 (by simpa using hl), thn_nx, List.nil_append]
  have e : joinL (l.map fun n => bstr (num n)) (bstr [32]) = Lib.join (l.map num) [32] := by
    unfold joinL
    rw [List.map_map]
    rfl
  have hs : (Lib.join (l.map num) [32]).length ≤ 22 * l.length := by
    cases l with
    | nil => simp [Lib.join_nil]
    | cons a l =>
      rw [List.map_cons, Lib.join_length]
      have : ∀ l : List Int, (∀ n ∈ l, n ≤ 9223372036854775807) → Lib.lens (l.map num) ≤ 21 * l.length := by
        intro l
        induction l with
        | nil => intro _; simp [Lib.lens]
        | cons b l ih =>
          intro h
          have h2 := ih (fun n hn => h n (by simp [hn]))
          have h3 := num_len (h b (by simp))
          simp only [Lib.lens, List.map_cons, List.sum_cons, List.length_cons] at h2 ⊢
          omega
      have h4 := this (a :: l) h1
      simp only [List.length_cons, List.length_nil, List.length_map, List.map_cons] at h4 ⊢
      omega
  unfold strings_Join
  rw [e, if_pos ⟨by rw [List.length_map]; omega, by omega⟩, bnd_s]
  rfl
/-- A line that is well made. -/
def in9 (n : Int) : Bool := decide (0 ≤ n) && decide (n ≤ 999)
def lineB (x : Line) : Bool := (x.kind == 1 || x.kind == 2 || x.kind == 3) && in9 x.var && in9 x.value && in9 x.con && (x.kind == 2 || x.con == 0) && (x.kind != 3 || x.value == 0)
theorem ValidLine_eq (x : Line) : impl_ValidLine x = some (lineB x) := by
  unfold impl_ValidLine
  rw [within_b, bnd_s, areValues_b _ _ _ (by decide)]
  by_cases hk : x.kind = 1 ∨ x.kind = 2 ∨ x.kind = 3
  · have hw : (decide (1 ≤ x.kind) && decide (x.kind ≤ 3)) = true := by simp; omega
    rw [hw, if_neg (by simp), bnd_s, thn_nx]
    by_cases ha : (in9 x.var && in9 x.value && in9 x.con) = true
    · have ha' : (decide ((([x.var, x.value, x.con] : List Int).length : Int) = 3) && ([x.var, x.value, x.con].all fun y => decide (0 ≤ y) && decide (y ≤ 1000 - 1))) = true := by
        simp only [in9, Bool.and_eq_true] at ha
        simp only [List.all_cons, List.all_nil, Bool.and_eq_true, Bool.and_true]
        exact ⟨rfl, ha.1.1, ha.1.2, ha.2⟩
      rw [ha', if_neg (by simp)]
      simp only [Bool.and_eq_true] at ha
      unfold impl_Line_mentioned lineB
      rw [ha.1.1, ha.1.2, ha.2]
      have hc : ∀ l : List Int, slices_ContainsFunc_s_int64_int64 l (fun a0 => impl_ValidLine_1 a0) = some (l.any fun y => y != 0) := fun l => contains_b l _ _ (fun y _ => rfl)
      rcases hk with hk | hk | hk
      · simp only [hk, ck_eq (show -9223372036854775808 ≤ (1 : Int) - 1 by decide) (by decide), bnd_s, ix, sl, hc]
        simp [bne, bnd, hc]
      · simp only [hk, ck_eq (show -9223372036854775808 ≤ (2 : Int) - 1 by decide) (by decide), bnd_s, ix, sl, hc]
        simp [bne, bnd, hc]
      · simp only [hk, ck_eq (show -9223372036854775808 ≤ (3 : Int) - 1 by decide) (by decide), bnd_s, ix, sl, hc]
        simp [bne, bnd, hc]
        exact Bool.and_comm _ _
    · have ha' : (decide ((([x.var, x.value, x.con] : List Int).length : Int) = 3) && ([x.var, x.value, x.con].all fun y => decide (0 ≤ y) && decide (y ≤ 1000 - 1))) = false := by
        rw [Bool.not_eq_true] at ha
        rw [Bool.and_eq_false_iff]
        right
        simp only [in9] at ha
        simp only [List.all_cons, List.all_nil, Bool.and_true]
        rw [← Bool.and_assoc]
        exact ha
      rw [ha', if_pos (by simp)]
      unfold lineB
      rw [Bool.not_eq_true] at ha
      have : ((x.kind == 1 || x.kind == 2 || x.kind == 3) && in9 x.var && in9 x.value && in9 x.con) = false := by
        rw [Bool.and_assoc, Bool.and_assoc, ← Bool.and_assoc (in9 x.var), ha, Bool.and_false]
      rw [this]
      simp
  · have hw : (decide (1 ≤ x.kind) && decide (x.kind ≤ 3)) = false := by simp; omega
    rw [hw, if_pos (by simp), thn_nx, if_pos rfl]
    unfold lineB
    have : (x.kind == 1 || x.kind == 2 || x.kind == 3) = false := by simp; omega
    rw [this]
    simp
theorem l08Line_eq (x : Line) : spec_l08Line x = some (lineB x) := by
  unfold spec_l08Line spec_l08Numbers
  have h3 : (3 : Int).toNat = 3 := rfl
  have e0 : ix [x.var, x.value, x.con] ((0 : Nat) : Int) = some x.var := rfl
  have e1 : ix [x.var, x.value, x.con] ((1 : Nat) : Int) = some x.value := rfl
  have e2 : ix [x.var, x.value, x.con] ((2 : Nat) : Int) = some x.con := rfl
  have hin : ∀ y : Int, spec_l00In y 0 999 = some (in9 y) := fun y => in_b y 0 999
  have st : ∀ (c : Int), thn (σ := Unit) (forI (σ := Unit) (ρ := Bool) (fun (k76 : Nat) (s : Unit) =>
    match s with
    | _ =>
    thn (σ := Bool) (
     bnd (ix [x.var, x.value, x.con] (k76 : Int)) fun z104 =>
     bnd (spec_l00In z104 0 999) fun z112 =>
     if (!z112) then  some (.nx true) else  if (decide (c ≤ (k76 : Int))) then  some (.nx (z104 != 0)) else  some (.nx false)) fun s103 =>
    if s103 then
     some (.ret false)
    else
     some (.go ())) 3 0 ()) (fun _ => some (decide (0 < c))) = some (in9 x.var && (!decide (c ≤ 0) || x.var == 0) && in9 x.value && (!decide (c ≤ 1) || x.value == 0) && in9 x.con && (!decide (c ≤ 2) || x.con == 0) && decide (0 < c)) := by
    intro c
    simp only [forI, e0, e1, e2, bnd_s, hin, Nat.zero_add]
    cases hv : in9 x.var
    · rfl
    · cases ha : in9 x.value
      · by_cases c0 : c ≤ 0 <;> by_cases v0 : x.var = 0 <;> simp [c0, v0, thn]
      · cases hb : in9 x.con
        · by_cases c0 : c ≤ 0 <;> by_cases v0 : x.var = 0 <;> by_cases c1 : c ≤ 1 <;> by_cases v1 : x.value = 0 <;> simp [c0, v0, c1, v1, thn]
        · by_cases c0 : c ≤ 0 <;> by_cases v0 : x.var = 0 <;> by_cases c1 : c ≤ 1 <;> by_cases v1 : x.value = 0 <;> by_cases c2 : c ≤ 2 <;> by_cases v2 : x.con = 0 <;> simp [c0, v0, c1, v1, c2, v2, thn] <;> omega
  by_cases h1 : x.kind = 1
  · have hw : spec_l08Words x.kind = some (bstr [99, 104, 111, 111, 115, 101], 2) := by rw [h1]; rfl
    rw [hw, bnd_s, bnd_s, h3, st 2]
    unfold lineB
    rw [h1]
    simp [Bool.and_assoc]
  by_cases h2 : x.kind = 2
  · have hw : spec_l08Words x.kind = some (bstr [114, 101, 109, 111, 118, 101], 3) := by rw [h2]; rfl
    rw [hw, bnd_s, bnd_s, h3, st 3]
    unfold lineB
    rw [h2]
    simp [Bool.and_assoc]
  by_cases h4 : x.kind = 3
  · have hw : spec_l08Words x.kind = some (bstr [101, 109, 112, 116, 121], 1) := by rw [h4]; rfl
    rw [hw, bnd_s, bnd_s, h3, st 1]
    unfold lineB
    rw [h4]
    generalize (x.value == 0) = p
    generalize (x.con == 0) = q
    cases in9 x.var <;> cases in9 x.value <;> cases in9 x.con <;> cases p <;> cases q <;> simp
  · have hw : spec_l08Words x.kind = some (bstr [], 0) := by
      unfold spec_l08Words
      rw [if_neg (by simpa using h1), if_neg (by simpa using h2), if_neg (by simpa using h4)]
    rw [hw, bnd_s, bnd_s, h3, st 0]
    unfold lineB
    have : (x.kind == 1 || x.kind == 2 || x.kind == 3) = false := by simp [h1, h2, h4]
    rw [this]
    simp
theorem in9_spec {n : Int} (h : in9 n = true) : 0 ≤ n ∧ n ≤ 999 := by
  unfold in9 at h
  simp only [Bool.and_eq_true, decide_eq_true_eq] at h
  exact h
theorem lineB_spec {x : Line} (h : lineB x = true) : (x.kind = 1 ∨ x.kind = 2 ∨ x.kind = 3) ∧ in9 x.var = true ∧ in9 x.value = true ∧ in9 x.con = true := by
  unfold lineB at h
  simp only [Bool.and_eq_true, Bool.or_eq_true, beq_iff_eq] at h
  obtain ⟨⟨⟨⟨⟨h1, h2⟩, h3⟩, h4⟩, _⟩, _⟩ := h
  exact ⟨by omega, h2, h3, h4⟩
/-- A line's text. -/
def lineT (x : Line) : List UInt8 :=
  if x.kind = 1 then [99, 104, 111, 111, 115, 101] ++ 32 :: num x.var ++ 32 :: num x.value
  else if x.kind = 2 then [114, 101, 109, 111, 118, 101] ++ 32 :: num x.var ++ 32 :: num x.value ++ 32 :: num x.con
  else [101, 109, 112, 116, 121] ++ 32 :: num x.var
theorem LineText_impl (x : Line) : impl_LineText x = some (bstr (if lineB x then lineT x else [])) := by
  unfold impl_LineText
  rw [show (Line.mk x.kind x.var x.value x.con) = x from rfl, ValidLine_eq, bnd_s]
  cases h : lineB x with
  | false => rfl
  | true =>
    obtain ⟨hk, h1, h2, h3⟩ := lineB_spec h
    have g1 := in9_spec h1
    have g2 := in9_spec h2
    have g3 := in9_spec h3
    have n1 := num_len (n := x.var) (by omega)
    have n2 := num_len (n := x.value) (by omega)
    have n3 := num_len (n := x.con) (by omega)
    rw [if_neg (by simp), if_pos rfl]
    unfold impl_lineWords
    have sp : ∀ l : List Int, (∀ n ∈ l, 0 ≤ n ∧ n ≤ 999) → l.length ≤ 3 → impl_spaced l = some (bstr (Lib.join (l.map num) [32])) := fun l h hl => spaced_eq l (fun n hn => (h n hn).1) (fun n hn => by have := (h n hn).2; omega) (by omega)
    rcases hk with hk | hk | hk
    · have hm : impl_Line_mentioned x = some [x.var, x.value] := by unfold impl_Line_mentioned; rw [hk]; rfl
      rw [hk, ck_eq (by decide) (by decide), bnd_s, bnd_s, hm, show ix [bstr [99, 104, 111, 111, 115, 101], bstr [114, 101, 109, 111, 118, 101], bstr [101, 109, 112, 116, 121]] ((1 : Int) - 1) = some (bstr [99, 104, 111, 111, 115, 101]) from rfl, bnd_s, scat_b (by decide), bnd_s, bnd_s,
        sp _ (by simp only [List.forall_mem_cons, List.not_mem_nil, false_implies, implies_true, and_true]; exact ⟨g1, g2⟩) (by simp), bnd_s]
      have e : Lib.join ([x.var, x.value].map num) [32] = num x.var ++ 32 :: num x.value := by
        simp [Lib.join_cons, Lib.joinTail]
      rw [e, scat_b (by simp only [List.length_append, List.length_cons, List.length_nil]; omega), bnd_s]
      unfold lineT
      rw [if_pos hk]
      simp
    · have hm : impl_Line_mentioned x = some [x.var, x.value, x.con] := by unfold impl_Line_mentioned; rw [hk]; rfl
      rw [hk, ck_eq (by decide) (by decide), bnd_s, bnd_s, hm, show ix [bstr [99, 104, 111, 111, 115, 101], bstr [114, 101, 109, 111, 118, 101], bstr [101, 109, 112, 116, 121]] ((2 : Int) - 1) = some (bstr [114, 101, 109, 111, 118, 101]) from rfl, bnd_s, scat_b (by decide), bnd_s, bnd_s,
        sp _ (by simp only [List.forall_mem_cons, List.not_mem_nil, false_implies, implies_true, and_true]; exact ⟨g1, g2, g3⟩) (by simp), bnd_s]
      have e : Lib.join ([x.var, x.value, x.con].map num) [32] = num x.var ++ 32 :: num x.value ++ 32 :: num x.con := by
        simp [Lib.join_cons, Lib.joinTail]
      rw [e, scat_b (by simp only [List.length_append, List.length_cons, List.length_nil]; omega), bnd_s]
      unfold lineT
      rw [if_neg (by omega), if_pos hk]
      simp
    · have hm : impl_Line_mentioned x = some [x.var] := by unfold impl_Line_mentioned; rw [hk]; rfl
      rw [hk, ck_eq (by decide) (by decide), bnd_s, bnd_s, hm, show ix [bstr [99, 104, 111, 111, 115, 101], bstr [114, 101, 109, 111, 118, 101], bstr [101, 109, 112, 116, 121]] ((3 : Int) - 1) = some (bstr [101, 109, 112, 116, 121]) from rfl, bnd_s, scat_b (by decide), bnd_s, bnd_s,
        sp _ (by simp only [List.forall_mem_cons, List.not_mem_nil, false_implies, implies_true, and_true]; exact g1) (by simp), bnd_s]
      have e : Lib.join ([x.var].map num) [32] = num x.var := by
        simp [Lib.join_cons, Lib.joinTail]
      rw [e, scat_b (by simp only [List.length_append, List.length_cons, List.length_nil]; omega), bnd_s]
      unfold lineT
      rw [if_neg (by omega), if_neg (by omega)]
      simp
end Go.Proofs.YtbgkhipclkhlcaaDoor
