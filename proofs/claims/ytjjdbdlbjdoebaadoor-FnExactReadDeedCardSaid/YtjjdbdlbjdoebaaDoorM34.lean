/-
  Plain law: ReadDeed.
-/
import Derived.Test.YtjjdbdlbjdoebaaDoorMO
import Derived.Test.YtjjdbdlbjdoebaaDoorM32
namespace Go.Proofs.YtjjdbdlbjdoebaaDoor
set_option linter.unusedVariables false
set_option linter.unusedSimpArgs false

/-- The kind that a word names; 0 for none. -/
def kindOf (w : List UInt8) : Int :=
  if w = [103, 105, 118, 101] then 1 else if w = [119, 111, 114, 107] then 2 else if w = [100, 101, 108, 105, 118, 101, 114] then 3 else if w = [99, 111, 112, 121] then 4
  else if w = [100, 114, 111, 112] then 5 else if w = [115, 112, 111, 105, 108] then 6 else if w = [115, 97, 118, 101] then 7 else if w = [99, 114, 97, 115, 104] then 8 else 0
theorem kindOf_none {w : List UInt8} (h1 : w ≠ [103, 105, 118, 101]) (h2 : w ≠ [119, 111, 114, 107]) (h3 : w ≠ [100, 101, 108, 105, 118, 101, 114]) (h4 : w ≠ [99, 111, 112, 121]) (h5 : w ≠ [100, 114, 111, 112]) (h6 : w ≠ [115, 112, 111, 105, 108]) (h7 : w ≠ [115, 97, 118, 101]) (h8 : w ≠ [99, 114, 97, 115, 104]) : kindOf w = 0 := by
  unfold kindOf
  rw [if_neg h1, if_neg h2, if_neg h3, if_neg h4, if_neg h5, if_neg h6, if_neg h7, if_neg h8]
theorem kindOf_cases (w : List UInt8) : kindOf w = 0 ∨ (1 ≤ kindOf w ∧ kindOf w ≤ 8 ∧ deedW (kindOf w) = w) := by
  by_cases h1 : w = [103, 105, 118, 101]
  · subst h1; exact .inr (by decide)
  by_cases h2 : w = [119, 111, 114, 107]
  · subst h2; exact .inr (by decide)
  by_cases h3 : w = [100, 101, 108, 105, 118, 101, 114]
  · subst h3; exact .inr (by decide)
  by_cases h4 : w = [99, 111, 112, 121]
  · subst h4; exact .inr (by decide)
  by_cases h5 : w = [100, 114, 111, 112]
  · subst h5; exact .inr (by decide)
  by_cases h6 : w = [115, 112, 111, 105, 108]
  · subst h6; exact .inr (by decide)
  by_cases h7 : w = [115, 97, 118, 101]
  · subst h7; exact .inr (by decide)
  by_cases h8 : w = [99, 114, 97, 115, 104]
  · subst h8; exact .inr (by decide)
  exact .inl (kindOf_none h1 h2 h3 h4 h5 h6 h7 h8)
theorem kindOf_word : ∀ k : Int, 1 ≤ k → k ≤ 8 → kindOf (deedW k) = k ∧ ∀ c ∈ deedW k, c ≠ 32 := by
  intro k h1 h2
  rcases kinds ⟨h1, h2⟩ with h | h | h | h | h | h | h | h <;> subst h <;> decide
theorem index_kind (w : List UInt8) : slices_Index_s_string_string [bstr [103, 105, 118, 101], bstr [119, 111, 114, 107], bstr [100, 101, 108, 105, 118, 101, 114], bstr [99, 111, 112, 121], bstr [100, 114, 111, 112], bstr [115, 112, 111, 105, 108], bstr [115, 97, 118, 101], bstr [99, 114, 97, 115, 104]] (bstr w) = some (kindOf w - 1) := by
  by_cases h1 : w = [103, 105, 118, 101]
  · subst h1; unfold slices_Index_s_string_string; simp only [forL, sEq_b]; rfl
  by_cases h2 : w = [119, 111, 114, 107]
  · subst h2; unfold slices_Index_s_string_string; simp only [forL, sEq_b]; rfl
  by_cases h3 : w = [100, 101, 108, 105, 118, 101, 114]
  · subst h3; unfold slices_Index_s_string_string; simp only [forL, sEq_b]; rfl
  by_cases h4 : w = [99, 111, 112, 121]
  · subst h4; unfold slices_Index_s_string_string; simp only [forL, sEq_b]; rfl
  by_cases h5 : w = [100, 114, 111, 112]
  · subst h5; unfold slices_Index_s_string_string; simp only [forL, sEq_b]; rfl
  by_cases h6 : w = [115, 112, 111, 105, 108]
  · subst h6; unfold slices_Index_s_string_string; simp only [forL, sEq_b]; rfl
  by_cases h7 : w = [115, 97, 118, 101]
  · subst h7; unfold slices_Index_s_string_string; simp only [forL, sEq_b]; rfl
  by_cases h8 : w = [99, 114, 97, 115, 104]
  · subst h8; unfold slices_Index_s_string_string; simp only [forL, sEq_b]; rfl
  rw [kindOf_none h1 h2 h3 h4 h5 h6 h7 h8]
  unfold slices_Index_s_string_string
  have e : ∀ u : List UInt8, w ≠ u → (w == u) = false := fun u h => by rw [beq_eq_false_iff_ne]; exact h
  simp only [forL, sEq_b, e _ h1, e _ h2, e _ h3, e _ h4, e _ h5, e _ h6, e _ h7, e _ h8, Bool.false_eq_true, if_false, thn_nx]
  rfl
/-- What a text of a deed reads as. -/
def resD (ws : List (List UInt8)) : Deed × Int :=
  match ws with
  | [w] => if kindOf w = 7 ∨ kindOf w = 8 then (⟨kindOf w, 0, 0⟩, 0) else (⟨0, 0, 0⟩, 5)
  | [w, x] => if (2 ≤ kindOf w ∧ kindOf w ≤ 6) ∧ isNum x = true ∧ x.length ≤ 9 ∧ dval 0 x ≤ 999 then (⟨kindOf w, (dval 0 x : Nat), 0⟩, 0) else (⟨0, 0, 0⟩, 5)
  | [w, x, y] => if kindOf w = 1 ∧ (isNum x = true ∧ x.length ≤ 9 ∧ dval 0 x ≤ 999) ∧ isNum y = true ∧ y.length ≤ 9 ∧ dval 0 y ≤ 999 then (⟨1, (dval 0 x : Nat), (dval 0 y : Nat)⟩, 0) else (⟨0, 0, 0⟩, 5)
  | _ => (⟨0, 0, 0⟩, 5)
theorem ok9_nat {n : Nat} : ok9 (n : Int) = decide (n ≤ 999) := by
  unfold ok9
  by_cases h : n ≤ 999
  · rw [decide_eq_true h]; simp; omega
  · rw [decide_eq_false h]; simp; omega
/-- The words that the reference compares. -/
def pick (w : List UInt8) : Nat → Nat → Int → Int
  | 0, _, kd => kd
  | m + 1, k, kd => pick w m (k + 1) (if deedW (k : Int) = w then (k : Int) else kd)
theorem pick_kind (w : List UInt8) : pick w 8 1 0 = kindOf w := by
  by_cases h1 : w = [103, 105, 118, 101]
  · subst h1; decide
  by_cases h2 : w = [119, 111, 114, 107]
  · subst h2; decide
  by_cases h3 : w = [100, 101, 108, 105, 118, 101, 114]
  · subst h3; decide
  by_cases h4 : w = [99, 111, 112, 121]
  · subst h4; decide
  by_cases h5 : w = [100, 114, 111, 112]
  · subst h5; decide
  by_cases h6 : w = [115, 112, 111, 105, 108]
  · subst h6; decide
  by_cases h7 : w = [115, 97, 118, 101]
  · subst h7; decide
  by_cases h8 : w = [99, 114, 97, 115, 104]
  · subst h8; decide
  rw [kindOf_none h1 h2 h3 h4 h5 h6 h7 h8]
  have e : ∀ k : Nat, 1 ≤ k → k ≤ 8 → deedW (k : Int) ≠ w := fun k h9 h10 h => by
    have h11 := (kindOf_word (k : Int) (by omega) (by omega)).1
    rw [h, kindOf_none h1 h2 h3 h4 h5 h6 h7 h8] at h11
    omega
  simp only [pick, if_neg (e 1 (by decide) (by decide)), if_neg (e 2 (by decide) (by decide)), if_neg (e 3 (by decide) (by decide)), if_neg (e 4 (by decide) (by decide)), if_neg (e 5 (by decide) (by decide)), if_neg (e 6 (by decide) (by decide)), if_neg (e 7 (by decide) (by decide)), if_neg (e 8 (by decide) (by decide))]
def wordsL : List ByteArray := [(bstr []), (bstr [103, 105, 118, 101]), (bstr [119, 111, 114, 107]), (bstr [100, 101, 108, 105, 118, 101, 114]), (bstr [99, 111, 112, 121]), (bstr [100, 114, 111, 112]), (bstr [115, 112, 111, 105, 108]), (bstr [115, 97, 118, 101]), (bstr [99, 114, 97, 115, 104])]
theorem ix_words (k : Nat) (h : k < 9) : ix wordsL (k : Int) = some (bstr (deedW (k : Int))) := by
  match k, h with
  | 0, _ => rfl
  | 1, _ => rfl
  | 2, _ => rfl
  | 3, _ => rfl
  | 4, _ => rfl
  | 5, _ => rfl
  | 6, _ => rfl
  | 7, _ => rfl
  | 8, _ => rfl
theorem words_loop (w : List UInt8) (r : List (List UInt8)) : ∀ (m k N : Nat) (kd : Int), k + m = 9 → m < N → whl (σ := Int × Int) (ρ := Deed × Int) (fun (s : Int × Int) =>
    match s with
    | (s108, s110) =>
    if (decide (s108 < (wordsL.length : Int))) then
     bnd (ix wordsL s108) fun z124 =>
     bnd (ix ((w :: r).map bstr) 0) fun z131 =>
     if (sEq z124 z131) then
      bnd (ck (s108 + 1)) fun z139 =>
      some (.go (z139, s108))
     else
      bnd (ck (s108 + 1)) fun z141 =>
      some (.go (z141, s110))
    else
     some (.brk (s108, s110))) N ((k : Int), kd) = some (.nx (9, pick w m k kd))
  | 0, k, N, kd, hk, hN => by
    obtain ⟨M, rfl⟩ : ∃ M, N = M + 1 := ⟨N - 1, by omega⟩
    have h9 : k = 9 := by omega
    subst h9
    rw [whl_brk (s' := (((9 : Nat) : Int), kd)) rfl]
    rfl
  | m + 1, k, N, kd, hk, hN => by
    obtain ⟨M, rfl⟩ : ∃ M, N = M + 1 := ⟨N - 1, by omega⟩
    rw [whl_go (s' := (((k + 1 : Nat) : Int), if deedW (k : Int) = w then (k : Int) else kd)) (by
      have hl : (wordsL.length : Int) = 9 := rfl
      have hlt : (k : Int) < 9 := by omega
      have hc : ck ((k : Int) + 1) = some ((k + 1 : Nat) : Int) := ck_eq (by omega) (by omega)
      simp only [hl, decide_eq_true hlt, if_true, ix_words k (by omega), bnd_s]
      rw [show ix ((w :: r).map bstr) 0 = some (bstr w) from rfl, bnd_s, sEq_b, hc]
      by_cases he : deedW (k : Int) = w
      · rw [he, beq_self_eq_true, if_pos rfl, if_pos rfl, bnd_s]
      · have : (deedW (k : Int) == w) = false := by rw [beq_eq_false_iff_ne]; exact he
        rw [this, if_neg (by simp), if_neg he, bnd_s])]
    exact words_loop w r m (k + 1) M _ (by omega) (by omega)
/-- The second loop of the reference: its numbers. -/
def badD : Deed × Int := (⟨0, 0, 0⟩, 5)
def body2 (z13 : List ByteArray) (s : Int × Int × Int) : Option (Ctl (Int × Int × Int) (Deed × Int)) :=
     match s with
     | (s230, s232, s234) =>
     if (decide (s230 < (z13.length : Int))) then
      bnd (ix z13 s230) fun z250 =>
      bnd (spec_l01Number z250) fun z258 =>
      if (!z258.2) then
       some (.ret ((Deed.mk 0 0 0), 5))
      else
       if (s230 == 1) then
        bnd (ck (s230 + 1)) fun z265 =>
        some (.go (z265, z258.1, s234))
       else
        bnd (ck (s230 + 1)) fun z267 =>
        some (.go (z267, s232, z258.1))
     else
      some (.brk (s230, s232, s234))
def numB (x : List UInt8) : Bool := isNum x && decide (x.length ≤ 9)
theorem body2_step {z : List ByteArray} {k : Nat} {x : List UInt8} (a b : Int) (hk : z[k]? = some (bstr x)) (h9 : k ≤ 1000) : body2 z ((k : Int), a, b) = some (if numB x then .go (((k + 1 : Nat) : Int), if k = 1 then ((dval 0 x : Nat) : Int) else a, if k = 1 then b else ((dval 0 x : Nat) : Int)) else .ret badD) := by
  have hl : (k : Int) < (z.length : Int) := by
    have := (List.getElem?_eq_some_iff.1 hk).1
    omega
  have hi : ix z (k : Int) = some (bstr x) := ix_nat hk
  have hc : ck ((k : Int) + 1) = some ((k + 1 : Nat) : Int) := ck_eq (by omega) (by omega)
  unfold body2
  simp only [decide_eq_true hl, if_true, hi, bnd_s, l01Number_eq, hc]
  have e : (isNum x && decide (x.length ≤ 9)) = numB x := rfl
  simp only [e]
  cases numB x with
  | false => rfl
  | true =>
    simp only [Bool.not_true, Bool.false_eq_true, if_false, if_true]
    by_cases h1 : k = 1
    · subst h1; rfl
    · have h2 : ((k : Int) == 1) = false := by rw [beq_eq_false_iff_ne]; omega
      rw [h2, if_neg h1, if_neg h1]
      rfl
theorem loop1 {M : Nat} (w : List UInt8) : whl (body2 [bstr w]) (M + 3) (1, 0, 0) = some (.nx (1, 0, 0)) := whl_brk rfl
theorem loop2 {M : Nat} (w x : List UInt8) : whl (body2 [bstr w, bstr x]) (M + 3) (1, 0, 0) = some (if numB x then .nx (2, (dval 0 x : Nat), 0) else .ret badD) := by
  have h1 : body2 [bstr w, bstr x] ((1 : Int), (0 : Int), (0 : Int)) = some (if numB x then .go ((2 : Int), ((dval 0 x : Nat) : Int), (0 : Int)) else .ret badD) := body2_step (k := 1) 0 0 rfl (by decide)
  cases hx : numB x with
  | false => rw [hx] at h1; rw [whl_rt (r := badD) h1]; rfl
  | true => rw [hx] at h1; rw [whl_go (s' := ((2 : Int), ((dval 0 x : Nat) : Int), (0 : Int))) h1, whl_brk rfl]; rfl
theorem loop3 {M : Nat} (w x y : List UInt8) : whl (body2 [bstr w, bstr x, bstr y]) (M + 3) (1, 0, 0) = some (if numB x && numB y then .nx (3, (dval 0 x : Nat), (dval 0 y : Nat)) else .ret badD) := by
  have h1 : body2 [bstr w, bstr x, bstr y] ((1 : Int), (0 : Int), (0 : Int)) = some (if numB x then .go ((2 : Int), ((dval 0 x : Nat) : Int), (0 : Int)) else .ret badD) := body2_step (k := 1) 0 0 rfl (by decide)
  have h2 : body2 [bstr w, bstr x, bstr y] ((2 : Int), ((dval 0 x : Nat) : Int), (0 : Int)) = some (if numB y then .go ((3 : Int), ((dval 0 x : Nat) : Int), ((dval 0 y : Nat) : Int)) else .ret badD) := body2_step (k := 2) ((dval 0 x : Nat) : Int) 0 rfl (by decide)
  cases hx : numB x with
  | false => rw [hx] at h1; rw [whl_rt (r := badD) h1]; rfl
  | true =>
    rw [hx] at h1
    rw [whl_go (s' := ((2 : Int), ((dval 0 x : Nat) : Int), (0 : Int))) h1]
    cases hy : numB y with
    | false => rw [hy] at h2; rw [whl_rt (r := badD) h2]; rfl
    | true => rw [hy] at h2; rw [whl_go (s' := ((3 : Int), ((dval 0 x : Nat) : Int), ((dval 0 y : Nat) : Int))) h2, whl_brk rfl]; rfl
theorem resD1 (w : List UInt8) : resD [w] = if kindOf w = 7 ∨ kindOf w = 8 then (⟨kindOf w, 0, 0⟩, 0) else badD := rfl
theorem resD2 (w x : List UInt8) : resD [w, x] = if (2 ≤ kindOf w ∧ kindOf w ≤ 6) ∧ isNum x = true ∧ x.length ≤ 9 ∧ dval 0 x ≤ 999 then (⟨kindOf w, (dval 0 x : Nat), 0⟩, 0) else badD := rfl
theorem resD3 (w x y : List UInt8) : resD [w, x, y] = if kindOf w = 1 ∧ (isNum x = true ∧ x.length ≤ 9 ∧ dval 0 x ≤ 999) ∧ isNum y = true ∧ y.length ≤ 9 ∧ dval 0 y ≤ 999 then (⟨1, (dval 0 x : Nat), (dval 0 y : Nat)⟩, 0) else badD := rfl
theorem resD0 {w : List UInt8} (r : List (List UInt8)) (h : kindOf w = 0) : resD (w :: r) = badD := by
  match r with
  | [] => rw [resD1, if_neg (by omega)]
  | [x] => rw [resD2, if_neg (by omega)]
  | [x, y] => rw [resD3, if_neg (by omega)]
  | x :: y :: z :: r => rfl
theorem told_eq (k : Int) (h : 1 ≤ k ∧ k ≤ 8) : ix ([0, 2, 1, 1, 1, 1, 1, 0, 0] : List Int) k = some (if k ≤ 1 then 2 else if k ≤ 6 then 1 else 0) := by
  rcases kinds h with h | h | h | h | h | h | h | h <;> subst h <;> rfl
/-- What follows the two loops. -/
def fin2 (kd : Int) (s : Int × Int × Int) : Option (Deed × Int) :=
  bnd (spec_l10Deed (Deed.mk kd s.2.1 s.2.2)) fun z270 =>
  if (!z270) then
   some ((Deed.mk 0 0 0), 5)
  else
   some ((Deed.mk kd s.2.1 s.2.2), 0)
theorem fin2_eq (kd a b : Int) (i : Int) : fin2 kd (i, a, b) = some (if deedB ⟨kd, a, b⟩ then (⟨kd, a, b⟩, 0) else badD) := by
  unfold fin2
  rw [l10Deed_eq, bnd_s]
  cases deedB ⟨kd, a, b⟩ <;> rfl
theorem ReadDeed_spec {N : Nat} (hN : 20 ≤ N) {l : List UInt8} (hl : l.length ≤ 1048576) : spec_ReadDeed N (bstr l) = some (resD (cutAt 32 l)) := by
  obtain ⟨M, rfl⟩ : ∃ M, N = M + 3 := ⟨N - 3, by omega⟩
  unfold spec_ReadDeed
  rw [l01Split_eq hl, bnd_s]
  unfold spec_l10Words
  rw [bnd_s]
  have hlen := cutAt_len 32 l
  cases hc : cutAt 32 l with
  | nil => exact absurd hc (cutAt_ne 32 l)
  | cons w r =>
    rw [hc] at hlen
    have hw := words_loop w r 8 1 (M + 3) 0 rfl (by omega)
    rw [pick_kind] at hw
    have hw' : whl (σ := Int × Int) (ρ := Deed × Int) (fun (s : Int × Int) =>
        match s with
        | (s108, s110) =>
        if (decide (s108 < (wordsL.length : Int))) then
         bnd (ix wordsL s108) fun z124 =>
         bnd (ix ((w :: r).map bstr) 0) fun z131 =>
         if (sEq z124 z131) then
          bnd (ck (s108 + 1)) fun z139 =>
          some (.go (z139, s108))
         else
          bnd (ck (s108 + 1)) fun z141 =>
          some (.go (z141, s110))
        else
         some (.brk (s108, s110))) (M + 3) (1, 0) = some (.nx (9, kindOf w)) := hw
    show thn (whl (σ := Int × Int) (ρ := Deed × Int) (fun (s : Int × Int) =>
        match s with
        | (s108, s110) =>
        if (decide (s108 < (wordsL.length : Int))) then
         bnd (ix wordsL s108) fun z124 =>
         bnd (ix ((w :: r).map bstr) 0) fun z131 =>
         if (sEq z124 z131) then
          bnd (ck (s108 + 1)) fun z139 =>
          some (.go (z139, s108))
         else
          bnd (ck (s108 + 1)) fun z141 =>
          some (.go (z141, s110))
        else
         some (.brk (s108, s110))) (M + 3) (1, 0)) (fun (s112, s114) => thn (σ := Bool) (
  if (s114 == 0) then  some (.nx true) else  bnd (ix ([0, 2, 1, 1, 1, 1, 1, 0, 0] : List Int) s114) fun z161 =>
   bnd (ck (z161 + 1)) fun z169 =>
   some (.nx ((((w :: r).map bstr).length : Int) != z169))) fun s158 =>
 if s158 then
  some badD
 else
  thn (whl (body2 ((w :: r).map bstr)) (M + 3) (1, 0, 0)) (fin2 s114)) = _
    rw [hw', thn_nx]
    simp only []
    rcases kindOf_cases w with h0 | ⟨h1, h2, h3⟩
    · rw [h0, if_pos (show ((0 : Int) == 0) = true from rfl), thn_nx, if_pos rfl, resD0 r h0]
    · have hk0 : ¬ (kindOf w == 0) = true := by simp; omega
      have hck : ∀ t : Int, 0 ≤ t ∧ t ≤ 2 → ck (t + 1) = some (t + 1) := fun t ht => ck_eq (by omega) (by omega)
      rw [if_neg hk0, told_eq _ ⟨h1, h2⟩, bnd_s, hck _ (by split <;> first | omega | (split <;> omega)), bnd_s, thn_nx]
      match r with
      | [] =>
        by_cases h7 : kindOf w = 7 ∨ kindOf w = 8
        · rw [if_neg (by rw [if_neg (by omega), if_neg (by omega)]; simp)]
          rw [show ([w] : List (List UInt8)).map bstr = [bstr w] from rfl, loop1, thn_nx, fin2_eq]
          have hd : deedB ⟨kindOf w, 0, 0⟩ = true := by
            unfold deedB ok9
            simp
            omega
          rw [hd, if_pos rfl]
          rw [resD1]
          rw [if_pos h7]
        · have : (if kindOf w ≤ 1 then (2 : Int) else if kindOf w ≤ 6 then 1 else 0) ≠ 0 := by split <;> first | omega | (split <;> omega)
          rw [if_pos (by simp; omega)]
          rw [resD1]
          rw [if_neg h7]
      | [x] =>
        by_cases h7 : 2 ≤ kindOf w ∧ kindOf w ≤ 6
        · rw [if_neg (by rw [if_neg (by omega), if_pos (by omega)]; simp)]
          rw [show ([w, x] : List (List UInt8)).map bstr = [bstr w, bstr x] from rfl, loop2]
          rw [resD2]
          cases hx : numB x with
          | false =>
            have : ¬ ((2 ≤ kindOf w ∧ kindOf w ≤ 6) ∧ isNum x = true ∧ x.length ≤ 9 ∧ dval 0 x ≤ 999) := fun h => by
              have : numB x = true := by unfold numB; rw [h.2.1, decide_eq_true h.2.2.1]; rfl
              rw [this] at hx
              cases hx
            rw [if_neg this]
            rfl
          | true =>
            unfold numB at hx
            simp only [Bool.and_eq_true, decide_eq_true_eq] at hx
            rw [if_pos rfl, thn_nx, fin2_eq]
            have hd : deedB ⟨kindOf w, ((dval 0 x : Nat) : Int), 0⟩ = decide (dval 0 x ≤ 999) := by
              unfold deedB
              rw [ok9_nat]
              simp [ok9, h1, h2, h7.2]
            rw [hd]
            by_cases h9 : dval 0 x ≤ 999
            · rw [decide_eq_true h9, if_pos rfl, if_pos ⟨h7, hx.1, hx.2, h9⟩]
            · rw [decide_eq_false h9, if_neg (by simp), if_neg (fun h => h9 h.2.2.2)]
        · have : (if kindOf w ≤ 1 then (2 : Int) else if kindOf w ≤ 6 then 1 else 0) ≠ 1 := by split <;> first | omega | (split <;> omega)
          rw [if_pos (by simp; omega)]
          rw [resD2]
          rw [if_neg (fun h => h7 h.1)]
      | [x, y] =>
        by_cases h7 : kindOf w = 1
        · rw [if_neg (by rw [if_pos (by omega)]; simp)]
          rw [show ([w, x, y] : List (List UInt8)).map bstr = [bstr w, bstr x, bstr y] from rfl, loop3]
          rw [resD3]
          cases hx : (numB x && numB y) with
          | false =>
            have : ¬ (kindOf w = 1 ∧ (isNum x = true ∧ x.length ≤ 9 ∧ dval 0 x ≤ 999) ∧ isNum y = true ∧ y.length ≤ 9 ∧ dval 0 y ≤ 999) := fun h => by
              have h8 : numB x = true := by unfold numB; rw [h.2.1.1, decide_eq_true h.2.1.2.1]; rfl
              have h9 : numB y = true := by unfold numB; rw [h.2.2.1, decide_eq_true h.2.2.2.1]; rfl
              rw [h8, h9] at hx
              cases hx
            rw [if_neg this]
            rfl
          | true =>
            unfold numB at hx
            simp only [Bool.and_eq_true, decide_eq_true_eq] at hx
            rw [if_pos rfl, thn_nx, fin2_eq]
            have hd : deedB ⟨kindOf w, ((dval 0 x : Nat) : Int), ((dval 0 y : Nat) : Int)⟩ = (decide (dval 0 x ≤ 999) && decide (dval 0 y ≤ 999)) := by
              unfold deedB
              rw [ok9_nat, ok9_nat]
              simp [h7]
            rw [hd]
            by_cases h9 : dval 0 x ≤ 999 ∧ dval 0 y ≤ 999
            · rw [decide_eq_true h9.1, decide_eq_true h9.2, if_pos (show (true && true) = true from rfl), if_pos ⟨h7, ⟨hx.1.1, hx.1.2, h9.1⟩, hx.2.1, hx.2.2, h9.2⟩, h7]
            · have : (decide (dval 0 x ≤ 999) && decide (dval 0 y ≤ 999)) = false := by
                rw [Bool.and_eq_false_iff, decide_eq_false_iff_not, decide_eq_false_iff_not]
                omega
              rw [this, if_neg (by simp), if_neg (fun h => h9 ⟨h.2.1.2.2, h.2.2.2.2⟩)]
        · have : (if kindOf w ≤ 1 then (2 : Int) else if kindOf w ≤ 6 then 1 else 0) ≠ 2 := by split <;> first | omega | (split <;> omega)
          rw [if_pos (by simp; omega)]
          rw [resD3]
          rw [if_neg (fun h => h7 h.1)]
      | x :: y :: z :: r =>
        have : (if kindOf w ≤ 1 then (2 : Int) else if kindOf w ≤ 6 then 1 else 0) ≤ 2 := by split <;> first | omega | (split <;> omega)
        rw [if_pos (by simp; omega)]
        rfl
end Go.Proofs.YtjjdbdlbjdoebaaDoor
