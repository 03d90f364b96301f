/-
  Plain laws: what an operation makes of a relation's tuples.
-/
import Derived.Test.YtfepllddlmhjiaaM4
import Derived.Test.YtfepllddlmhjiaaX3
namespace Go.Proofs.Ytfepllddlmhjiaa
set_option linter.unusedVariables false
set_option linter.unusedSimpArgs false

def Bits (l : List Int) : Prop := ∀ a ∈ l, 0 ≤ a ∧ a ≤ 1
def allBits : Nat → List (List Int)
  | 0 => [[]]
  | n + 1 => (allBits n).flatMap fun l => [0 :: l, 1 :: l]
theorem mem_allBits : ∀ (l : List Int), Bits l → l ∈ allBits l.length
  | [], _ => by simp [allBits]
  | a :: l, h => by
    have h1 := mem_allBits l (fun b hb => h b (by simp [hb]))
    have h2 := h a (by simp)
    rw [List.length_cons]
    unfold allBits
    refine List.mem_flatMap.2 ⟨l, h1, ?_⟩
    have : a = 0 ∨ a = 1 := by omega
    rcases this with rfl | rfl <;> simp
def codeN (l : List Int) : Int := l.foldl (fun a x => a * 2 + x) 0
def codeOk (n : Nat) (a : List Int) : Bool := decide (spec_l01Code 2 a = some (codeN a)) && (decide (0 ≤ codeN a) && decide (codeN a < ((2 ^ n : Nat) : Int)))
theorem codes0 : ([0, 1, 2, 3, 4].all fun n => (allBits n).all (codeOk n)) = true := by decide +kernel
def ltOk (a b : List Int) : Bool := !(decide (cmpM a b < 0)) || decide (codeN a < codeN b)
theorem lts0 : ([0, 1, 2, 3, 4].all fun n => (allBits n).all fun a => (allBits n).all fun b => ltOk a b) = true := by decide +kernel
theorem mem5 {n : Nat} (h : n < 5) : n ∈ [0, 1, 2, 3, 4] := by simp; omega
theorem code_eq {l : List Int} (h : Bits l) (hl : l.length < 5) : spec_l01Code 2 l = some (codeN l) ∧ 0 ≤ codeN l ∧ codeN l < ((2 ^ l.length : Nat) : Int) := by
  have h1 := List.all_eq_true.1 codes0 l.length (mem5 hl)
  have h2 := List.all_eq_true.1 h1 l (mem_allBits l h)
  unfold codeOk at h2
  simp only [Bool.and_eq_true, decide_eq_true_eq] at h2
  exact ⟨h2.1, h2.2.1, h2.2.2⟩
theorem code_lt {a b : List Int} (ha : Bits a) (hb : Bits b) (hl : a.length = b.length) (h5 : a.length < 5) (h : cmpM a b < 0) : codeN a < codeN b := by
  have h1 := List.all_eq_true.1 lts0 a.length (mem5 h5)
  have h2 := List.all_eq_true.1 h1 a (mem_allBits a ha)
  have h3 := List.all_eq_true.1 h2 b (by rw [hl]; exact mem_allBits b hb)
  unfold ltOk at h3
  simpa [h] using h3
theorem indexOf_eq : impl_indexOf = spec_l01Code := rfl
theorem digits_eq : spec_l01Digits = impl_listOf := rfl

/-! ### The set of a relation -/
def setOf (l : List (List Int)) (s : List Bool) : List Bool := l.foldl (fun s t => s.set (codeN t).toNat true) s
theorem setOf_length : ∀ (l : List (List Int)) (s : List Bool), (setOf l s).length = s.length
  | [], _ => rfl
  | t :: l, s => by
    show (setOf l (s.set (codeN t).toNat true)).length = s.length
    rw [setOf_length l]; simp
theorem setOf_keep : ∀ (l : List (List Int)) (s : List Bool) (v : Nat), s[v]? = some true → (setOf l s)[v]? = some true
  | [], _, _, h => h
  | t :: l, s, v, h => by
    refine setOf_keep l _ v ?_
    rw [List.getElem?_set]
    split
    · have : (codeN t).toNat < s.length := by have := (List.getElem?_eq_some_iff.1 h).1; omega
      simp_all
    · exact h
theorem setOf_mem : ∀ (l : List (List Int)) (s : List Bool) (t : List Int), t ∈ l → (codeN t).toNat < s.length → (setOf l s)[(codeN t).toNat]? = some true
  | [], _, _, h, _ => by cases h
  | u :: l, s, t, h, hl => by
    rcases List.mem_cons.1 h with rfl | h
    · exact setOf_keep l _ _ (by rw [List.getElem?_set, if_pos rfl, if_pos hl])
    · exact setOf_mem l _ t h (by simpa using hl)
theorem set_loop {ρ : Type} {n : Nat} (hn : n < 5) : ∀ (l : List (List Int)) (k : Nat) (s : List Bool), (∀ t ∈ l, Bits t ∧ t.length = n) → s.length = 2 ^ n →
    forL (σ := (List Bool)) (ρ := ρ) (fun (k141 : Nat) (x143 : (List Int)) (s129 : (List Bool)) =>
      bnd (spec_l01Code 2 x143) fun z172 =>
      bnd (ix s129 z172) fun z174 =>
      some (.go (s129.set (z172).toNat true))) l k s = some (.nx (setOf l s))
  | [], _, _, _, _ => rfl
  | t :: l, k, s, h, hs => by
    obtain ⟨h1, h2⟩ := h t (by simp)
    obtain ⟨c1, c2, c3⟩ := code_eq h1 (by omega)
    rw [h2] at c3
    have hlt : (codeN t).toNat < s.length := by rw [hs]; omega
    have hx : ix s (codeN t) = some (s[(codeN t).toNat]'hlt) := ix_of c2 (List.getElem?_eq_getElem hlt)
    rw [forL_go (s' := s.set (codeN t).toNat true) (by simp only [c1, bnd_s, hx])]
    exact set_loop hn l (k + 1) _ (fun u hu => h u (by simp [hu])) (by simpa using hs)
/-- Numbers that rise, as many as there are. -/
theorem rising {T : Nat} (f : Nat → Nat) (h : ∀ j, j + 1 < T → f j < f (j + 1)) (hT : ∀ j, j < T → f j < T) : ∀ j, j < T → f j = j := by
  have h1 : ∀ j, j < T → j ≤ f j := by
    intro j
    induction j with
    | zero => intro _; omega
    | succ j ih => intro hj; have := ih (by omega); have := h j hj; omega
  have h2 : ∀ d j, j + d + 1 = T → f j + d < T := by
    intro d
    induction d with
    | zero => intro j hj; exact hT j (by omega)
    | succ d ih => intro j hj; have := ih (j + 1) (by omega); have := h j (by omega); omega
  intro j hj
  have := h1 j hj
  have := h2 (T - 1 - j) j (by omega)
  omega

/-! ### Digits, powers -/
theorem dig_loop {ρ : Type} {T : Int} (hT : 1 ≤ T) : ∀ (i : Nat) (r : Int) (d : List Int) (N : Nat), i ≤ d.length → i ≤ 1000 → 0 ≤ r → r ≤ 9223372036854775807 → (∀ a ∈ d, 0 ≤ a ∧ a < T) → i + 1 ≤ N →
    ∃ r' j d', whl (σ := Int × Int × (List Int)) (ρ := ρ) (fun (s : Int × Int × (List Int)) =>
      match s with
      | (s64, s66, s68) =>
        if (decide (0 ≤ s66)) then
          bnd (rm s64 T) fun z89 =>
          bnd (ix s68 s66) fun z91 =>
          bnd (dv s64 T) fun z102 =>
          bnd (ck (s66 - 1)) fun z104 =>
          some (.go (z102, z104, (s68.set (s66).toNat z89)))
        else
          some (.brk (s64, s66, s68))) N (r, (i : Int) - 1, d) = some (.nx (r', j, d')) ∧ d'.length = d.length ∧ ∀ a ∈ d', 0 ≤ a ∧ a < T
  | 0, r, d, N, _, _, h0, h1, hd, hN => by
    obtain ⟨M, rfl⟩ : ∃ M, N = M + 1 := ⟨N - 1, by omega⟩
    refine ⟨r, ((0 : Nat) : Int) - 1, d, whl_brk ?_, rfl, hd⟩
    simp
  | i + 1, r, d, N, hi, hi2, h0, h1, hd, hN => by
    obtain ⟨M, rfl⟩ : ∃ M, N = M + 1 := ⟨N - 1, by omega⟩
    have e1 : ((i + 1 : Nat) : Int) - 1 = (i : Int) := by omega
    have hx : d[i]? = some (d[i]'(by omega)) := List.getElem?_eq_getElem (by omega)
    have hm0 := Int.emod_nonneg r (show T ≠ 0 by omega)
    have hm1 := Int.emod_lt_of_pos r (show 0 < T by omega)
    have hr : rm r T = some (r % T) := by unfold rm; rw [if_neg (by omega), Int.tmod_eq_emod_of_nonneg h0]
    have hq0 := Int.ediv_nonneg h0 (show 0 ≤ T by omega)
    have hq1 := Int.ediv_le_self T h0
    have hdv : dv r T = some (r / T) := by unfold dv; rw [if_neg (by omega), Int.tdiv_eq_ediv_of_nonneg h0]; exact ck_eq (by omega) (by omega)
    obtain ⟨r', j, d', h2, h3, h4⟩ := dig_loop (ρ := ρ) hT i (r / T) (d.set i (r % T)) M (by rw [List.length_set]; omega) (by omega) hq0 (by omega) (fun a ha => by
      rcases List.mem_or_eq_of_mem_set ha with h | rfl
      · exact hd a h
      · exact ⟨hm0, hm1⟩) (by omega)
    refine ⟨r', j, d', ?_, by rw [h3, List.length_set], h4⟩
    rw [e1]
    rw [whl_go (s' := (r / T, (i : Int) - 1, d.set i (r % T))) (by
      have hi0 : (0 : Int) ≤ (i : Int) := by omega
      simp only [hi0, decide_true, if_true, hr, bnd_s, ix_nat hx, hdv, ck_eq (x := (i : Int) - 1) (by omega) (by omega), Int.toNat_natCast])]
    exact h2
theorem digits_any {T k : Int} {m N : Nat} (hT : 1 ≤ T) (hm : m ≤ 1000) (h0 : 0 ≤ k) (h1 : k ≤ 9223372036854775807) (hN : m + 1 ≤ N) : ∃ d, impl_listOf N T (m : Int) k = some d ∧ d.length = m ∧ ∀ a ∈ d, 0 ≤ a ∧ a < T := by
  unfold impl_listOf
  have hz : mkz (0 : Int) (m : Int) = some (List.replicate m 0) := by unfold mkz; rw [if_pos ⟨by omega, by omega⟩]; simp
  rw [hz, bnd_s, ck_eq (x := (m : Int) - 1) (by omega) (by omega), bnd_s]
  obtain ⟨r', j, d', h2, h3, h4⟩ := dig_loop (ρ := List Int) hT m k (List.replicate m 0) N (by simp) hm h0 h1 (fun a ha => by have := List.eq_of_mem_replicate ha; omega) hN
  rw [h2]
  exact ⟨d', rfl, by rw [h3, List.length_replicate], h4⟩
/-- A while loop over a list by index. -/
theorem whl_list {α β ρ : Type} (d : List α) (g : α → β) {b : List β × Int → Option (Ctl (List β × Int) ρ)}
    (h1 : ∀ (i : Nat) x s, d[i]? = some x → s.length = i → b (s, (i : Int)) = some (.go (s ++ [g x], ((i + 1 : Nat) : Int))))
    (h2 : ∀ (i : Nat) s, d.length ≤ i → b (s, (i : Int)) = some (.brk (s, (i : Int)))) :
    ∀ (r : List α) (i N : Nat) (s : List β), d.drop i = r → s.length = i → r.length + 1 ≤ N → ∃ j : Nat, whl b N (s, (i : Int)) = some (.nx (s ++ r.map g, (j : Int)))
  | [], i, N, s, hr, hs, hN => by
    obtain ⟨M, rfl⟩ : ∃ M, N = M + 1 := ⟨N - 1, by omega⟩
    have hl := congrArg List.length hr
    rw [List.length_drop] at hl
    rw [whl_brk (h2 i s (by simp at hl; omega))]
    exact ⟨i, by simp⟩
  | t :: r, i, N, s, hr, hs, hN => by
    obtain ⟨M, rfl⟩ : ∃ M, N = M + 1 := ⟨N - 1, by omega⟩
    have ht : d[i]? = some t := by rw [← List.head?_drop, hr]; rfl
    have hd : d.drop (i + 1) = r := by rw [← List.drop_drop, hr]; rfl
    rw [whl_go (h1 i t s ht hs)]
    obtain ⟨j, hj⟩ := whl_list d g h1 h2 r (i + 1) M (s ++ [g t]) hd (by simp [hs]) (by simp at hN; omega)
    exact ⟨j, by rw [hj]; simp⟩
theorem forL_map {α β ρ : Type} (d : List α) (g : α → β) {b : Nat → α → List β → Option (Ctl (List β) ρ)}
    (h1 : ∀ (i : Nat) x s, d[i]? = some x → s.length = i → b i x s = some (.go (s ++ [g x]))) :
    ∀ (r : List α) (i : Nat) (s : List β), d.drop i = r → s.length = i → forL b r i s = some (.nx (s ++ r.map g))
  | [], i, s, hr, hs => by simp
  | t :: r, i, s, hr, hs => by
    have ht : d[i]? = some t := by rw [← List.head?_drop, hr]; rfl
    have hd : d.drop (i + 1) = r := by rw [← List.drop_drop, hr]; rfl
    rw [forL_go (h1 i t s ht hs), forL_map d g h1 r (i + 1) (s ++ [g t]) hd (by simp [hs])]
    simp
end Go.Proofs.Ytfepllddlmhjiaa
