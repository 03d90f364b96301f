/-
  Plain laws: the order of lists, membership by halving, the lists of values in their order.
-/
import Derived.Test.YtmgdjaiaekhkgaaGreatMT
namespace Go.Proofs.YtmgdjaiaekhkgaaGreat
set_option linter.unusedVariables false
set_option linter.unusedSimpArgs false
/-! ### The order -/
theorem cmpJ_neg {a b : Int} : cmpJ a b < 0 ↔ a < b := by
  unfold cmpJ
  split
  · constructor <;> omega
  · split <;> constructor <;> omega
theorem cmpM_cons_neg {a b : Int} {l m : List Int} : cmpM (a :: l) (b :: m) < 0 ↔ a < b ∨ a = b ∧ cmpM l m < 0 := by
  rw [show cmpM (a :: l) (b :: m) = if cmpJ a b ≠ 0 then cmpJ a b else cmpM l m from rfl]
  by_cases h : cmpJ a b = 0
  · rw [if_neg (by simp [h])]
    have := cmpJ_zero.1 h
    subst this
    constructor
    · exact fun h => .inr ⟨rfl, h⟩
    · rintro (h | ⟨_, h⟩)
      · omega
      · exact h
  · rw [if_pos h, cmpJ_neg]
    have : a ≠ b := fun e => h (cmpJ_zero.2 e)
    constructor
    · exact .inl
    · rintro (h | ⟨h, _⟩)
      · exact h
      · exact absurd h this
theorem cmpM_zero : ∀ {l m : List Int}, cmpM l m = 0 ↔ l = m
  | [], [] => by simp [cmpM]
  | [], _ :: _ => by simp [cmpM]
  | _ :: _, [] => by simp [cmpM]
  | a :: l, b :: m => by
    rw [show cmpM (a :: l) (b :: m) = if cmpJ a b ≠ 0 then cmpJ a b else cmpM l m from rfl]
    by_cases h : cmpJ a b = 0
    · rw [if_neg (by simp [h]), cmpM_zero]
      have := cmpJ_zero.1 h
      simp [this]
    · rw [if_pos h]
      have : a ≠ b := fun e => h (cmpJ_zero.2 e)
      simp [this, h]
theorem cmpM_trans : ∀ {l m n : List Int}, cmpM l m < 0 → cmpM m n < 0 → cmpM l n < 0
  | [], [], _, h, _ => by simp [cmpM] at h
  | [], _ :: _, [], _, h => by simp [cmpM] at h
  | [], _ :: _, _ :: _, _, _ => by simp [cmpM]
  | _ :: _, [], _, h, _ => by simp [cmpM] at h
  | _ :: _, _ :: _, [], _, h => by simp [cmpM] at h
  | a :: l, b :: m, c :: n, h1, h2 => by
    rw [cmpM_cons_neg] at *
    rcases h1 with h1 | ⟨rfl, h1⟩
    · rcases h2 with h2 | ⟨rfl, h2⟩
      · exact .inl (by omega)
      · exact .inl h1
    · rcases h2 with h2 | ⟨rfl, h2⟩
      · exact .inl h2
      · exact .inr ⟨rfl, cmpM_trans h1 h2⟩
/-- In the order. -/
def Asc (l : List (List Int)) : Prop := l.Pairwise fun a b => cmpM a b < 0
theorem asc_of : ∀ {l : List (List Int)}, (∀ j t u, l[j]? = some t → l[j + 1]? = some u → cmpM t u < 0) → Asc l
  | [], _ => List.Pairwise.nil
  | [_], _ => List.pairwise_singleton _ _
  | a :: b :: l, h => by
    have ih : Asc (b :: l) := asc_of (fun j t u ht hu => h (j + 1) t u (by simpa using ht) (by simpa using hu))
    have hab : cmpM a b < 0 := h 0 a b rfl rfl
    refine List.Pairwise.cons (fun c hc => ?_) ih
    rcases List.mem_cons.1 hc with rfl | hc
    · exact hab
    · exact cmpM_trans hab (List.rel_of_pairwise_cons ih hc)
theorem Asc.lt {l : List (List Int)} (h : Asc l) {i j : Nat} {t u : List Int} (hij : i < j) (ht : l[i]? = some t) (hu : l[j]? = some u) : cmpM t u < 0 := by
  obtain ⟨hi, rfl⟩ := List.getElem?_eq_some_iff.1 ht
  obtain ⟨hj, rfl⟩ := List.getElem?_eq_some_iff.1 hu
  exact List.pairwise_iff_getElem.1 h i j hi hj hij
/-- Two ascending lists with the same members are one. -/
theorem Asc.ext : ∀ {l m : List (List Int)}, Asc l → Asc m → (∀ x, x ∈ l ↔ x ∈ m) → l = m
  | [], [], _, _, _ => rfl
  | [], b :: m, _, _, h => absurd ((h b).2 (by simp)) (by simp)
  | a :: l, [], _, _, h => absurd ((h a).1 (by simp)) (by simp)
  | a :: l, b :: m, hl, hm, h => by
    have irr : ∀ x : List Int, ¬ cmpM x x < 0 := fun x => by rw [cmpM_zero.2 rfl]; omega
    have hab : a = b := by
      rcases List.mem_cons.1 ((h a).1 (by simp)) with e | h1
      · exact e
      · rcases List.mem_cons.1 ((h b).2 (by simp)) with e | h2
        · exact e.symm
        · exact absurd (cmpM_trans (List.rel_of_pairwise_cons hm h1) (List.rel_of_pairwise_cons hl h2)) (irr _)
    subst hab
    congr 1
    refine Asc.ext (List.Pairwise.of_cons hl) (List.Pairwise.of_cons hm) (fun x => ⟨fun hx => ?_, fun hx => ?_⟩)
    · rcases List.mem_cons.1 ((h x).1 (by simp [hx])) with rfl | h1
      · exact absurd (List.rel_of_pairwise_cons hl hx) (irr _)
      · exact h1
    · rcases List.mem_cons.1 ((h x).2 (by simp [hx])) with rfl | h1
      · exact absurd (List.rel_of_pairwise_cons hm hx) (irr _)
      · exact h1
/-! ### Membership -/
theorem l00Same_eq (d v : List Int) : spec_l00Same d v = some (decide (d = v)) := by
  unfold spec_l00Same
  by_cases hl : d.length = v.length
  · rw [if_neg (by simp [hl])]
    rw [forL_fnd (ρ := Bool) (fun k x => if (v[k]? != some x) = true then some false else none) (fun j x hj => by
      have hjl := (List.getElem?_eq_some_iff.1 hj).1
      have hv : v[0 + j]? = some (v[j]'(by omega)) := by rw [Nat.zero_add]; exact List.getElem?_eq_getElem _
      simp only [ix_nat hv, bnd_s, hv]
      by_cases hx : x = v[j]'(by omega)
      · subst hx; simp [ctlO]
      · have : (x != v[j]'(by omega)) = true := by simpa using hx
        have h2 : (some (v[j]'(by omega)) != some x) = true := by simpa using fun e => hx e.symm
        rw [this, h2]
        rfl)]
    have key : ∀ (d : List Int) (k : Nat), k + d.length = v.length → fnd (fun k x => if (v[k]? != some x) = true then some false else none) d k = if d = v.drop k then none else some false := by
      intro d
      induction d with
      | nil =>
        intro k hk
        have : v.drop k = [] := List.drop_eq_nil_of_le (by simp at hk; omega)
        rw [this]
        rfl
      | cons x d ih =>
        intro k hk
        have hkl : k < v.length := by simp at hk; omega
        have hd : v.drop k = v[k] :: v.drop (k + 1) := List.drop_eq_getElem_cons hkl
        unfold fnd
        rw [hd, List.getElem?_eq_getElem hkl]
        by_cases hx : x = v[k]
        · have e1 : (some v[k] != some x) = false := by rw [hx]; simp
          rw [e1, if_neg (by simp), ih (k + 1) (by simp at hk; omega), hx]
          simp only [List.cons.injEq, true_and]
        · have h2 : (some v[k] != some x) = true := by simpa using fun e => hx e.symm
          rw [h2, if_pos rfl, if_neg (fun e => hx (List.cons.inj e).1)]
    rw [key d 0 (by omega), List.drop_zero]
    by_cases hd : d = v
    · rw [if_pos hd]; simp [outO, hd]
    · rw [if_neg hd]; simp [outO, hd]
  · rw [if_pos (by simpa using fun e => hl (by omega))]
    have : d ≠ v := fun e => hl (by rw [e])
    simp [this]
theorem l01Has_eq (r : Rel) (t : List Int) : spec_l01Has r t = some (decide (t ∈ r.tuples)) := by
  unfold spec_l01Has
  rw [forL_fnd (ρ := Bool) (fun _ x => if (fun y => decide (y = t)) x then some true else none) (fun j x hj => by
    simp only [l00Same_eq, bnd_s]
    by_cases hx : x = t <;> simp [hx, ctlO])]
  rw [fnd_any]
  by_cases h : t ∈ r.tuples
  · rw [if_pos (by simpa using h)]; simp [outO, h]
  · rw [if_neg (by simpa using h)]; simp [outO, h]
theorem half_loop {L : List (List Int)} {t : List Int} (hL : Asc L) (hlen : L.length ≤ 1000000) {f : List Int → List Int → Option Int} (hf : ∀ a b, f a b = some (cmpM a b)) : ∀ (g lo hi N : Nat), hi - lo ≤ g → g + 1 ≤ N → lo ≤ hi → hi ≤ L.length → (∀ i x, i < lo → L[i]? = some x → cmpM x t < 0) → (∀ i x, hi ≤ i → L[i]? = some x → ¬ cmpM x t < 0) →
    ∃ k : Nat, k ≤ L.length ∧ (∀ i x, i < k → L[i]? = some x → cmpM x t < 0) ∧ (∀ i x, k ≤ i → L[i]? = some x → ¬ cmpM x t < 0) ∧
    whl (σ := Int × Int) (ρ := Int × Bool) (fun (s : Int × Int) =>
    match s with
    | (s39, s41) =>
    if (decide (s39 < s41)) then
     bnd (ck (s39 + s41)) fun z54 =>
     bnd (nn z54) fun z56 =>
     bnd (ix L (z56 / 2)) fun z59 =>
     bnd (f z59 t) fun z65 =>
     if (decide (z65 < 0)) then
      bnd (ck ((z56 / 2) + 1)) fun z68 =>
      some (.go (z68, s41))
     else
      some (.go (s39, (z56 / 2)))
    else
     some (.brk (s39, s41))) N ((lo : Int), (hi : Int)) = some (.nx ((k : Int), (k : Int)))
  | g, lo, hi, N, hg, hN, hlh, hh, h1, h2 => by
    obtain ⟨M, rfl⟩ : ∃ M, N = M + 1 := ⟨N - 1, by omega⟩
    by_cases hlt : lo < hi
    · cases g with
      | zero => omega
      | succ g =>
      have hm : (lo + hi) / 2 < L.length := by omega
      have e2 : ((lo : Int) + (hi : Int)) / 2 = (((lo + hi) / 2 : Nat) : Int) := by omega
      have hx : L[(lo + hi) / 2]? = some L[(lo + hi) / 2] := List.getElem?_eq_getElem hm
      by_cases hc : cmpM L[(lo + hi) / 2] t < 0
      · obtain ⟨k, k1, k2, k3, k4⟩ := half_loop hL hlen hf g ((lo + hi) / 2 + 1) hi M (by omega) (by omega) (by omega) hh (fun i x hi' hix => by
          rcases Nat.lt_or_ge i ((lo + hi) / 2) with h | h
          · exact cmpM_trans (hL.lt h hix hx) hc
          · obtain rfl : i = (lo + hi) / 2 := by omega
            rw [hx] at hix
            rw [← Option.some.inj hix]
            exact hc) h2
        refine ⟨k, k1, k2, k3, ?_⟩
        rw [whl_go (s' := ((((lo + hi) / 2 + 1 : Nat) : Int), (hi : Int))) (by
          have h3 : (lo : Int) < (hi : Int) := by omega
          simp only [h3, decide_true, if_true, ck_eq (x := (lo : Int) + (hi : Int)) (by omega) (by omega), bnd_s, nn_eq (x := (lo : Int) + (hi : Int)) (by omega), e2, ix_nat hx, hf, hc, ck_eq (x := (((lo + hi) / 2 : Nat) : Int) + 1) (by omega) (by omega)]
          rfl)]
        exact k4
      · obtain ⟨k, k1, k2, k3, k4⟩ := half_loop hL hlen hf g lo ((lo + hi) / 2) M (by omega) (by omega) (by omega) (by omega) h1 (fun i x hi' hix => by
          rcases Nat.lt_or_ge ((lo + hi) / 2) i with h | h
          · exact fun h4 => hc (cmpM_trans (hL.lt h hx hix) h4)
          · obtain rfl : i = (lo + hi) / 2 := by omega
            rw [hx] at hix
            rw [← Option.some.inj hix]
            exact hc)
        refine ⟨k, k1, k2, k3, ?_⟩
        rw [whl_go (s' := ((lo : Int), (((lo + hi) / 2 : Nat) : Int))) (by
          have h3 : (lo : Int) < (hi : Int) := by omega
          simp only [h3, decide_true, if_true, ck_eq (x := (lo : Int) + (hi : Int)) (by omega) (by omega), bnd_s, nn_eq (x := (lo : Int) + (hi : Int)) (by omega), e2, ix_nat hx, hf, hc, decide_false, Bool.false_eq_true, if_false])]
        exact k4
    · obtain rfl : lo = hi := by omega
      refine ⟨lo, hh, h1, h2, ?_⟩
      rw [whl_brk]
      simp
theorem has_eq {N : Nat} {r : Rel} {t : List Int} (hr : Asc r.tuples) (hlen : r.tuples.length ≤ 1000) (hN : 1002 ≤ N) : impl_Rel_has N r t = some (decide (t ∈ r.tuples)) := by
  unfold impl_Rel_has slices_BinarySearchFunc_s_s_int64_s_int64_s_int64
  have hf : ∀ a b, impl_Rel_has_1 a b = some (cmpM a b) := fun a b => by unfold impl_Rel_has_1; rw [compare_eq]; rfl
  obtain ⟨k, k1, k2, k3, k4⟩ := half_loop (t := t) hr (by omega) hf r.tuples.length 0 r.tuples.length N (by omega) (by omega) (by omega) (by omega) (fun i x hi => absurd hi (by omega)) (fun i x hi hx => absurd (List.getElem?_eq_some_iff.1 hx).1 (by omega))
  rw [show ((0 : Nat) : Int) = 0 from rfl] at k4
  rw [k4, thn_nx]
  by_cases hk : k < r.tuples.length
  · have hx : r.tuples[k]? = some r.tuples[k] := List.getElem?_eq_getElem hk
    have h1 : (k : Int) < (r.tuples.length : Int) := by omega
    simp only [h1, decide_true, if_true, ix_nat hx, bnd_s, hf, thn_nx]
    congr 1
    rw [show (cmpM r.tuples[k] t == 0) = decide (cmpM r.tuples[k] t = 0) from rfl]
    refine decide_eq_decide.2 ⟨fun h => ?_, fun h => ?_⟩
    · rw [← cmpM_zero.1 h]; exact List.getElem_mem hk
    · obtain ⟨j, hj, e⟩ := List.getElem_of_mem h
      have hjx : r.tuples[j]? = some t := by rw [List.getElem?_eq_getElem hj, e]
      rcases Nat.lt_trichotomy j k with h5 | h5 | h5
      · have := k2 j t h5 hjx
        rw [cmpM_zero.2 rfl] at this
        omega
      · subst h5
        rw [e]
        exact cmpM_zero.2 rfl
      · exact absurd (hr.lt h5 hx hjx) (k3 k _ (Nat.le_refl _) hx)
  · have h1 : ¬ (k : Int) < (r.tuples.length : Int) := by omega
    simp only [h1, decide_false, Bool.false_eq_true, if_false, thn_nx, bnd_s]
    have : t ∉ r.tuples := fun h => by
      obtain ⟨j, hj, e⟩ := List.getElem_of_mem h
      have := k2 j t (by omega) (by rw [List.getElem?_eq_getElem hj, e])
      rw [cmpM_zero.2 rfl] at this
      omega
    simp [this]
/-! ### All lists of values -/
def enumL (T : Nat) : Nat → List (List Int)
  | 0 => [[]]
  | n + 1 => (List.range T).flatMap fun (a : Nat) => (enumL T n).map (fun l => (a : Int) :: l)
theorem enum_dig : ∀ T ∈ [1, 2, 3, 4], ∀ n ∈ [1, 2, 3, 4], impl_power (T : Nat) (n : Nat) = some ((enumL T n).length : Int) ∧ spec_l01Power 10 (T : Nat) (n : Nat) = some ((enumL T n).length : Int) ∧ (enumL T n).length ≤ 256 ∧ (List.range (enumL T n).length).map (fun (k : Nat) => impl_listOf 10 (T : Nat) (n : Nat) (k : Int)) = (enumL T n).map some := by decide +kernel
theorem enum_mem {T : Nat} : ∀ {n : Nat} {l : List Int}, l ∈ enumL T n ↔ l.length = n ∧ ∀ a ∈ l, 0 ≤ a ∧ a < T
  | 0, l => by
    unfold enumL
    constructor
    · intro h; simp at h; subst h; simp
    · intro h
      have := List.length_eq_zero_iff.1 h.1
      simp [this]
  | n + 1, l => by
    unfold enumL
    rw [List.mem_flatMap]
    constructor
    · rintro ⟨a, ha, h⟩
      obtain ⟨m, hm, rfl⟩ := List.mem_map.1 h
      obtain ⟨h1, h2⟩ := enum_mem.1 hm
      rw [List.mem_range] at ha
      refine ⟨by simp [h1], fun b hb => ?_⟩
      rcases List.mem_cons.1 hb with rfl | hb
      · exact ⟨by omega, by omega⟩
      · exact h2 b hb
    · rintro ⟨h1, h2⟩
      cases l with
      | nil => simp at h1
      | cons a l =>
        obtain ⟨h3, h4⟩ := h2 a (by simp)
        refine ⟨a.toNat, List.mem_range.2 (by omega), List.mem_map.2 ⟨l, enum_mem.2 ⟨by simpa using h1, fun b hb => h2 b (by simp [hb])⟩, ?_⟩⟩
        rw [Int.toNat_of_nonneg h3]
theorem enum_asc (T : Nat) : ∀ n, Asc (enumL T n)
  | 0 => List.pairwise_singleton _ _
  | n + 1 => by
    unfold enumL Asc
    rw [List.pairwise_flatMap]
    refine ⟨fun a _ => ?_, ?_⟩
    · rw [List.pairwise_map]
      exact (enum_asc T n).imp (fun h => cmpM_cons_neg.2 (.inr ⟨rfl, h⟩))
    · refine (List.pairwise_lt_range (n := T)).imp (fun {a b} hab x hx y hy => ?_)
      obtain ⟨m, _, rfl⟩ := List.mem_map.1 hx
      obtain ⟨m', _, rfl⟩ := List.mem_map.1 hy
      exact cmpM_cons_neg.2 (.inl (by omega))
end Go.Proofs.YtmgdjaiaekhkgaaGreat
