/-
  Plain laws: the order of lists, membership by halving, the lists of values in their order.
-/
import Derived.Test.YtmgdjaiaekhkgaaGreatMT
namespace Go.Proofs.YtmgdjaiaekhkgaaGreat
set_option linter.unusedVariables false
set_option linter.unusedSimpArgs false
/-! ### The order -/
theorem cmpJ_neg {a b : Int} : cmpJ a b < 0 ↔ a < b := by
  unfold cmpJ
  split
  · constructor <;> omega
  · split <;> constructor <;> omega
theorem cmpM_cons_neg {a b : Int} {l m : List Int} : cmpM (a :: l) (b :: m) < 0 ↔ a < b ∨ a = b ∧ cmpM l m < 0 := by
  rw [show cmpM (a :: l) (b :: m) = if cmpJ a b ≠ 0 then cmpJ a b else cmpM l m from rfl]
  by_cases h : cmpJ a b = 0
  · rw [if_neg (by simp [h])]
    have := cmpJ_zero.1 h
    subst this
    constructor
    · exact fun h => .inr ⟨rfl, h⟩
    · rintro (h | ⟨_, h⟩)
      · omega
      · exact h
  · rw [if_pos h, cmpJ_neg]
    have : a ≠ b := fun e => h (cmpJ_zero.2 e)
    constructor
    · exact .inl
    · rintro (h | ⟨h, _⟩)
      · exact h
      · exact absurd h this
theorem cmpM_zero : ∀ {l m : List Int}, cmpM l m = 0 ↔ l = m
  | [], [] => by simp [cmpM]
  | [], _ :: _ => by simp [cmpM]
  | _ :: _, [] => by simp [cmpM]
  | a :: l, b :: m => by
    rw [show cmpM (a :: l) (b :: m) = if cmpJ a b ≠ 0 then cmpJ a b else cmpM l m from rfl]
    by_cases h : cmpJ a b = 0
    · rw [if_neg (by simp [h]), cmpM_zero]
      have := cmpJ_zero.1 h
      simp [this]
    · rw [if_pos h]
      have : a ≠ b := fun e => h (cmpJ_zero.2 e)
      simp [this, h]
theorem cmpM_trans : ∀ {l m n : List Int}, cmpM l m < 0 → cmpM m n < 0 → cmpM l n < 0
  | [], [], _, h, _ => by simp [cmpM] at h
  | [], _ :: _, [], _, h => by simp [cmpM] at h
  | [], _ :: _, _ :: _, _, _ => by simp [cmpM]
  | _ :: _, [], _, h, _ => by simp [cmpM] at h
  | _ :: _, _ :: _, [], _, h => by simp [cmpM] at h
  | a :: l, b :: m, c :: n, h1, h2 => by
    rw [cmpM_cons_neg] at *
    rcases h1 with h1 | ⟨rfl, h1⟩
    · rcases h2 with h2 | ⟨rfl, h2⟩
      · exact .inl (by omega)
      · exact .inl h1
    · rcases h2 with h2 | ⟨rfl, h2⟩
      · exact .inl h2
      · exact .inr ⟨rfl, cmpM_trans h1 h2⟩
/-- In the order. -/
def Asc (l : List (List Int)) : Prop := l.Pairwise fun a b => cmpM a b < 0
theorem asc_of : ∀ {l : List (List Int)}, (∀ j t u, l[j]? = some t → l[j + 1]? = some u → cmpM t u < 0) → Asc l
  | [], _ => List.Pairwise.nil
  | [_], _ => List.pairwise_singleton _ _
  | a :: b :: l, h => by
    have ih : Asc (b :: l) := asc_of (fun j t u ht hu => h (j + 1) t u (by simpa using ht) (by simpa using hu))
    have hab : cmpM a b < 0 := h 0 a b rfl rfl
    refine List.Pairwise.cons (fun c hc => ?_) ih
    rcases List.mem_cons.1 hc with rfl | hc
    · exact hab
    · exact cmpM_trans hab (List.rel_of_pairwise_cons ih hc)
theorem Asc.lt {l : List (List Int)} (h : Asc l) {i j : Nat} {t u : List Int} (hij : i < j) (ht : l[i]? = some t) (hu : l[j]? = some u) : cmpM t u < 0 := by
  obtain ⟨hi, rfl⟩ := List.getElem?_eq_some_iff.1 ht
  obtain ⟨hj, rfl⟩ := List.getElem?_eq_some_iff.1 hu
  exact List.pairwise_iff_getElem.1 h i j hi hj hij
/-- Two ascending lists with the same members are one. -/
theorem Asc.ext : ∀ {l m : List (List Int)}, Asc l → Asc m → (∀ x, x ∈ l ↔ x ∈ m) → l = m
  | [], [], _, _, _ => rfl
  | [], b :: m, _, _, h => absurd ((h b).2 (by simp)) (by simp)
  | a :: l, [], _, _, h => absurd ((h a).1 (by simp)) (by simp)
  | a :: l, b :: m, hl, hm, h => by
    have irr : ∀ x : List Int, ¬ cmpM x x < 0 := fun x => by rw [cmpM_zero.2 rfl]; omega
    have hab : a = b := by
      rcases List.mem_cons.1 ((h a).1 (by simp)) with e | h1
      · exact e
      · rcases List.mem_cons.1 ((h b).2 (by simp)) with e | h2
        · exact e.symm
        · exact absurd (cmpM_trans (List.rel_of_pairwise_cons hm h1) (List.rel_of_pairwise_cons hl h2)) (irr _)
    subst hab
    congr 1
    refine Asc.ext (List.Pairwise.of_cons hl) (List.Pairwise.of_cons hm) (fun x => ⟨fun hx => ?_, fun hx => ?_⟩)
    · rcases List.mem_cons.1 ((h x).1 (by simp [hx])) with rfl | h1
      · exact absurd (List.rel_of_pairwise_cons hl hx) (irr _)
      · exact h1
    · rcases List.mem_cons.1 ((h x).2 (by simp [hx])) with rfl | h1
      · exact absurd (List.rel_of_pairwise_cons hm hx) (irr _)
      · exact h1
/-! ### Membership -/
theorem l00Same_eq (d v : List Int) : spec_l00Same d v = some (decide (d = v)) := by
  unfold spec_l00Same
  by_cases hl : d.length = v.length
  · rw [if_neg (by simp [hl])]
    rw [forL_fnd (ρ := Bool) (fun k x => if (v[k]? != some x) = true then some false else none) (fun j x hj => by
      have hjl := (List.getElem?_eq_some_iff.1 hj).1
      have hv : v[0 + j]? = some (v[j]'(by omega)) := by rw [Nat.zero_add]; exact List.getElem?_eq_getElem _
      simp only [qG hv, bnd_s, hv]
      by_cases hx : x = v[j]'(by omega)
      · subst hx; simp [ctlO]
      · have : (x != v[j]'(by omega)) = true := by simpa using hx
        have h2 : (some (v[j]'(by omega)) != some x) = true := by simpa using fun e => hx e.symm
        rw [this, h2]
        rfl)]
    have key : ∀ (d : List Int) (k : Nat), k + d.length = v.length → fnd (fun k x => if (v[k]? != some x) = true then some false else none) d k = if d = v.drop k then none else some false := by
      intro d
      induction d with
      | nil =>
        intro k hk
        have : v.drop k = [] := List.drop_eq_nil_of_le (by simp at hk; omega)
        rw [this]
        rfl
      | cons x d ih =>
        intro k hk
        have hkl : k < v.length := by simp at hk; omega
        have hd : v.drop k = v[k] :: v.drop (k + 1) := List.drop_eq_getElem_cons hkl
        unfold fnd
        rw [hd, List.getElem?_eq_getElem hkl]
        by_cases hx : x = v[k]
        · have e1 : (some v[k] != some x) = false := by rw [hx]; simp
          rw [e1, if_neg (by simp), ih (k + 1) (by simp at hk; omega), hx]
          simp only [List.cons.injEq, true_and]
        · have h2 : (some v[k] != some x) = true := by simpa using fun e => hx e.symm
          rw [h2, if_pos rfl, if_neg (fun e => hx (List.cons.inj e).1)]
    rw [key d 0 (by omega), List.drop_zero]
    by_cases hd : d = v
    · rw [if_pos hd]; simp [outO, hd]
    · rw [if_neg hd]; simp [outO, hd]
  · rw [if_pos (by simpa using fun e => hl (by omega))]
    have : d ≠ v := fun e => hl (by rw [e])
    simp [this]
theorem l01Has_eq (r : Rel) (t : List Int) : spec_l01Has r t = some (decide (t ∈ r.tuples)) := by
  unfold spec_l01Has
  rw [forL_fnd (ρ := Bool) (fun _ x => if (fun y => decide (y = t)) x then some true else none) (fun j x hj => by
    simp only [l00Same_eq, bnd_s]
    by_cases hx : x = t <;> simp [hx, ctlO])]
  rw [fnd_any]
  by_cases h : t ∈ r.tuples
  · rw [if_pos (by simpa using h)]; simp [outO, h]
  · rw [if_neg (by simpa using h)]; simp [outO, h]
theorem half_loop {L : List (List Int)} {t : List Int} (hL : Asc L) (hlen : L.length ≤ 1000000) {f : List Int → List Int → Option Int} (hf : ∀ a b, f a b = some (cmpM a b)) : ∀ (g lo hi N : Nat), hi - lo ≤ g → g + 1 ≤ N → lo ≤ hi → hi ≤ L.length → (∀ i x, i < lo → L[i]? = some x → cmpM x t < 0) → (∀ i x, hi ≤ i → L[i]? = some x → ¬ cmpM x t < 0) →
    ∃ k : Nat, k ≤ L.length ∧ (∀ i x, i < k → L[i]? = some x → cmpM x t < 0) ∧ (∀ i x, k ≤ i → L[i]? = some x → ¬ cmpM x t < 0) ∧
    whl (σ := Int × Int) (ρ := Int × Bool) (fun (s : Int × Int) =>
    match s with
    | (s39, s41) =>
    if (decide (s39 < s41)) then
     oJ (ck (s39 + s41)) fun z54 =>
     oJ (nn z54) fun z56 =>
     oJ (ix L (z56 / 2)) fun z59 =>
     oJ (f z59 t) fun z65 =>
     if (decide (z65 < 0)) then
      oJ (ck ((z56 / 2) + 1)) fun z68 =>
      some (.go (z68, s41))
     else
      some (.go (s39, (z56 / 2)))
    else
     some (.brk (s39, s41))) N ((lo : Int), (hi : Int)) = some (.nx ((k : Int), (k : Int)))
  | g, lo, hi, N, hg, hN, hlh, hh, h1, h2 => by
    obtain ⟨M, rfl⟩ : ∃ M, N = M + 1 := ⟨N - 1, by omega⟩
    by_cases hlt : lo < hi
    · cases g with
      | zero => omega
      | succ g =>
      have hm : (lo + hi) / 2 < L.length := by omega
      have e2 : ((lo : Int) + (hi : Int)) / 2 = (((lo + hi) / 2 : Nat) : Int) := by omega
      have hx : L[(lo + hi) / 2]? = some L[(lo + hi) / 2] := List.getElem?_eq_getElem hm
      by_cases hc : cmpM L[(lo + hi) / 2] t < 0
      · obtain ⟨k, k1, k2, k3, k4⟩ := half_loop hL hlen hf g ((lo + hi) / 2 + 1) hi M (by omega) (by omega) (by omega) hh (fun i x hi' hix => by
          rcases Nat.lt_or_ge i ((lo + hi) / 2) with h | h
          · exact cmpM_trans (hL.lt h hix hx) hc
          · obtain rfl : i = (lo + hi) / 2 := by omega
            rw [hx] at hix
            rw [← Option.some.inj hix]
            exact hc) h2
        refine ⟨k, k1, k2, k3, ?_⟩
        rw [whl_go (s' := ((((lo + hi) / 2 + 1 : Nat) : Int), (hi : Int))) (by
          have h3 : (lo : Int) < (hi : Int) := by omega
          simp only [h3, decide_true, if_true, ck_eq (x := (lo : Int) + (hi : Int)) (by omega) (by omega), bnd_s, nn_eq (x := (lo : Int) + (hi : Int)) (by omega), e2, qG hx, hf, hc, ck_eq (x := (((lo + hi) / 2 : Nat) : Int) + 1) (by omega) (by omega)]
          rfl)]
        exact k4
      · obtain ⟨k, k1, k2, k3, k4⟩ := half_loop hL hlen hf g lo ((lo + hi) / 2) M (by omega) (by omega) (by omega) (by omega) h1 (fun i x hi' hix => by
          rcases Nat.lt_or_ge ((lo + hi) / 2) i with h | h
          · exact fun h4 => hc (cmpM_trans (hL.lt h hx hix) h4)
          · obtain rfl : i = (lo + hi) / 2 := by omega
            rw [hx] at hix
            rw [← Option.some.inj hix]
            exact hc)
        refine ⟨k, k1, k2, k3, ?_⟩
        rw [whl_go (s' := ((lo : Int), (((lo + hi) / 2 : Nat) : Int))) (by
          have h3 : (lo : Int) < (hi : Int) := by omega
          simp only [h3, decide_true, if_true, ck_eq (x := (lo : Int) + (hi : Int)) (by omega) (by omega), bnd_s, nn_eq (x := (lo : Int) + (hi : Int)) (by omega), e2, qG hx, hf, hc, decide_false, Bool.false_eq_true, if_false])]
        exact k4
    · obtain rfl : lo = hi := by omega
      refine ⟨lo, hh, h1, h2, ?_⟩
      rw [whl_brk]
      simp
theorem has_eq {N : Nat} {r : Rel} {t : List Int} (hr : Asc r.tuples) (hlen : r.tuples.length ≤ 1000) (hN : 1002 ≤ N) : impl_Rel_has N r t = some (decide (t ∈ r.tuples)) := by
  unfold impl_Rel_has qW
  have hf : ∀ a b, impl_Rel_has_1 a b = some (cmpM a b) := fun a b => by unfold impl_Rel_has_1; rw [compare_eq]; rfl
  obtain ⟨k, k1, k2, k3, k4⟩ := half_loop (t := t) hr (by omega) hf r.tuples.length 0 r.tuples.length N (by omega) (by omega) (by omega) (by omega) (fun i x hi => absurd hi (by omega)) (fun i x hi hx => absurd (List.getElem?_eq_some_iff.1 hx).1 (by omega))
  rw [show ((0 : Nat) : Int) = 0 from rfl] at k4
  rw [k4, thn_nx]
  by_cases hk : k < r.tuples.length
  · have hx : r.tuples[k]? = some r.tuples[k] := List.getElem?_eq_getElem hk
    have h1 : (k : Int) < (r.tuples.length : Int) := by omega
    simp only [h1, decide_true, if_true, qG hx, bnd_s, hf, thn_nx]
    congr 1
    rw [show (cmpM r.tuples[k] t == 0) = decide (cmpM r.tuples[k] t = 0) from rfl]
    refine decide_eq_decide.2 ⟨fun h => ?_, fun h => ?_⟩
    · rw [← cmpM_zero.1 h]; exact List.getElem_mem hk
    · obtain ⟨j, hj, e⟩ := List.getElem_of_mem h
      have hjx : r.tuples[j]? = some t := by rw [List.getElem?_eq_getElem hj, e]
      rcases Nat.lt_trichotomy j k with h5 | h5 | h5
      · have := k2 j t h5 hjx
        rw [cmpM_zero.2 rfl] at this
        omega
      · subst h5
        rw [e]
        exact cmpM_zero.2 rfl
      · exact absurd (hr.lt h5 hx hjx) (k3 k _ (Nat.le_refl _) hx)
  · have h1 : ¬ (k : Int) < (r.tuples.length : Int) := by omega
    simp only [h1, decide_false, Bool.false_eq_true, if_false, thn_nx, bnd_s]
    have : t ∉ r.tuples := fun h => by
      obtain ⟨j, hj, e⟩ := List.getElem_of_mem h
      have := k2 j t (by omega) (by rw [List.getElem?_eq_getElem hj, e])
      rw [cmpM_zero.2 rfl] at this
      omega
    simp [this]
/-! ### All lists of values -/
def kK (T : Nat) : Nat → List (List Int)
  | 0 => [[]]
  | n + 1 => (List.range T).flatMap fun (a : Nat) => (kK T n).map (fun l => (a : Int) :: l)
theorem enum_dig : ∀ T ∈ [1, 2, 3, 4], ∀ n ∈ [1, 2, 3, 4], impl_power (T : Nat) (n : Nat) = some ((kK T n).length : Int) ∧ spec_l01Power 10 (T : Nat) (n : Nat) = some ((kK T n).length : Int) ∧ (kK T n).length ≤ 256 ∧ (List.range (kK T n).length).map (fun (k : Nat) => kR 10 (T : Nat) (n : Nat) (k : Int)) = (kK T n).map some := by decide +kernel
theorem enum_mem {T : Nat} : ∀ {n : Nat} {l : List Int}, l ∈ kK T n ↔ l.length = n ∧ ∀ a ∈ l, 0 ≤ a ∧ a < T
  | 0, l => by
    unfold kK
    constructor
    · intro h; simp at h; subst h; simp
    · intro h
      have := List.length_eq_zero_iff.1 h.1
      simp [this]
  | n + 1, l => by
    unfold kK
    rw [List.mem_flatMap]
    constructor
    · rintro ⟨a, ha, h⟩
      obtain ⟨m, hm, rfl⟩ := List.mem_map.1 h
      obtain ⟨h1, h2⟩ := enum_mem.1 hm
      rw [List.mem_range] at ha
      refine ⟨by simp [h1], fun b hb => ?_⟩
      rcases List.mem_cons.1 hb with rfl | hb
      · exact ⟨by omega, by omega⟩
      · exact h2 b hb
    · rintro ⟨h1, h2⟩
      cases l with
      | nil => simp at h1
      | cons a l =>
        obtain ⟨h3, h4⟩ := h2 a (by simp)
        refine ⟨a.toNat, List.mem_range.2 (by omega), List.mem_map.2 ⟨l, enum_mem.2 ⟨by simpa using h1, fun b hb => h2 b (by simp [hb])⟩, ?_⟩⟩
        rw [Int.toNat_of_nonneg h3]
theorem enum_asc (T : Nat) : ∀ n, Asc (kK T n)
  | 0 => List.pairwise_singleton _ _
  | n + 1 => by
    unfold kK Asc
    rw [List.pairwise_flatMap]
    refine ⟨fun a _ => ?_, ?_⟩
    · rw [List.pairwise_map]
      exact (enum_asc T n).imp (fun h => cmpM_cons_neg.2 (.inr ⟨rfl, h⟩))
    · refine (List.pairwise_lt_range (n := T)).imp (fun {a b} hab x hx y hy => ?_)
      obtain ⟨m, _, rfl⟩ := List.mem_map.1 hx
      obtain ⟨m', _, rfl⟩ := List.mem_map.1 hy
      exact cmpM_cons_neg.2 (.inl (by omega))
end Go.Proofs.YtmgdjaiaekhkgaaGreat
namespace Go.Proofs.YtmgdjaiaekhkgaaGreat
set_option linter.unusedVariables false
set_option linter.unusedSimpArgs false
/-! ### Loops that look for the first -/
def ctlF {σ ρ : Type} (s : σ) : Option ρ → Ctl σ ρ
  | none => .go s
  | some r => .ret r
def outF {σ ρ : Type} (s : σ) : Option ρ → Out σ ρ
  | none => .nx s
  | some r => .ret r
theorem forI_find {σ ρ : Type} {b : Nat → σ → Option (Ctl σ ρ)} {s : σ} (q : Nat → Option ρ) : ∀ {m k : Nat}, (∀ j, k ≤ j → j < k + m → b j s = some (ctlF s (q j))) → kT b m k s = some (outF s ((List.range' k m).findSome? q))
  | 0, k, _ => rfl
  | m + 1, k, h => by
    have h1 := h k (Nat.le_refl _) (by omega)
    have ih := forI_find (b := b) (s := s) q (m := m) (k := k + 1) (fun j h2 h3 => h j (by omega) (by omega))
    rw [List.range'_succ, List.findSome?_cons]
    cases hq : q k with
    | none => rw [hq] at h1; rw [forI_go h1]; exact ih
    | some r => rw [hq] at h1; rw [forI_rt h1]; rfl
theorem forL_all {α : Type} {b : Nat → α → Unit → Option (Ctl Unit Bool)} (p : α → Bool) {l : List α} (h : ∀ j x, l[j]? = some x → b j x () = some (if p x then .go () else .ret false)) :
    kJ (qT b l 0 ()) (fun _ => some true) = some (l.all p) := by
  rw [forL_fnd (ρ := Bool) (fun _ x => if (fun y => !p y) x then some false else none) (fun j x hj => by
    rw [Nat.zero_add, h j x hj]
    cases hp : p x <;> simp [hp, ctlO]), fnd_any]
  by_cases hp : l.all p = true
  · have : l.any (fun y => !p y) = false := by
      rw [List.any_eq_false]
      intro x hx
      simp [List.all_eq_true.1 hp x hx]
    rw [this, hp]
    rfl
  · have h2 : l.all p = false := by simpa using hp
    have : l.any (fun y => !p y) = true := by
      rw [← List.not_all_eq_any_not, h2]
      rfl
    rw [this, h2]
    rfl
/-! ### Atoms -/
def atV (vs args : List Int) : List Int := args.map fun i => vs.getD i.toNat 0
theorem at_loop {ρ : Type} (vs : List Int) : ∀ (args : List Int) (k : Nat) (s : List Int), (∀ i ∈ args, 0 ≤ i ∧ i < vs.length) → s.length + args.length ≤ 1000000 →
    qT (σ := (List Int)) (ρ := ρ) (fun (k44 : Nat) (x46 : Int) (s38 : (List Int)) =>
   oJ (ix vs x46) fun z54 =>
   oJ (ap s38 ([z54])) fun z61 =>
   some (.go z61)) args k s = some (.nx (s ++ atV vs args))
  | [], _, s, _, _ => by simp [atV, qT]
  | i :: args, k, s, h, hs => by
    obtain ⟨h0, h1⟩ := h i (by simp)
    have hx : vs[i.toNat]? = some (vs.getD i.toNat 0) := by
      rw [List.getD_eq_getElem?_getD, List.getElem?_eq_getElem (by omega)]
      rfl
    rw [List.length_cons] at hs
    rw [kF (s' := s ++ [vs.getD i.toNat 0]) (by
      simp only [ix_of h0 hx, bnd_s, ap_eq (l := s) (m := [vs.getD i.toNat 0]) (by simp only [List.length_cons, List.length_nil]; omega)])]
    rw [at_loop vs args (k + 1) _ (fun j hj => h j (by simp [hj])) (by rw [List.length_append, List.length_singleton]; omega)]
    simp [atV]
theorem l01At_eq {vs args : List Int} (h : ∀ i ∈ args, 0 ≤ i ∧ i < vs.length) (hl : args.length ≤ 1000) : spec_l01At vs args = some (atV vs args) := by
  unfold spec_l01At
  rw [at_loop vs args 0 [] h (by simp only [List.length_nil]; omega), thn_nx, List.nil_append]
theorem chosen_eq {vs args : List Int} (h : ∀ i ∈ args, 0 ≤ i ∧ i < vs.length) (hl : args.length ≤ 1000) : impl_chosen vs args = some (atV vs args) := l01At_eq h hl
/-- A relation that is well made. -/
def relV (T : Nat) (r : Rel) : Prop := ∃ n : Nat, r.arity = n ∧ 1 ≤ n ∧ n ≤ 4 ∧ Asc r.tuples ∧ ∀ t ∈ r.tuples, t ∈ kK T n
theorem rel_enum {T : Nat} {r : Rel} {n : Nat} (h : Asc r.tuples) (hm : ∀ t ∈ r.tuples, t ∈ kK T n) : r.tuples = (kK T n).filter fun t => decide (t ∈ r.tuples) :=
  Asc.ext h ((enum_asc T n).filter _) (fun x => ⟨fun hx => List.mem_filter.2 ⟨hm x hx, by simpa using hx⟩, fun hx => by simpa using (List.mem_filter.1 hx).2⟩)
theorem enum_len {T n : Nat} (hT : 1 ≤ T ∧ T ≤ 4) (hn : 1 ≤ n ∧ n ≤ 4) : (kK T n).length ≤ 256 := (enum_dig T (by simp; omega) n (by simp; omega)).2.2.1
theorem relV.len {T : Nat} {r : Rel} (hT : 1 ≤ T ∧ T ≤ 4) (h : relV T r) : r.tuples.length ≤ 256 := by
  obtain ⟨n, _, h1, h2, h3, h4⟩ := h
  rw [rel_enum h3 h4]
  exact Nat.le_trans (List.length_filter_le _ _) (enum_len hT ⟨h1, h2⟩)
/-- A template, of size T. -/
structure TV (T : Nat) (u : Template) : Prop where
  s : u.size = T
  t : 1 ≤ T ∧ T ≤ 4
  r : ∀ r ∈ u.rels, relV T r
  n : u.rels.length ≤ 6
/-- An atom over variables below n. -/
def AV (u : Template) (n : Nat) (a : Atom) : Prop := (∀ i ∈ a.args, 0 ≤ i ∧ i < n) ∧ ((a.rel = -1 ∧ a.args.length = 2) ∨ ∃ r : Rel, 0 ≤ a.rel ∧ u.rels[a.rel.toNat]? = some r ∧ r ∈ u.rels ∧ (a.args.length : Int) = r.arity)
theorem AV.len {T : Nat} {u : Template} {n : Nat} {a : Atom} (hu : TV T u) (h : AV u n a) : 1 ≤ a.args.length ∧ a.args.length ≤ 4 := by
  rcases h.2 with ⟨_, h⟩ | ⟨r, _, _, h1, h2⟩
  · omega
  · obtain ⟨m, e, h3, h4, _⟩ := hu.r r h1
    omega
def atomS (u : Template) (a : Atom) (vs : List Int) : Bool := if a.rel = -1 then decide ((atV vs a.args).getD 0 0 = (atV vs a.args).getD 1 0) else decide (atV vs a.args ∈ (u.rels.getD a.rel.toNat default).tuples)
theorem atom_two {T N : Nat} {u : Template} {n : Nat} {a : Atom} {vs : List Int} (hu : TV T u) (h : AV u n a) (hv : ∀ i ∈ a.args, i < vs.length) (hN : 1002 ≤ N) : spec_l03Atom u a vs = some (atomS u a vs) ∧ kQ N u a vs = some (atomS u a vs) := by
  have hl := h.len hu
  have h1 := l01At_eq (vs := vs) (fun i hi => ⟨(h.1 i hi).1, hv i hi⟩) (by omega)
  have h2 := chosen_eq (vs := vs) (fun i hi => ⟨(h.1 i hi).1, hv i hi⟩) (by omega)
  unfold spec_l03Atom kQ atomS
  rw [h1, bnd_s, h2, bnd_s]
  rcases h.2 with ⟨e, hl2⟩ | ⟨r, h0, hr, hm, ha⟩
  · have hlen : (atV vs a.args).length = 2 := by rw [atV, List.length_map, hl2]
    obtain ⟨x, y, e2⟩ : ∃ x y, atV vs a.args = [x, y] := by
      match h : atV vs a.args, hlen with
      | [x, y], _ => exact ⟨x, y, rfl⟩
    rw [e2, e]
    have hb : (x == y) = decide (x = y) := by by_cases hxy : x = y <;> simp [hxy]
    simp [ix, hb]
  · have hne : (a.rel == -1) = false := by rw [beq_eq_false_iff_ne]; omega
    have hne' : ¬ a.rel = -1 := by omega
    obtain ⟨m, _, _, _, hasc, _⟩ := hu.r r hm
    have hg : u.rels.getD a.rel.toNat default = r := by rw [List.getD_eq_getElem?_getD, hr]; rfl
    simp only [hne, Bool.false_eq_true, if_false, if_neg hne']
    rw [ix_of h0 hr, bnd_s, bnd_s, l01Has_eq, bnd_s, has_eq hasc (by have := (hu.r r hm).len hu.t; omega) hN, bnd_s, hg]
    exact ⟨rfl, rfl⟩
/-! ### The greatest variable -/
def mx (l : List Int) : Int := l.foldl (fun s x => if x < s then s else x) 0
theorem mx_le {l : List Int} : ∀ {s : Int}, (s ≤ l.foldl (fun s x => if x < s then s else x) s) ∧ ∀ x ∈ l, x ≤ l.foldl (fun s x => if x < s then s else x) s := by
  induction l with
  | nil => intro s; exact ⟨Int.le_refl _, by simp⟩
  | cons y l ih =>
    intro s
    rw [List.foldl_cons]
    obtain ⟨h1, h2⟩ := ih (s := if y < s then s else y)
    have hs : s ≤ (if y < s then s else y) ∧ y ≤ (if y < s then s else y) := by split <;> omega
    refine ⟨Int.le_trans hs.1 h1, fun x hx => ?_⟩
    rcases List.mem_cons.1 hx with rfl | hx
    · exact Int.le_trans hs.2 h1
    · exact h2 x hx
theorem mx_mem {l : List Int} : ∀ {s : Int}, l.foldl (fun s x => if x < s then s else x) s = s ∨ l.foldl (fun s x => if x < s then s else x) s ∈ l := by
  induction l with
  | nil => intro s; exact .inl rfl
  | cons y l ih =>
    intro s
    rw [List.foldl_cons]
    rcases ih (s := if y < s then s else y) with h | h
    · rw [h]
      split
      · exact .inl rfl
      · exact .inr (by simp)
    · exact .inr (by simp [h])
theorem mx_lt {l : List Int} {n : Int} (h : ∀ i ∈ l, 0 ≤ i ∧ i < n) (hn : 0 < n) : 0 ≤ mx l ∧ mx l < n := by
  refine ⟨mx_le.1, ?_⟩
  rcases mx_mem (l := l) (s := 0) with e | e
  · unfold mx; rw [e]; exact hn
  · exact (h _ e).2
theorem top_loop {ρ : Type} : ∀ (l : List Int) (k : Nat) (s : Int), qT (σ := Int) (ρ := ρ) (fun (k205 : Nat) (x207 : Int) (s201 : Int) =>
      oJ (spec_l00Max s201 x207) fun z235 =>
      some (.go z235)) l k s = some (.nx (l.foldl (fun s x => if x < s then s else x) s))
  | [], _, _ => rfl
  | x :: l, k, s => by
    rw [kF (s' := if x < s then s else x) (by
      unfold spec_l00Max
      by_cases h : x < s <;> simp [h]), top_loop l]
    rfl
theorem max_loop {ρ : Type} (x0 : Int) (L : List Int) : ∀ (l : List Int) (k : Nat) (s : Int), L.drop k = l → kT (σ := Int) (ρ := ρ) (fun (k41 : Nat) (s37 : Int) =>
   oJ (ix (x0 :: L) (1 + (k41 : Int))) fun z48 =>
   some (.go (if s37 < z48 then z48 else s37))) l.length k s = some (.nx (l.foldl (fun s x => if x < s then s else x) s))
  | [], _, _, _ => rfl
  | x :: l, k, s, h => by
    have hx : (x0 :: L)[1 + k]? = some x := by
      rw [Nat.add_comm, List.getElem?_cons_succ, ← List.head?_drop, h]
      rfl
    have e : (1 : Int) + (k : Int) = ((1 + k : Nat) : Int) := by omega
    rw [List.length_cons, forI_go (s' := if x < s then s else x) (by
      rw [e, qG hx, bnd_s]
      by_cases h1 : x < s
      · rw [if_neg (by omega), if_pos h1]
      · rw [if_neg h1]
        by_cases h2 : s < x
        · rw [if_pos h2]
        · rw [if_neg h2, show s = x by omega]), max_loop x0 L l (k + 1) _ (by rw [← List.drop_drop, h]; rfl)]
    rfl
theorem Max_eq {l : List Int} (h : ∀ i ∈ l, 0 ≤ i) (hl : 1 ≤ l.length) : zM l = some (mx l) := by
  cases l with
  | nil => simp at hl
  | cons x l =>
    unfold zM
    have h1 : ¬ (((x :: l).length : Nat) : Int) < 1 := by simp; omega
    have h2 : ((((x :: l).length : Nat) : Int) - 1).toNat = l.length := by simp
    rw [if_neg (by simpa using h1), thn_nx, show ix (x :: l) 0 = some x from rfl, bnd_s, h2, max_loop x l l 0 x rfl, thn_nx]
    unfold mx
    rw [List.foldl_cons]
    have := h x (by simp)
    by_cases h3 : x < 0
    · omega
    · rw [if_neg h3]
end Go.Proofs.YtmgdjaiaekhkgaaGreat
namespace Go.Proofs.YtmgdjaiaekhkgaaGreat
set_option linter.unusedVariables false
set_option linter.unusedSimpArgs false
/-- A formula over a template. -/
structure FV (u : Template) (f : Formula) : Prop where
  f0 : 1 ≤ f.free ∧ f.free ≤ 4
  v0 : f.free ≤ f.vars ∧ f.vars ≤ 8
  n : f.atoms.length ≤ 16
  a : ∀ a ∈ f.atoms, AV u f.vars.toNat a
/-- .. or one that an instance is: what the search needs. -/
structure FX (u : Template) (f : Formula) : Prop where
  f0 : 1 ≤ f.free ∧ f.free ≤ 10
  v0 : f.free ≤ f.vars ∧ f.vars ≤ 10
  n : f.atoms.length ≤ 24
  a : ∀ a ∈ f.atoms, AV u f.vars.toNat a
theorem FV.x {u : Template} {f : Formula} (h : FV u f) : FX u f := ⟨by have := h.f0; omega, by have := h.v0; omega, by have := h.n; omega, h.a⟩
def zI (u : Template) (f : Formula) (vs : List Int) : Bool := f.atoms.all fun a => !decide (mx a.args = (vs.length : Int) - 1) || atomS u a vs
theorem AV.below {u : Template} {n : Nat} {a : Atom} {vs : List Int} (h : AV u n a) (hm : mx a.args = (vs.length : Int) - 1) : ∀ i ∈ a.args, i < vs.length := fun i hi => by
  have := (mx_le (l := a.args) (s := 0)).2 i hi
  unfold mx at hm
  omega
theorem sure_eq {T : Nat} {u : Template} {f : Formula} {vs : List Int} (hu : TV T u) (hf : FX u f) (hl : 1 ≤ vs.length ∧ vs.length ≤ 1000) : spec_l03Sure u f vs = some (zI u f vs) := by
  unfold spec_l03Sure
  rw [ck_eq (by omega) (by omega), bnd_s]
  rw [forL_all (fun a => !decide (mx a.args = (vs.length : Int) - 1) || atomS u a vs) (fun j a ha => by
    have hm := hf.a a (List.mem_of_getElem? ha)
    simp only
    rw [top_loop, thn_nx]
    change kJ (if (mx a.args == (vs.length : Int) - 1) then _ else _) _ = _
    by_cases h : mx a.args = (vs.length : Int) - 1
    · have h1 : (mx a.args == (vs.length : Int) - 1) = true := by simpa using h
      rw [h1, if_pos rfl, (atom_two (N := 1002) hu hm (hm.below h) (Nat.le_refl _)).1, bnd_s, thn_nx, decide_eq_true h]
      cases atomS u a vs <;> rfl
    · have h1 : (mx a.args == (vs.length : Int) - 1) = false := by simpa using h
      rw [h1, if_neg (by simp), thn_nx, decide_eq_false h]
      rfl)]
  rfl
/-! ### The solver -/
def dueS (V : Nat) (atoms : List Atom) : List (List Atom) := (List.range V).map fun (j : Nat) => atoms.filter fun a => decide (mx a.args = (j : Int))
theorem due_loop {ρ : Type} {u : Template} {V : Nat} {T : Nat} (hu : TV T u) (hV : 1 ≤ V) : ∀ (l p : List Atom) (k : Nat), (∀ a ∈ l, AV u V a) → p.length + l.length ≤ 100 →
    qT (σ := List (List Atom)) (ρ := ρ) (fun (k : Nat) (a : Atom) (s : List (List Atom)) =>
   oJ (zM a.args) fun m =>
   oJ (ix s m) fun y =>
   oJ (ap y [a]) fun u =>
   some (.go (s.set m.toNat u))) l k (dueS V p) = some (.nx (dueS V (p ++ l)))
  | [], p, _, _, _ => by simp [qT]
  | a :: l, p, k, h, hl => by
    have ha := h a (by simp)
    have hal := ha.len hu
    have hm := mx_lt ha.1 (by omega)
    rw [List.length_cons] at hl
    have hlt : (mx a.args).toNat < V := by omega
    have hy : (dueS V p)[(mx a.args).toNat]? = some (p.filter fun b => decide (mx b.args = mx a.args)) := by
      unfold dueS
      rw [List.getElem?_map, List.getElem?_range hlt, Option.map_some, Int.toNat_of_nonneg hm.1]
    have hyl : (p.filter fun b => decide (mx b.args = mx a.args)).length ≤ p.length := List.length_filter_le _ _
    rw [kF (s' := dueS V (p ++ [a])) (by
      rw [Max_eq (fun i hi => (ha.1 i hi).1) hal.1, bnd_s, ix_of hm.1 hy, bnd_s, ap_eq (by simp only [List.length_cons, List.length_nil]; omega), bnd_s]
      congr 2
      apply List.ext_getElem?
      intro j
      unfold dueS
      by_cases hj : j < V
      · rw [List.getElem?_set]
        by_cases e : (mx a.args).toNat = j
        · rw [if_pos e, if_pos (by simpa using hlt), List.getElem?_map, List.getElem?_range hj, Option.map_some]
          have e2 : mx a.args = (j : Int) := by omega
          rw [List.filter_append, List.filter_cons, if_pos (by simpa using e2), e2]
          rfl
        · rw [if_neg e, List.getElem?_map, List.getElem?_map, List.getElem?_range hj, Option.map_some, Option.map_some]
          have e2 : ¬ mx a.args = (j : Int) := by omega
          rw [List.filter_append, List.filter_cons, if_neg (by simpa using e2), List.filter_nil, List.append_nil]
      · rw [List.getElem?_eq_none (by simp; omega), List.getElem?_eq_none (by simp; omega)])]
    rw [due_loop hu hV l (p ++ [a]) (k + 1) (fun b hb => h b (by simp [hb])) (by rw [List.length_append, List.length_singleton]; omega)]
    simp
def solS (u : Template) (f : Formula) : solver := ⟨u, f.vars, dueS f.vars.toNat f.atoms⟩
theorem solverOf_eq {T : Nat} {u : Template} {f : Formula} (hu : TV T u) (hf : FX u f) : impl_solverOf u f.vars f.atoms = some (solS u f) := by
  have h1 := hf.f0
  have h2 := hf.v0
  unfold impl_solverOf
  have hz : mkz ([] : List Atom) f.vars = some (dueS f.vars.toNat []) := by
    unfold mkz
    rw [if_pos ⟨by omega, by omega⟩]
    congr 1
    unfold dueS
    apply List.ext_getElem?
    intro j
    by_cases hj : j < f.vars.toNat
    · rw [List.getElem?_map, List.getElem?_range hj, List.getElem?_replicate, if_pos hj]
      rfl
    · rw [List.getElem?_eq_none (by simp; omega), List.getElem?_eq_none (by simp; omega)]
  rw [hz, bnd_s, due_loop hu (by omega) f.atoms [] 0 hf.a (by have := hf.n; simp only [List.length_nil]; omega), thn_nx]
  rfl
theorem containsA_eq (l : List Atom) (p : Atom → Bool) (f : Atom → Option Bool) (hf : ∀ x ∈ l, f x = some (p x)) : vQ l f = some (l.any p) := by
  obtain ⟨i, h1, h2⟩ := forL_idx l p f hf
  unfold vQ kG
  rw [h1, bnd_s, h2]
theorem goes_eq {T N : Nat} {u : Template} {f : Formula} {vs : List Int} (hu : TV T u) (hf : FX u f) (hN : 1002 ≤ N) (hl : 1 ≤ vs.length ∧ (vs.length : Int) ≤ f.vars) : kZ N (solS u f) vs = some (zI u f vs) := by
  have h2 := hf.v0
  have e : (vs.length : Int) - 1 = ((vs.length - 1 : Nat) : Int) := by omega
  have hd : (solS u f).due[vs.length - 1]? = some (f.atoms.filter fun a => decide (mx a.args = ((vs.length - 1 : Nat) : Int))) := by
    show (dueS f.vars.toNat f.atoms)[vs.length - 1]? = _
    unfold dueS
    rw [List.getElem?_map, List.getElem?_range (by omega)]
    rfl
  unfold kZ
  rw [ck_eq (by omega) (by omega), bnd_s, e, qG hd, bnd_s]
  rw [containsA_eq _ (fun a => !atomS u a vs) _ (fun a ha => by
    obtain ⟨h3, h4⟩ := List.mem_filter.1 ha
    have h5 : mx a.args = ((vs.length - 1 : Nat) : Int) := by simpa using h4
    have hm := hf.a a h3
    unfold impl_solver_goes_1
    have := (atom_two hu hm (vs := vs) (hm.below (h5.trans e.symm)) hN).2
    change oJ (kQ N u a vs) _ = _
    rw [this, bnd_s]), bnd_s]
  unfold zI
  rw [e]
  congr 1
  induction f.atoms with
  | nil => rfl
  | cons a l ih =>
    by_cases h : mx a.args = ((vs.length - 1 : Nat) : Int)
    · rw [List.filter_cons, if_pos (by simpa using h), List.any_cons, List.all_cons, ← ih, decide_eq_true h]
      cases atomS u a vs <;> simp
    · rw [List.filter_cons, if_neg (by simpa using h), List.all_cons, ← ih, decide_eq_false h]
      simp
/-! ### The search -/
def kV (u : Template) (f : Formula) : Nat → List Int → Option (List Int)
  | 0, vs => some vs
  | d + 1, vs => (List.range' 0 u.size.toNat).findSome? fun (a : Nat) => if zI u f (vs ++ [(a : Int)]) then kV u f d (vs ++ [(a : Int)]) else none
theorem search_eq {T : Nat} {u : Template} {f : Formula} (hu : TV T u) (hf : FX u f) : ∀ (d N : Nat) (vs : List Int), (vs.length : Int) + d = f.vars → d + 1 ≤ N → kD N u f vs = some ((kV u f d vs).getD [], (kV u f d vs).isSome)
  | 0, N, vs, hd, hN => by
    obtain ⟨M, rfl⟩ : ∃ M, N = M + 1 := ⟨N - 1, by omega⟩
    rw [kD, if_pos (by simp; omega)]
    rfl
  | d + 1, N, vs, hd, hN => by
    obtain ⟨M, rfl⟩ : ∃ M, N = M + 1 := ⟨N - 1, by omega⟩
    have h2 := hf.v0
    have ih := search_eq hu hf d M
    rw [kD, if_neg (by simp; omega)]
    have hq := forI_find (σ := Unit) (ρ := List Int × Bool) (s := ()) (k := 0) (m := u.size.toNat) (b := fun (k56 : Nat) (s : Unit) =>
      match s with
      | _ =>
      oJ (zO vs) fun z65 =>
      oJ (ap z65 ([(k56 : Int)])) fun z72 =>
      oJ (spec_l03Sure u f z72) fun z76 =>
      if (!z76) then
       some (.go ())
      else
       oJ (kD M u f z72) fun z86 =>
       if z86.2 then
        some (.ret (z86.1, true))
       else
        some (.go ())) (fun (a : Nat) => (if zI u f (vs ++ [(a : Int)]) then kV u f d (vs ++ [(a : Int)]) else none).map fun o => (o, true)) (fun a _ _ => by
      simp only
      unfold zO
      rw [ap_eq (by simp only [List.length_nil]; omega), bnd_s, bnd_s, ap_eq (by simp only [List.length_append, List.length_cons, List.length_nil]; omega), bnd_s, List.nil_append]
      have hl : (vs ++ [(a : Int)]).length = vs.length + 1 := by simp
      rw [sure_eq hu hf (by rw [hl]; omega), bnd_s]
      by_cases hs : zI u f (vs ++ [(a : Int)]) = true
      · rw [hs, if_neg (by simp), if_pos rfl, ih _ (by rw [hl]; push_cast; omega) (by omega), bnd_s]
        cases kV u f d (vs ++ [(a : Int)]) <;> rfl
      · have hs' : zI u f (vs ++ [(a : Int)]) = false := by simpa using hs
        rw [hs', if_pos (by rfl), if_neg (by simp)]
        rfl)
    rw [hq]
    have hmap : ∀ (l : List Nat), l.findSome? (fun (a : Nat) => (if zI u f (vs ++ [(a : Int)]) then kV u f d (vs ++ [(a : Int)]) else none).map fun o => (o, true)) = (l.findSome? (fun (a : Nat) => if zI u f (vs ++ [(a : Int)]) then kV u f d (vs ++ [(a : Int)]) else none)).map fun o => (o, true) := fun l => by
      induction l with
      | nil => rfl
      | cons a l ih2 =>
        rw [List.findSome?_cons, List.findSome?_cons, ih2]
        cases (if zI u f (vs ++ [(a : Int)]) then kV u f d (vs ++ [(a : Int)]) else none) <;> rfl
    rw [hmap]
    rw [show kV u f (d + 1) vs = (List.range' 0 u.size.toNat).findSome? (fun (a : Nat) => if zI u f (vs ++ [(a : Int)]) then kV u f d (vs ++ [(a : Int)]) else none) from rfl]
    cases (List.range' 0 u.size.toNat).findSome? (fun (a : Nat) => if zI u f (vs ++ [(a : Int)]) then kV u f d (vs ++ [(a : Int)]) else none) <;> rfl
theorem walk_eq {T : Nat} {u : Template} {f : Formula} (hu : TV T u) (hf : FX u f) : ∀ (d N : Nat) (vs st : List Int), (vs.length : Int) + d = f.vars → d + 1003 ≤ N → solver_walk (fun a _ => some (false, a)) N (solS u f) vs st = some (!(kV u f d vs).isSome, (kV u f d vs).getD st)
  | 0, N, vs, st, hd, hN => by
    obtain ⟨M, rfl⟩ : ∃ M, N = M + 1 := ⟨N - 1, by omega⟩
    have h2 := hf.v0
    rw [solver_walk, if_pos (by show ((vs.length : Int) == f.vars) = true; simp; omega)]
    unfold qV
    rw [ap_eq (by simp only [List.length_nil]; omega), bnd_s, bnd_s, List.nil_append]
    rfl
  | d + 1, N, vs, st, hd, hN => by
    obtain ⟨M, rfl⟩ : ∃ M, N = M + 1 := ⟨N - 1, by omega⟩
    have h2 := hf.v0
    have ih := walk_eq hu hf d M
    rw [solver_walk, if_neg (by show ¬ ((vs.length : Int) == f.vars) = true; simp; omega)]
    have hq := forI_find (σ := List Int) (ρ := Bool × List Int) (s := st) (k := 0) (m := u.size.toNat) (b := fun (k60 : Nat) (s : List Int) =>
      oJ (zV vs) fun z66 =>
      oJ (ap z66 ([(k60 : Int)])) fun z73 =>
      oJ (kZ M (solS u f) z73) fun z86 =>
      if z86 then oJ (solver_walk (fun a _ => some (false, a)) M (solS u f) z73 s) fun z89 =>
        if z89.1 then some (.go z89.2) else some (.ret (false, z89.2))
      else some (.go s)) (fun (a : Nat) => (if zI u f (vs ++ [(a : Int)]) then kV u f d (vs ++ [(a : Int)]) else none).map fun o => (false, o)) (fun a _ _ => by
      unfold zV
      rw [bnd_s, ap_eq (by simp only [List.length_cons, List.length_nil]; omega), bnd_s]
      have hl : (vs ++ [(a : Int)]).length = vs.length + 1 := by simp
      rw [goes_eq hu hf (by omega) (by rw [hl]; omega), bnd_s]
      by_cases hs : zI u f (vs ++ [(a : Int)]) = true
      · rw [hs, if_pos rfl, if_pos rfl, ih _ _ (by rw [hl]; push_cast; omega) (by omega), bnd_s]
        cases kV u f d (vs ++ [(a : Int)]) <;> rfl
      · have hs' : zI u f (vs ++ [(a : Int)]) = false := by simpa using hs
        rw [hs', if_neg (by simp), if_neg (by simp)]
        rfl)
    show kJ (kT _ u.size.toNat 0 st) _ = _
    rw [hq]
    have hmap : ∀ (l : List Nat), l.findSome? (fun (a : Nat) => (if zI u f (vs ++ [(a : Int)]) then kV u f d (vs ++ [(a : Int)]) else none).map fun o => (false, o)) = (l.findSome? (fun (a : Nat) => if zI u f (vs ++ [(a : Int)]) then kV u f d (vs ++ [(a : Int)]) else none)).map fun o => (false, o) := fun l => by
      induction l with
      | nil => rfl
      | cons a l ih2 =>
        rw [List.findSome?_cons, List.findSome?_cons, ih2]
        cases (if zI u f (vs ++ [(a : Int)]) then kV u f d (vs ++ [(a : Int)]) else none) <;> rfl
    rw [hmap]
    rw [show kV u f (d + 1) vs = (List.range' 0 u.size.toNat).findSome? (fun (a : Nat) => if zI u f (vs ++ [(a : Int)]) then kV u f d (vs ++ [(a : Int)]) else none) from rfl]
    cases (List.range' 0 u.size.toNat).findSome? (fun (a : Nat) => if zI u f (vs ++ [(a : Int)]) then kV u f d (vs ++ [(a : Int)]) else none) <;> rfl
/-! ### A tuple that is given -/
def begS (u : Template) (f : Formula) (tp : List Int) : Bool := (List.range' 1 tp.length).all fun n => zI u f (tp.take n)
def witS (u : Template) (f : Formula) (tp : List Int) : Option (List Int) := if begS u f tp then kV u f (f.vars.toNat - tp.length) tp else none
theorem sl_take {tp : List Int} {n : Nat} (h : n ≤ tp.length) : sl tp 0 (n : Int) = some (tp.take n) := by
  unfold sl
  rw [if_pos ⟨by omega, by omega, by omega⟩]
  simp
theorem wit_loop {T : Nat} {u : Template} {f : Formula} (hu : TV T u) (hf : FX u f) {tp : List Int} (hl : (tp.length : Int) ≤ f.vars) : ∀ (m n N : Nat), 1 ≤ n → n + m = tp.length + 1 → m + 1 ≤ N →
    whl (σ := Int) (ρ := (List Int) × Bool) (fun (s32 : Int) =>
   if (decide (s32 ≤ (tp.length : Int))) then
    oJ (sl tp 0 s32) fun z44 =>
    oJ (spec_l03Sure u f z44) fun z48 =>
    if (!z48) then
     some (.ret ([], false))
    else
     oJ (ck (s32 + 1)) fun z53 =>
     some (.go z53)
   else
    some (.brk s32)) N (n : Int) = some (if (List.range' n m).all (fun n => zI u f (tp.take n)) then .nx ((tp.length : Int) + 1) else .ret ([], false))
  | 0, n, N, h1, h2, h3 => by
    obtain ⟨M, rfl⟩ : ∃ M, N = M + 1 := ⟨N - 1, by omega⟩
    rw [whl_brk (s' := (n : Int)) (by rw [if_neg (by simp; omega)])]
    have : (n : Int) = (tp.length : Int) + 1 := by omega
    rw [this]
    rfl
  | m + 1, n, N, h1, h2, h3 => by
    obtain ⟨M, rfl⟩ : ∃ M, N = M + 1 := ⟨N - 1, by omega⟩
    have hv := hf.v0
    have hsl := sl_take (tp := tp) (n := n) (by omega)
    have hlen : (tp.take n).length = n := by rw [List.length_take]; omega
    have hs := sure_eq hu hf (vs := tp.take n) (by rw [hlen]; omega)
    rw [List.range'_succ, List.all_cons]
    by_cases h : zI u f (tp.take n) = true
    · rw [whl_go (s' := ((n + 1 : Nat) : Int)) (by
        rw [if_pos (by simp; omega), hsl, bnd_s, hs, bnd_s, h, if_neg (by simp), ck_eq (by omega) (by omega), bnd_s]
        rfl), wit_loop hu hf hl m (n + 1) M (by omega) (by omega) (by omega), h, Bool.true_and]
    · have h' : zI u f (tp.take n) = false := by simpa using h
      rw [whl_rt (r := ([], false)) (by rw [if_pos (by simp; omega), hsl, bnd_s, hs, bnd_s, h', if_pos (by rfl)]), h', Bool.false_and, if_neg (by simp)]
theorem Witness_eq {T N : Nat} {u : Template} {f : Formula} (hu : TV T u) (hf : FX u f) {tp : List Int} (hl : (tp.length : Int) = f.free) (hN : 20 ≤ N) : spec_l03Witness N u f tp = some ((witS u f tp).getD [], (witS u f tp).isSome) := by
  have h1 := hf.f0
  have h2 := hf.v0
  unfold spec_l03Witness
  have := wit_loop hu hf (tp := tp) (by omega) tp.length 1 N (by omega) (by omega) (by omega)
  rw [show ((1 : Nat) : Int) = 1 from rfl] at this
  rw [this]
  unfold witS begS
  by_cases h : (List.range' 1 tp.length).all (fun n => zI u f (tp.take n)) = true
  · rw [if_pos h, if_pos h, thn_nx]
    unfold zO
    rw [ap_eq (by simp only [List.length_nil]; omega), bnd_s, bnd_s, List.nil_append, search_eq hu hf (f.vars.toNat - tp.length) N tp (by omega) (by omega), bnd_s]
  · rw [if_neg h, if_neg h, thn_ret]
    rfl
theorem first_eq {T N : Nat} {u : Template} {f : Formula} (hu : TV T u) (hf : FX u f) {tp : List Int} (hl : (tp.length : Int) = f.free) (hN : 1100 ≤ N) : impl_solver_first N (solS u f) tp = some ((witS u f tp).getD [], (witS u f tp).isSome) := by
  have h1 := hf.f0
  have h2 := hf.v0
  unfold impl_solver_first
  rw [forL_fnd (ρ := List Int × Bool) (fun k _ => if zI u f (tp.take (k + 1)) then none else some ([], false)) (fun j x hj => by
    have hjl := (List.getElem?_eq_some_iff.1 hj).1
    have hsl := sl_take (tp := tp) (n := j + 1) (by omega)
    have hlen : (tp.take (j + 1)).length = j + 1 := by rw [List.length_take]; omega
    simp only [Nat.zero_add]
    rw [ck_eq (by omega) (by omega), bnd_s, show (j : Int) + 1 = ((j + 1 : Nat) : Int) by omega, hsl, bnd_s, goes_eq hu hf (by omega) (by rw [hlen]; omega), bnd_s]
    by_cases h : zI u f (tp.take (j + 1)) = true
    · rw [h]; rfl
    · have h' : zI u f (tp.take (j + 1)) = false := by simpa using h
      rw [h']; rfl)]
  have key : ∀ (l : List Int) (k : Nat), fnd (fun k (_ : Int) => if zI u f (tp.take (k + 1)) then (none : Option (List Int × Bool)) else some ([], false)) l k = if (List.range' (k + 1) l.length).all (fun n => zI u f (tp.take n)) then none else some ([], false) := by
    intro l
    induction l with
    | nil => intro k; rfl
    | cons x l ih =>
      intro k
      unfold fnd
      rw [List.length_cons, List.range'_succ, List.all_cons]
      by_cases h : zI u f (tp.take (k + 1)) = true
      · simp only [h, if_true, Bool.true_and]
        exact ih (k + 1)
      · have h' : zI u f (tp.take (k + 1)) = false := by simpa using h
        simp [h']
  rw [key tp 0]
  unfold witS begS
  by_cases h : (List.range' 1 tp.length).all (fun n => zI u f (tp.take n)) = true
  · rw [if_pos h, if_pos h]
    show oJ _ _ = _
    rw [walk_eq hu hf (f.vars.toNat - tp.length) N tp [] (by omega) (by omega), bnd_s]
    simp
  · rw [if_neg h, if_neg h]
    rfl
end Go.Proofs.YtmgdjaiaekhkgaaGreat
namespace Go.Proofs.YtmgdjaiaekhkgaaGreat
set_option linter.unusedVariables false
set_option linter.unusedSimpArgs false
theorem whl_mono {σ ρ : Type} {b : σ → Option (Ctl σ ρ)} {r : Out σ ρ} : ∀ {m M : Nat} {s : σ}, whl b m s = some r → m ≤ M → whl b M s = some r
  | 0, _, _, h, _ => by cases h
  | m + 1, M, s, h, hM => by
    obtain ⟨K, rfl⟩ : ∃ K, M = K + 1 := ⟨M - 1, by omega⟩
    unfold whl at h ⊢
    cases hb : b s with
    | none => rw [hb] at h; cases h
    | some c =>
      rw [hb] at h
      cases c with
      | go s' => exact whl_mono h (by omega)
      | brk s' => exact h
      | ret v => exact h
theorem thn_of {σ ρ : Type} {o : Out σ ρ} {k : σ → Option ρ} {r : ρ} (h : Then k r o) : kJ (some o) k = some r := by
  cases o with
  | nx s => exact h
  | ret v => exact congrArg some h
theorem listOf_mono {m M : Nat} {a b c : Int} {d : List Int} (h : kR m a b c = some d) (hM : m ≤ M) : kR M a b c = some d := by
  unfold kR at h ⊢
  obtain ⟨z, h1, h⟩ := xI h
  obtain ⟨y, h2, h⟩ := xI h
  obtain ⟨o, ho, hk⟩ := xS h
  rw [h1, bnd_s, h2, bnd_s, whl_mono ho hM]
  exact thn_of hk
theorem power_mono {m M : Nat} {a b c : Int} (h : spec_l01Power m a b = some c) (hM : m ≤ M) : spec_l01Power M a b = some c := by
  unfold spec_l01Power at h ⊢
  obtain ⟨o, ho, hk⟩ := xS h
  rw [whl_mono ho hM]
  exact thn_of hk
theorem digits_eq : spec_l01Digits = kR := rfl
theorem dig_at {T n k N : Nat} (hT : 1 ≤ T ∧ T ≤ 4) (hn : 1 ≤ n ∧ n ≤ 4) (hN : 10 ≤ N) (hk : k < (kK T n).length) : kR N (T : Int) (n : Int) (k : Int) = some (kK T n)[k] := by
  have h := (enum_dig T (by simp; omega) n (by simp; omega)).2.2.2
  have h1 : ((List.range (kK T n).length).map (fun (k : Nat) => kR 10 (T : Nat) (n : Nat) (k : Int)))[k]? = some (some (kK T n)[k]) := by
    rw [h, List.getElem?_map, List.getElem?_eq_getElem hk]
    rfl
  rw [List.getElem?_map, List.getElem?_range hk] at h1
  exact listOf_mono (Option.some.inj h1) hN
theorem pow_at {T n N : Nat} (hT : 1 ≤ T ∧ T ≤ 4) (hn : 1 ≤ n ∧ n ≤ 4) (hN : 10 ≤ N) : impl_power (T : Int) (n : Int) = some ((kK T n).length : Int) ∧ spec_l01Power N (T : Int) (n : Int) = some ((kK T n).length : Int) := by
  have h := enum_dig T (by simp; omega) n (by simp; omega)
  exact ⟨h.1, power_mono h.2.1 hN⟩
/-! ### Relations that a question picks -/
theorem pick_loop {ρ : Type} {N : Nat} {T n : Int} {E : List (List Int)} {is : List Int → Option Bool} (W : List Int → Bool) (hd : ∀ (k : Nat) (h : k < E.length), kR N T n (k : Int) = some E[k]) (hi : ∀ d ∈ E, is d = some (W d)) : ∀ (m k : Nat) (s : List (List Int)), k + m = E.length → s.length + m ≤ 1000 →
    kT (σ := (List (List Int))) (ρ := ρ) (fun (k59 : Nat) (s53 : (List (List Int))) =>
   oJ (kR N T n (k59 : Int)) fun z65 =>
   oJ (is z65) fun z70 =>
   if z70 then
    oJ (ap s53 ([z65])) fun z75 =>
    some (.go z75)
   else
    some (.go s53)) m k s = some (.nx (s ++ (E.drop k).filter W))
  | 0, k, s, hk, _ => by
    rw [List.drop_eq_nil_of_le (by omega)]
    simp [kT]
  | m + 1, k, s, hk, hs => by
    have hlt : k < E.length := by omega
    have hw := hi _ (List.getElem_mem hlt)
    rw [List.drop_eq_getElem_cons hlt, List.filter_cons]
    by_cases h : W E[k] = true
    · rw [forI_go (s' := s ++ [E[k]]) (by
        rw [hd k hlt, bnd_s, hw, bnd_s, h, if_pos rfl, ap_eq (by simp only [List.length_cons, List.length_nil]; omega), bnd_s]), pick_loop W hd hi m (k + 1) _ (by omega) (by rw [List.length_append, List.length_singleton]; omega), if_pos h]
      simp
    · rw [forI_go (s' := s) (by
        rw [hd k hlt, bnd_s, hw, bnd_s, if_neg h]), pick_loop W hd hi m (k + 1) _ (by omega) (by omega), if_neg h]
theorem relOf_eq {N T n : Nat} (hT : 1 ≤ T ∧ T ≤ 4) (hn : 1 ≤ n ∧ n ≤ 4) (hN : 10 ≤ N) {is : List Int → Option Bool} (W : List Int → Bool) (hi : ∀ d ∈ kK T n, is d = some (W d)) : impl_relOf N (T : Int) (n : Int) is = some ⟨n, (kK T n).filter W⟩ := by
  unfold impl_relOf
  have hl := enum_len hT hn
  rw [(pow_at hT hn hN).1, bnd_s, Int.toNat_natCast, pick_loop W (fun k h => dig_at hT hn hN h) hi _ 0 [] (by omega) (by simp only [List.length_nil]; omega), thn_nx, List.nil_append, List.drop_zero]
/-! ### The value of a formula -/
def valS (u : Template) (f : Formula) (T n : Nat) : Rel := ⟨n, (kK T n).filter fun d => (witS u f d).isSome⟩
theorem val_loop {ρ : Type} {N T n : Nat} {u : Template} {f : Formula} (hu : TV T u) (hf : FV u f) (hfn : f.free = n) (hN : 20 ≤ N) : ∀ (m k M : Nat) (s : List (List Int)), k + m = (kK T n).length → m + 1 ≤ M → s.length + m ≤ 1000 →
    whl (σ := Int × (List (List Int))) (ρ := ρ) (fun (s : Int × (List (List Int))) =>
    match s with
    | (s134, s136) =>
    oJ (spec_l01Power N u.size f.free) fun z156 =>
    if (decide (s134 < z156)) then
     oJ (spec_l01Digits N u.size f.free s134) fun z165 =>
     oJ (spec_l03Witness N u f z165) fun z186 =>
     if z186.2 then
      oJ (ap s136 ([z165])) fun z194 =>
      oJ (ck (s134 + 1)) fun z198 =>
      some (.go (z198, z194))
     else
      oJ (ck (s134 + 1)) fun z200 =>
      some (.go (z200, s136))
    else
     some (.brk (s134, s136))) M ((k : Int), s) = some (.nx (((kK T n).length : Int), s ++ ((kK T n).drop k).filter fun d => (witS u f d).isSome))
  | 0, k, M, s, hk, hM, _ => by
    obtain ⟨M, rfl⟩ : ∃ M', M = M' + 1 := ⟨M - 1, by omega⟩
    have hn : 1 ≤ n ∧ n ≤ 4 := by have := hf.f0; omega
    rw [whl_brk (s' := ((k : Int), s)) (by
      simp only [hu.s, hfn, (pow_at hu.t hn (show 10 ≤ N by omega)).2, bnd_s]
      rw [if_neg (by simp; omega)]), List.drop_eq_nil_of_le (by omega), show k = (kK T n).length by omega]
    simp
  | m + 1, k, M, s, hk, hM, hs => by
    obtain ⟨M, rfl⟩ : ∃ M', M = M' + 1 := ⟨M - 1, by omega⟩
    have hn : 1 ≤ n ∧ n ≤ 4 := by have := hf.f0; omega
    have hL := enum_len hu.t hn
    have hlt : k < (kK T n).length := by omega
    have hmem := enum_mem.1 (List.getElem_mem hlt)
    have hw := Witness_eq (N := N) hu hf.x (tp := (kK T n)[k]) (by rw [hmem.1, hfn]) hN
    have e : (k : Int) + 1 = ((k + 1 : Nat) : Int) := by omega
    rw [List.drop_eq_getElem_cons hlt, List.filter_cons]
    by_cases h : (witS u f (kK T n)[k]).isSome = true
    · rw [whl_go (s' := (((k + 1 : Nat) : Int), s ++ [(kK T n)[k]])) (by
        simp only [hu.s, hfn, (pow_at hu.t hn (show 10 ≤ N by omega)).2, bnd_s]
        rw [if_pos (by simp; omega), digits_eq, dig_at hu.t hn (by omega) hlt, bnd_s, hw, bnd_s, h, if_pos rfl, ap_eq (by simp only [List.length_cons, List.length_nil]; omega), bnd_s, ck_eq (by omega) (by omega), bnd_s, e]), val_loop hu hf hfn hN m (k + 1) M _ (by omega) (by omega) (by rw [List.length_append, List.length_singleton]; omega), if_pos h]
      simp
    · rw [whl_go (s' := (((k + 1 : Nat) : Int), s)) (by
        simp only [hu.s, hfn, (pow_at hu.t hn (show 10 ≤ N by omega)).2, bnd_s]
        rw [if_pos (by simp; omega), digits_eq, dig_at hu.t hn (by omega) hlt, bnd_s, hw, bnd_s, if_neg h, ck_eq (by omega) (by omega), bnd_s, e]), val_loop hu hf hfn hN m (k + 1) M _ (by omega) (by omega) (by omega), if_neg h]
theorem value_two {N T n : Nat} {u : Template} {f : Formula} (hu : TV T u) (hf : FV u f) (hfn : f.free = n) (hN : 1100 ≤ N) : spec_l03Value N u f = some (valS u f T n) ∧ impl_valueOf N u f = some (valS u f T n) := by
  have hn : 1 ≤ n ∧ n ≤ 4 := by have := hf.f0; omega
  have hL := enum_len hu.t hn
  constructor
  · unfold spec_l03Value
    have := val_loop (ρ := Rel) hu hf hfn (show 20 ≤ N by omega) (kK T n).length 0 N [] (by omega) (by omega) (by simp only [List.length_nil]; omega)
    rw [show ((0 : Nat) : Int) = 0 from rfl] at this
    rw [this, thn_nx, hfn]
    rfl
  · unfold impl_valueOf
    have h1 : impl_solverOf (Template.mk u.size u.rels) f.vars f.atoms = some (solS u f) := solverOf_eq hu hf.x
    rw [h1, bnd_s, hu.s, hfn, relOf_eq hu.t hn (by omega) (fun d => (witS u f d).isSome) (fun d hd => by
      unfold impl_valueOf_1
      rw [first_eq hu hf.x (by rw [(enum_mem.1 hd).1, hfn]) hN, bnd_s]), bnd_s]
    rfl
/-! ### Where a relation is not the value -/
def apart (V R : List (List Int)) (d : List Int) : Bool := decide (d ∈ V) != decide (d ∈ R)
theorem apart_nil {T n : Nat} {V R : List (List Int)} (hV : Asc V) (hVm : ∀ t ∈ V, t ∈ kK T n) (hR : Asc R) (hRm : ∀ t ∈ R, t ∈ kK T n) : (kK T n).filter (apart V R) = [] ↔ V = R := by
  constructor
  · intro h
    refine hV.ext hR (fun x => ?_)
    have key : x ∈ kK T n → (x ∈ V ↔ x ∈ R) := fun hx => by
      have := List.filter_eq_nil_iff.1 h x hx
      unfold apart at this
      by_cases h1 : x ∈ V <;> by_cases h2 : x ∈ R <;> simp_all
    exact ⟨fun hx => (key (hVm x hx)).1 hx, fun hx => (key (hRm x hx)).2 hx⟩
  · rintro rfl
    rw [List.filter_eq_nil_iff]
    intro x _
    simp [apart]
theorem lists_same {b : Nat → List Int → Unit → Option (Ctl Unit Bool)} {v : List (List Int)} {d : List (List Int)} (hl : d.length = v.length) (hb : ∀ j x y, d[j]? = some x → v[j]? = some y → b j x () = some (if decide (x = y) then .go () else .ret false)) : kJ (qT b d 0 ()) (fun _ => some true) = some (decide (d = v)) := by
  rw [forL_fnd (ρ := Bool) (fun k x => if (v[k]? != some x) = true then some false else none) (fun j x hj => by
    have hjl := (List.getElem?_eq_some_iff.1 hj).1
    have hv : v[j]? = some (v[j]'(by omega)) := List.getElem?_eq_getElem _
    rw [Nat.zero_add, hb j x _ hj hv, hv]
    by_cases hx : x = v[j]'(by omega)
    · rw [← hx]; simp [ctlO]
    · have h2 : (some (v[j]'(by omega)) != some x) = true := by simpa using fun e => hx e.symm
      rw [h2, decide_eq_false hx]
      rfl)]
  have key : ∀ (d : List (List Int)) (k : Nat), k + d.length = v.length → fnd (fun k x => if (v[k]? != some x) = true then some false else none) d k = if d = v.drop k then none else some false := by
    intro d
    induction d with
    | nil =>
      intro k hk
      have : v.drop k = [] := List.drop_eq_nil_of_le (by simp at hk; omega)
      rw [this]
      rfl
    | cons x d ih =>
      intro k hk
      have hkl : k < v.length := by simp at hk; omega
      have hd : v.drop k = v[k] :: v.drop (k + 1) := List.drop_eq_getElem_cons hkl
      unfold fnd
      rw [hd, List.getElem?_eq_getElem hkl]
      by_cases hx : x = v[k]
      · have e1 : (some v[k] != some x) = false := by rw [hx]; simp
        rw [e1, if_neg (by simp), ih (k + 1) (by simp at hk; omega), hx]
        simp only [List.cons.injEq, true_and]
      · have h2 : (some v[k] != some x) = true := by simpa using fun e => hx e.symm
        rw [h2, if_pos rfl, if_neg (fun e => hx (List.cons.inj e).1)]
  rw [key d 0 (by omega), List.drop_zero]
  by_cases hd : d = v
  · rw [if_pos hd]; simp [outO, hd]
  · rw [if_neg hd]; simp [outO, hd]
theorem l01Same_eq {v r : Rel} (ha : v.arity = r.arity) : spec_l01Same v r = some (decide (v.tuples = r.tuples)) := by
  unfold spec_l01Same
  rw [ha, if_neg (by simp)]
  by_cases hl : v.tuples.length = r.tuples.length
  · rw [hl]
    simp only [bne_self_eq_false, thn_nx, Bool.false_eq_true, if_false]
    exact lists_same hl (fun j x y hx hy => by
      simp only [qG hy, bnd_s, l00Same_eq]
      by_cases h : x = y <;> simp [h])
  · have h1 : ((v.tuples.length : Int) != (r.tuples.length : Int)) = true := by simp; omega
    rw [h1, thn_nx, if_pos rfl, decide_eq_false (fun e => hl (by rw [e]))]
end Go.Proofs.YtmgdjaiaekhkgaaGreat
namespace Go.Proofs.YtmgdjaiaekhkgaaGreat
set_option linter.unusedVariables false
set_option linter.unusedSimpArgs false
theorem relB_V {s : Int} {x : Rel} (hN : x.tuples.length ≤ 1048576) (h : relB' s x = true) : okS s = true ∧ relV s.toNat x := by
  obtain ⟨b, _, h2, h3⟩ := relOkS s x hN
  have hb : b = true := by unfold relB' at h; rw [h2] at h; exact h
  obtain ⟨h4, h5, h6, h7⟩ := h3 hb
  have hs := okS_eq h4
  have ha := okS_eq h5
  refine ⟨h4, x.arity.toNat, by omega, by omega, by omega, asc_of h7, fun t ht => enum_mem.2 ?_⟩
  have h8 := h6 t ht
  unfold areB at h8
  rw [Bool.and_eq_true] at h8
  refine ⟨by have : (t.length : Int) = x.arity := by simpa using h8.1
             omega, fun a ha => ?_⟩
  have h9 := List.all_eq_true.1 h8.2 a ha
  unfold okV at h9
  simp at h9
  omega
theorem tempB_TV {u : Template} (hu : smallT u) (h : tempB u = true) : TV u.size.toNat u := by
  unfold tempB at h
  rw [Bool.and_eq_true, Bool.and_eq_true] at h
  obtain ⟨h1, h2, h3⟩ := h
  have hs := okS_eq h1
  exact ⟨by omega, by omega, fun r hr => (relB_V (hu r hr) (List.all_eq_true.1 h3 r hr)).2, by have := of_decide_eq_true h2; omega⟩
/-! ### Formulas -/
def arS (u : Template) (rel : Int) : Int := if rel = -1 then 2 else if 0 ≤ rel ∧ rel < u.rels.length then (u.rels.getD rel.toNat default).arity else 0
theorem arity_eq {u : Template} (h : u.rels.length ≤ 6) (rel : Int) : kC u rel = some (arS u rel) := by
  unfold kC arS
  by_cases h1 : rel = -1
  · subst h1; rfl
  · have h1' : (rel == -1) = false := by simpa using h1
    rw [h1', if_neg (by simp), if_neg h1, ck_eq (by omega) (by omega), bnd_s, within_eq, bnd_s]
    by_cases h2 : 0 ≤ rel ∧ rel < u.rels.length
    · have h3 : (decide (0 ≤ rel) && decide (rel ≤ (u.rels.length : Int) - 1)) = true := by simp; omega
      have h4 : u.rels[rel.toNat]? = some (u.rels.getD rel.toNat default) := by
        rw [List.getD_eq_getElem?_getD, List.getElem?_eq_getElem (by omega)]
        rfl
      rw [h3, if_neg (by simp), ix_of h2.1 h4, bnd_s, if_pos h2]
    · have h3 : (decide (0 ≤ rel) && decide (rel ≤ (u.rels.length : Int) - 1)) = false := by
        by_cases h5 : 0 ≤ rel
        · simp [h5]; omega
        · simp [h5]
      rw [h3, if_pos (by rfl), if_neg h2]
theorem l03Arity_eq {u : Template} (h : u.rels.length ≤ 6) (rel : Int) : spec_l03Arity u rel = some (arS u rel) := arity_eq h rel
def atomB (u : Template) (vars : Int) (a : Atom) : Bool := !(arS u a.rel == 0) && (((a.args.length : Int) == arS u a.rel) && a.args.all (okV vars))
def formB (u : Template) (f : Formula) : Bool := okS f.free && ((decide (f.free ≤ f.vars) && decide (f.vars ≤ 8)) && (decide ((f.atoms.length : Int) ≤ 16) && f.atoms.all (atomB u f.vars)))
theorem isValue_s {s : Int} (h : 1 ≤ s ∧ s ≤ 1000) (a : Int) : impl_isValue s a = some (okV s a) := by
  unfold impl_isValue
  rw [ck_eq (by omega) (by omega), bnd_s, within_eq]
  rfl
theorem areValues_s {s : Int} (h : 1 ≤ s ∧ s ≤ 1000) (ar : Int) (t : List Int) : zS s t ar = some (areB s t ar) := by
  unfold zS areB
  by_cases hl : ((t.length : Int) == ar) = true
  · rw [hl, if_pos rfl, containsI_eq t (fun x => !okV s x) _ (fun x => by unfold impl_areValues_1; rw [isValue_s h, bnd_s])]
    rw [bnd_s, thn_nx, Bool.true_and, ← List.not_all_eq_any_not, Bool.not_not]
  · have hl' : ((t.length : Int) == ar) = false := by simpa using hl
    rw [hl', if_neg (by simp), thn_nx, Bool.false_and]
theorem Places_s {s : Int} (h : 1 ≤ s ∧ s ≤ 1000) (t : List Int) : spec_l01Places t s = some (t.all (okV s)) := by
  unfold spec_l01Places
  exact forL_all (okV s) (fun j x hx => by
    simp only [ck_eq (x := s - 1) (by omega) (by omega), bnd_s, l00In_eq]
    unfold okV
    cases (decide (0 ≤ x) && decide (x ≤ s - 1)) <;> rfl)
theorem ValidFormula_eq {u : Template} (hu : smallT u) (ht : tempB u = true) (f : Formula) : impl_ValidFormula u f = some (formB u f) := by
  have hn := (tempB_TV hu ht).n
  unfold impl_ValidFormula formB
  have h0 : vK (Template.mk u.size u.rels) = some (tempB u) := ValidTemplate_eq u hu
  rw [h0, bnd_s, ht, if_pos rfl]
  have h1 : impl_isFrame (Formula.mk f.free f.vars f.atoms) = some (okS f.free && ((decide (f.free ≤ f.vars) && decide (f.vars ≤ 8)) && decide ((f.atoms.length : Int) ≤ 16))) := by
    unfold impl_isFrame
    simp only [isArity_eq, bnd_s, within_eq]
    cases okS f.free <;> simp only [Bool.false_eq_true, if_false, thn_nx, Bool.false_and, if_true, Bool.true_and]
    cases (decide (f.free ≤ f.vars) && decide (f.vars ≤ 8)) <;> rfl
  rw [h1, bnd_s]
  by_cases hs : okS f.free = true
  · by_cases hv : (decide (f.free ≤ f.vars) && decide (f.vars ≤ 8)) = true
    · by_cases ha : decide ((f.atoms.length : Int) ≤ 16) = true
      · rw [hs, hv, ha, if_pos (show (true && (true && true)) = true from rfl)]
        have h2 := okS_eq hs
        have h3 : f.free ≤ f.vars ∧ f.vars ≤ 8 := by simpa using hv
        rw [containsA_eq f.atoms (fun a => !atomB u f.vars a) _ (fun a _ => by
          unfold impl_ValidFormula_1
          have h4 : kC (Template.mk u.size u.rels) a.rel = some (arS u a.rel) := arity_eq hn a.rel
          rw [h4, bnd_s]
          unfold atomB
          by_cases h5 : (arS u a.rel == 0) = true
          · rw [h5, if_pos rfl, thn_nx]
            rfl
          · have h5' : (arS u a.rel == 0) = false := by simpa using h5
            rw [h5', if_neg (by simp)]
            unfold impl_isAtom
            simp only [areValues_s (s := f.vars) (by omega), bnd_s, thn_nx]
            unfold areB
            rfl), bnd_s, thn_nx, ← List.not_all_eq_any_not]
        simp
      · have ha' : decide ((f.atoms.length : Int) ≤ 16) = false := by simpa using ha
        rw [hs, hv, ha']
        rfl
    · have hv' : (decide (f.free ≤ f.vars) && decide (f.vars ≤ 8)) = false := by simpa using hv
      rw [hs, hv']
      rfl
  · have hs' : okS f.free = false := by simpa using hs
    rw [hs']
    rfl
theorem l03Ok_eq {u : Template} (hu : smallT u) (ht : tempB u = true) (f : Formula) : spec_l03Ok u f = some (formB u f) := by
  have hn := (tempB_TV hu ht).n
  unfold spec_l03Ok formB
  rw [l01Template_eq u hu, bnd_s, ht, if_neg (by simp)]
  have h1 : spec_l03Counts f = some (okS f.free && ((decide (f.free ≤ f.vars) && decide (f.vars ≤ 8)) && decide ((f.atoms.length : Int) ≤ 16))) := by
    unfold spec_l03Counts
    simp only [l01Arity_eq, bnd_s, l00In_eq]
    cases okS f.free <;> simp only [Bool.false_eq_true, if_false, thn_nx, Bool.false_and, if_true, Bool.true_and]
    cases (decide (f.free ≤ f.vars) && decide (f.vars ≤ 8)) <;> rfl
  rw [h1, bnd_s, thn_nx]
  by_cases hs : okS f.free = true
  · by_cases hv : (decide (f.free ≤ f.vars) && decide (f.vars ≤ 8)) = true
    · by_cases ha : decide ((f.atoms.length : Int) ≤ 16) = true
      · rw [hs, hv, ha, if_neg (by simp)]
        have h2 := okS_eq hs
        have h3 : f.free ≤ f.vars ∧ f.vars ≤ 8 := by simpa using hv
        rw [forL_all (atomB u f.vars) (fun j a _ => by
          simp only [l03Arity_eq hn, bnd_s]
          unfold atomB
          by_cases h5 : (arS u a.rel == 0) = true
          · rw [h5, if_pos rfl, thn_nx, if_pos rfl]
            rfl
          · have h5' : (arS u a.rel == 0) = false := by simpa using h5
            rw [h5', if_neg (by simp)]
            by_cases h6 : ((a.args.length : Int) == arS u a.rel) = true
            · have h7 : ((a.args.length : Int) != arS u a.rel) = false := by simpa using h6
              rw [h7, if_neg (by simp), Places_s (by omega), bnd_s, thn_nx, h6]
              cases a.args.all (okV f.vars) <;> rfl
            · have h6' : ((a.args.length : Int) == arS u a.rel) = false := by simpa using h6
              have h7 : ((a.args.length : Int) != arS u a.rel) = true := by simpa using h6
              rw [h7, if_pos rfl, thn_nx, h6']
              rfl)]
        simp
      · have ha' : decide ((f.atoms.length : Int) ≤ 16) = false := by simpa using ha
        rw [hs, hv, ha']
        rfl
    · have hv' : (decide (f.free ≤ f.vars) && decide (f.vars ≤ 8)) = false := by simpa using hv
      rw [hs, hv']
      rfl
  · have hs' : okS f.free = false := by simpa using hs
    rw [hs']
    rfl
theorem formB_FV {T : Nat} {u : Template} (hu : TV T u) {f : Formula} (h : formB u f = true) : FV u f := by
  unfold formB at h
  simp only [Bool.and_eq_true, decide_eq_true_eq] at h
  obtain ⟨h1, ⟨h2, h3⟩, h4, h5⟩ := h
  have h6 := okS_eq h1
  refine ⟨h6, ⟨h2, h3⟩, by omega, fun a ha => ?_⟩
  have h7 := List.all_eq_true.1 h5 a ha
  unfold atomB at h7
  simp only [Bool.and_eq_true] at h7
  obtain ⟨h8, h9, h10⟩ := h7
  have h8' : arS u a.rel ≠ 0 := by simpa using h8
  have h9' : (a.args.length : Int) = arS u a.rel := by simpa using h9
  refine ⟨fun i hi => ?_, ?_⟩
  · have := List.all_eq_true.1 h10 i hi
    unfold okV at this
    simp at this
    omega
  · unfold arS at h8' h9'
    by_cases e : a.rel = -1
    · rw [if_pos e] at h9'
      exact .inl ⟨e, by omega⟩
    · rw [if_neg e] at h8' h9'
      by_cases e2 : 0 ≤ a.rel ∧ a.rel < u.rels.length
      · rw [if_pos e2] at h9'
        have h11 : u.rels[a.rel.toNat]? = some (u.rels.getD a.rel.toNat default) := by
          rw [List.getD_eq_getElem?_getD, List.getElem?_eq_getElem (by omega)]
          rfl
        exact .inr ⟨_, e2.1, h11, List.mem_of_getElem? h11, h9'⟩
      · rw [if_neg e2] at h8'
        exact absurd rfl h8'
/-! ### Gadgets -/
def gadQ (t u : Template) (k : Nat) (f : Formula) : Option Bool := if formB u f && (f.free == (t.rels.getD k default).arity) then none else some false
def gadF (t u : Template) (g : Gadgets) : Bool := tempB t && (tempB u && ((t.size == u.size) && (((g.formulas.length : Int) == (t.rels.length : Int)) && (fnd (gadQ t u) g.formulas 0).isNone)))
theorem fnd_none {α ρ : Type} {q : Nat → α → Option ρ} : ∀ {l : List α} {k : Nat}, fnd q l k = none → ∀ j x, l[j]? = some x → q (k + j) x = none
  | [], _, _, j, x, h => by cases j <;> cases h
  | y :: l, k, h, j, x, hx => by
    unfold fnd at h
    cases hq : q k y with
    | some r => rw [hq] at h; cases h
    | none =>
      rw [hq] at h
      cases j with
      | zero => simp at hx; subst hx; exact hq
      | succ j =>
        have := fnd_none (k := k + 1) h j x (by simpa using hx)
        rwa [show k + 1 + j = k + (j + 1) by omega] at this
theorem fnd_map {α ρ ρ' : Type} {q : Nat → α → Option ρ} (g : ρ → ρ') : ∀ (l : List α) (k : Nat), fnd (fun k x => (q k x).map g) l k = (fnd q l k).map g
  | [], _ => rfl
  | y :: l, k => by
    unfold fnd
    cases q k y with
    | none => exact fnd_map g l (k + 1)
    | some r => rfl
theorem form_two {t u : Template} {g : Gadgets} (ht : smallT t) (hu : smallT u) : spec_l09Form t u g = some (gadF t u g) ∧ impl_areFormulas t u g = some (gadF t u g) := by
  have e0 : vK (Template.mk t.size t.rels) = some (tempB t) := ValidTemplate_eq t ht
  have e1 : vK (Template.mk u.size u.rels) = some (tempB u) := ValidTemplate_eq u hu
  unfold spec_l09Form impl_areFormulas gadF
  rw [l01Template_eq t ht, e0, bnd_s, bnd_s]
  by_cases h1 : tempB t = true
  · rw [l01Template_eq u hu, e1]
    simp only [h1, Bool.not_true, Bool.false_eq_true, if_false, bnd_s, Bool.true_and]
    by_cases h2 : tempB u = true
    · simp only [h2, Bool.not_true, Bool.false_eq_true, if_false, Bool.true_and]
      by_cases h3 : t.size = u.size
      · rw [h3]
        simp only [bne_self_eq_false, Bool.false_eq_true, if_false, thn_nx, beq_self_eq_true, Bool.true_and]
        by_cases h4 : (g.formulas.length : Int) = (t.rels.length : Int)
        · rw [h4]
          simp only [bne_self_eq_false, Bool.false_eq_true, if_false, beq_self_eq_true, Bool.true_and]
          have hr : ∀ (j : Nat) x, g.formulas[j]? = some x → ix t.rels (j : Int) = some (t.rels.getD j default) := fun j x hj => by
            have := (List.getElem?_eq_some_iff.1 hj).1
            exact qG (by rw [List.getD_eq_getElem?_getD, List.getElem?_eq_getElem (by omega)]; rfl)
          constructor
          · rw [forL_fnd (gadQ t u) (fun j x hj => by
              rw [Nat.zero_add]
              simp only [l03Ok_eq hu h2, bnd_s, hr j x hj]
              unfold gadQ
              cases formB u x
              · rfl
              · simp only [Bool.not_true, Bool.false_eq_true, if_false, thn_nx, Bool.true_and]
                by_cases e : x.free = (t.rels.getD j default).arity
                · have e1 : (x.free != (t.rels.getD j default).arity) = false := by simpa using e
                  have e2 : (x.free == (t.rels.getD j default).arity) = true := by simpa using e
                  rw [e1, e2]
                  rfl
                · have e1 : (x.free != (t.rels.getD j default).arity) = true := by simpa using e
                  have e2 : (x.free == (t.rels.getD j default).arity) = false := by simpa using e
                  rw [e1, e2]
                  rfl)]
            cases hf : fnd (gadQ t u) g.formulas 0 with
            | none => rfl
            | some b =>
              have : ∀ (l : List Formula) (k : Nat) b, fnd (gadQ t u) l k = some b → b = false := by
                intro l
                induction l with
                | nil => intro k b h; cases h
                | cons y l ih =>
                  intro k b h
                  unfold fnd at h
                  unfold gadQ at h
                  split at h
                  · rename_i h5; split at h5
                    · cases h5
                    · rw [← Option.some.inj h5] at h; exact (Option.some.inj h).symm
                  · exact ih _ _ h
              rw [this _ _ _ hf]
              rfl
          · rw [forL_fnd (gadQ t u) (fun j x hj => by
              rw [Nat.zero_add]
              have e3 : impl_ValidFormula (Template.mk u.size u.rels) (Formula.mk x.free x.vars x.atoms) = some (formB u x) := ValidFormula_eq hu h2 x
              simp only [e3, bnd_s, hr j x hj]
              unfold gadQ
              cases formB u x
              · rfl
              · simp only [Bool.not_true, Bool.false_eq_true, if_false, thn_nx, Bool.true_and]
                by_cases e : x.free = (t.rels.getD j default).arity
                · have e1 : (x.free != (t.rels.getD j default).arity) = false := by simpa using e
                  have e2 : (x.free == (t.rels.getD j default).arity) = true := by simpa using e
                  rw [e1, e2]
                  rfl
                · have e1 : (x.free != (t.rels.getD j default).arity) = true := by simpa using e
                  have e2 : (x.free == (t.rels.getD j default).arity) = false := by simpa using e
                  rw [e1, e2]
                  rfl)]
            cases hf : fnd (gadQ t u) g.formulas 0 with
            | none => rfl
            | some b =>
              have : ∀ (l : List Formula) (k : Nat) b, fnd (gadQ t u) l k = some b → b = false := by
                intro l
                induction l with
                | nil => intro k b h; cases h
                | cons y l ih =>
                  intro k b h
                  unfold fnd at h
                  unfold gadQ at h
                  split at h
                  · rename_i h5; split at h5
                    · cases h5
                    · rw [← Option.some.inj h5] at h; exact (Option.some.inj h).symm
                  · exact ih _ _ h
              rw [this _ _ _ hf]
              rfl
        · have h4' : ((g.formulas.length : Int) != (t.rels.length : Int)) = true := by simpa using h4
          have h4'' : ((g.formulas.length : Int) == (t.rels.length : Int)) = false := by simpa using h4
          rw [h4', h4'']
          exact ⟨rfl, rfl⟩
      · have h3' : (t.size != u.size) = true := by simpa using h3
        have h3'' : (t.size == u.size) = false := by simpa using h3
        rw [h3', h3'']
        exact ⟨rfl, rfl⟩
    · have h2' : tempB u = false := by simpa using h2
      rw [h2']
      exact ⟨rfl, rfl⟩
  · have h1' : tempB t = false := by simpa using h1
    rw [h1']
    exact ⟨rfl, rfl⟩
end Go.Proofs.YtmgdjaiaekhkgaaGreat
namespace Go.Proofs.YtmgdjaiaekhkgaaGreat
set_option linter.unusedVariables false
set_option linter.unusedSimpArgs false
/-- What gadgets of the right form give. -/
structure GV (T : Nat) (t u : Template) (g : Gadgets) : Prop where
  tV : TV T t
  uV : TV T u
  n : g.formulas.length = t.rels.length
  f : ∀ (j : Nat) f, g.formulas[j]? = some f → FV u f ∧ f.free = (t.rels.getD j default).arity ∧ t.rels[j]? = some (t.rels.getD j default)
theorem gadF_GV {t u : Template} {g : Gadgets} (ht : smallT t) (hu : smallT u) (h : gadF t u g = true) : GV t.size.toNat t u g := by
  unfold gadF at h
  simp only [Bool.and_eq_true] at h
  obtain ⟨h1, h2, h3, h4, h5⟩ := h
  have e : t.size = u.size := by simpa using h3
  have hn0 : (g.formulas.length : Int) = (t.rels.length : Int) := by simpa using h4
  have hn : g.formulas.length = t.rels.length := by omega
  have hT := tempB_TV ht h1
  have hU := tempB_TV hu h2
  rw [← e] at hU
  refine ⟨hT, hU, hn, fun j f hj => ?_⟩
  have h6 := fnd_none (Option.isNone_iff_eq_none.1 h5) j f hj
  rw [Nat.zero_add] at h6
  unfold gadQ at h6
  have hjl := (List.getElem?_eq_some_iff.1 hj).1
  have hg : t.rels[j]? = some (t.rels.getD j default) := by rw [List.getD_eq_getElem?_getD, List.getElem?_eq_getElem (by omega)]; rfl
  split at h6
  · rename_i h7
    rw [Bool.and_eq_true] at h7
    exact ⟨formB_FV hU h7.1, by simpa using h7.2, hg⟩
  · cases h6
/-- Where the formula of a relation is wrong. -/
def wrongL (T : Nat) (t u : Template) (k : Nat) (f : Formula) : List (List Int) := (kK T f.free.toNat).filter (apart (valS u f T f.free.toNat).tuples (t.rels.getD k default).tuples)
def wrongQ (T : Nat) (t u : Template) (k : Nat) (f : Formula) : Option (Nat × Rel × List Int) := match wrongL T t u k f with
  | [] => none
  | d :: _ => some (k, valS u f T f.free.toNat, d)
theorem val_asc {T : Nat} {u : Template} {f : Formula} {n : Nat} : Asc (valS u f T n).tuples ∧ ∀ t ∈ (valS u f T n).tuples, t ∈ kK T n :=
  ⟨(enum_asc T n).filter _, fun t ht => (List.mem_filter.1 ht).1⟩
theorem GV.rel {T : Nat} {t u : Template} {g : Gadgets} (h : GV T t u g) {j : Nat} {f : Formula} (hj : g.formulas[j]? = some f) : Asc (t.rels.getD j default).tuples ∧ (∀ x ∈ (t.rels.getD j default).tuples, x ∈ kK T f.free.toNat) ∧ (t.rels.getD j default).tuples.length ≤ 256 ∧ (f.free.toNat : Int) = f.free := by
  obtain ⟨h1, h2, h3⟩ := h.f j f hj
  have hm := List.mem_of_getElem? h3
  obtain ⟨n, e, _, _, h4, h5⟩ := h.tV.r _ hm
  have hf := h1.f0
  have e2 : f.free.toNat = n := by rw [h2, e]; simp
  exact ⟨h4, by rw [e2]; exact h5, (h.tV.r _ hm).len h.tV.t, by omega⟩
theorem wrongQ_none {T : Nat} {t u : Template} {g : Gadgets} (h : GV T t u g) {j : Nat} {f : Formula} (hj : g.formulas[j]? = some f) : wrongQ T t u j f = none ↔ (valS u f T f.free.toNat).tuples = (t.rels.getD j default).tuples := by
  obtain ⟨h1, h2, _, _⟩ := h.rel hj
  rw [← apart_nil (T := T) (n := f.free.toNat) val_asc.1 val_asc.2 h1 h2]
  show _ ↔ wrongL T t u j f = []
  unfold wrongQ
  cases wrongL T t u j f <;> simp
theorem Wrong_two {N T : Nat} {t u : Template} {g : Gadgets} (h : GV T t u g) (hN : 1100 ≤ N) :
    spec_l09Wrong N t u g = some (match fnd (wrongQ T t u) g.formulas 0 with | none => (-1, ⟨0, []⟩) | some r => ((r.1 : Int), r.2.1)) ∧
    impl_firstWrong N t u g = some (match fnd (wrongQ T t u) g.formulas 0 with | none => (-1, []) | some r => ((r.1 : Int), r.2.2)) := by
  constructor
  · unfold spec_l09Wrong
    rw [forL_fnd (fun k x => (wrongQ T t u k x).map fun r => ((r.1 : Int), r.2.1)) (fun j f hj => by
      rw [Nat.zero_add]
      obtain ⟨h1, h2, h3⟩ := h.f j f hj
      obtain ⟨h4, h5, h6, h7⟩ := h.rel hj
      have hv := (value_two h.uV h1 h7.symm hN).1
      simp only [hv, bnd_s, qG h3]
      have hs : spec_l01Same (Rel.mk (valS u f T f.free.toNat).arity (valS u f T f.free.toNat).tuples) (t.rels.getD j default) = some (decide ((valS u f T f.free.toNat).tuples = (t.rels.getD j default).tuples)) := l01Same_eq (by rw [← h2, ← h7]; rfl)
      rw [hs, bnd_s]
      by_cases e : (valS u f T f.free.toNat).tuples = (t.rels.getD j default).tuples
      · rw [(wrongQ_none h hj).2 e, decide_eq_true e]
        rfl
      · rw [decide_eq_false e]
        cases hq : wrongQ T t u j f with
        | none => exact absurd ((wrongQ_none h hj).1 hq) e
        | some r =>
          unfold wrongQ at hq
          split at hq
          · cases hq
          · rw [← Option.some.inj hq]
            rfl), fnd_map]
    cases fnd (wrongQ T t u) g.formulas 0 <;> rfl
  · unfold impl_firstWrong
    rw [forL_fnd (fun k x => (wrongQ T t u k x).map fun r => ((r.1 : Int), r.2.2)) (fun j f hj => by
      rw [Nat.zero_add]
      obtain ⟨h1, h2, h3⟩ := h.f j f hj
      obtain ⟨h4, h5, h6, h7⟩ := h.rel hj
      have hv : impl_valueOf N (Template.mk u.size u.rels) (Formula.mk f.free f.vars f.atoms) = some (valS u f T f.free.toNat) := (value_two h.uV h1 h7.symm hN).2
      have hf := h1.f0
      have hn : 1 ≤ f.free.toNat ∧ f.free.toNat ≤ 4 := by omega
      have hvl : (valS u f T f.free.toNat).tuples.length ≤ 256 := Nat.le_trans (List.length_filter_le _ _) (enum_len h.tV.t hn)
      simp only [hv, bnd_s]
      have hr : impl_relOf N t.size f.free (fun a0 => kN N a0 (Rel.mk (valS u f T f.free.toNat).arity (valS u f T f.free.toNat).tuples) (Template.mk t.size t.rels) (j : Int)) = some ⟨f.free.toNat, wrongL T t u j f⟩ := by
        have e : impl_relOf N t.size f.free (fun a0 => kN N a0 (Rel.mk (valS u f T f.free.toNat).arity (valS u f T f.free.toNat).tuples) (Template.mk t.size t.rels) (j : Int)) = impl_relOf N (T : Int) ((f.free.toNat : Nat) : Int) (fun a0 => kN N a0 (Rel.mk (valS u f T f.free.toNat).arity (valS u f T f.free.toNat).tuples) (Template.mk t.size t.rels) (j : Int)) := by rw [h7, h.tV.s]
        rw [e]
        refine relOf_eq h.tV.t hn (by omega) (apart (valS u f T f.free.toNat).tuples (t.rels.getD j default).tuples) (fun d _ => ?_)
        unfold kN
        have h8 : impl_Rel_has N (Rel.mk (valS u f T f.free.toNat).arity (valS u f T f.free.toNat).tuples) d = some (decide (d ∈ (valS u f T f.free.toNat).tuples)) := has_eq val_asc.1 (by simp only; omega) (by omega)
        rw [h8, bnd_s]
        show oJ (ix t.rels (j : Int)) _ = _
        rw [qG h3, bnd_s, has_eq h4 (by omega) (by omega), bnd_s]
        rfl
      rw [hr, bnd_s]
      unfold wrongQ
      cases hw : wrongL T t u j f with
      | nil => rfl
      | cons d r =>
        simp only
        rw [if_pos (by simp), show ix (d :: r) 0 = some d from rfl, bnd_s]
        rfl), fnd_map]
    cases fnd (wrongQ T t u) g.formulas 0 <;> rfl
theorem wrong_neg (o : Option (Nat × Rel × List Int)) : decide ((match o with | none => ((-1 : Int), (⟨0, []⟩ : Rel)) | some r => ((r.1 : Int), r.2.1)).1 < 0) = o.isNone := by
  cases o with
  | none => rfl
  | some r => simp
theorem wrong_neg' (o : Option (Nat × Rel × List Int)) : decide ((match o with | none => ((-1 : Int), ([] : List Int)) | some r => ((r.1 : Int), r.2.2)).1 < 0) = o.isNone := by
  cases o with
  | none => rfl
  | some r => simp
def gadV (t u : Template) (g : Gadgets) : Bool := gadF t u g && (fnd (wrongQ t.size.toNat t u) g.formulas 0).isNone
theorem l09Ok_eq {N : Nat} {t u : Template} {g : Gadgets} (ht : smallT t) (hu : smallT u) (hN : 1100 ≤ N) : spec_l09Ok N t u g = some (gadV t u g) := by
  unfold spec_l09Ok gadV
  rw [(form_two ht hu).1, bnd_s]
  by_cases h : gadF t u g = true
  · rw [(Wrong_two (gadF_GV ht hu h) hN).1, h, bnd_s, wrong_neg]
    rfl
  · have h' : gadF t u g = false := by simpa using h
    rw [h']
    rfl
theorem ValidGadgets_two {N : Nat} {t u : Template} {g : Gadgets} (ht : smallT t) (hu : smallT u) (hN : 1100 ≤ N) : spec_ValidGadgets N t u g = some (gadV t u g) ∧ impl_ValidGadgets N t u g = some (gadV t u g) := by
  constructor
  · unfold spec_ValidGadgets
    have : spec_l09Ok N (Template.mk t.size t.rels) (Template.mk u.size u.rels) (Gadgets.mk g.formulas) = some (gadV t u g) := l09Ok_eq ht hu hN
    rw [this]
    rfl
  · unfold impl_ValidGadgets gadV
    have h0 : impl_areFormulas (Template.mk t.size t.rels) (Template.mk u.size u.rels) (Gadgets.mk g.formulas) = some (gadF t u g) := (form_two ht hu).2
    rw [h0, bnd_s]
    by_cases h : gadF t u g = true
    · have h1 : impl_firstWrong N (Template.mk t.size t.rels) (Template.mk u.size u.rels) (Gadgets.mk g.formulas) = _ := (Wrong_two (gadF_GV ht hu h) hN).2
      rw [h1, h, bnd_s, wrong_neg']
      rfl
    · have h' : gadF t u g = false := by simpa using h
      rw [h']
      rfl
end Go.Proofs.YtmgdjaiaekhkgaaGreat
