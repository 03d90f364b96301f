/-
  Plain laws: the value of a formula, gadgets that are well made, on both sides.
-/
import Derived.Test.YtmgdjaiaekhkgaaGreatM52
namespace Go.Proofs.YtmgdjaiaekhkgaaGreat
set_option linter.unusedVariables false
set_option linter.unusedSimpArgs false
theorem whl_mono {σ ρ : Type} {b : σ → Option (Ctl σ ρ)} {r : Out σ ρ} : ∀ {m M : Nat} {s : σ}, whl b m s = some r → m ≤ M → whl b M s = some r
  | 0, _, _, h, _ => by cases h
  | m + 1, M, s, h, hM => by
    obtain ⟨K, rfl⟩ : ∃ K, M = K + 1 := ⟨M - 1, by omega⟩
    unfold whl at h ⊢
    cases hb : b s with
    | none => rw [hb] at h; cases h
    | some c =>
      rw [hb] at h
      cases c with
      | go s' => exact whl_mono h (by omega)
      | brk s' => exact h
      | ret v => exact h
theorem thn_of {σ ρ : Type} {o : Out σ ρ} {k : σ → Option ρ} {r : ρ} (h : Then k r o) : thn (some o) k = some r := by
  cases o with
  | nx s => exact h
  | ret v => exact congrArg some h
theorem listOf_mono {m M : Nat} {a b c : Int} {d : List Int} (h : impl_listOf m a b c = some d) (hM : m ≤ M) : impl_listOf M a b c = some d := by
  unfold impl_listOf at h ⊢
  obtain ⟨z, h1, h⟩ := bnd_some h
  obtain ⟨y, h2, h⟩ := bnd_some h
  obtain ⟨o, ho, hk⟩ := thn_some h
  rw [h1, bnd_s, h2, bnd_s, whl_mono ho hM]
  exact thn_of hk
theorem power_mono {m M : Nat} {a b c : Int} (h : spec_l01Power m a b = some c) (hM : m ≤ M) : spec_l01Power M a b = some c := by
  unfold spec_l01Power at h ⊢
  obtain ⟨o, ho, hk⟩ := thn_some h
  rw [whl_mono ho hM]
  exact thn_of hk
theorem digits_eq : spec_l01Digits = impl_listOf := rfl
theorem dig_at {T n k N : Nat} (hT : 1 ≤ T ∧ T ≤ 4) (hn : 1 ≤ n ∧ n ≤ 4) (hN : 10 ≤ N) (hk : k < (enumL T n).length) : impl_listOf N (T : Int) (n : Int) (k : Int) = some (enumL T n)[k] := by
  have h := (enum_dig T (by simp; omega) n (by simp; omega)).2.2.2
  have h1 : ((List.range (enumL T n).length).map (fun (k : Nat) => impl_listOf 10 (T : Nat) (n : Nat) (k : Int)))[k]? = some (some (enumL T n)[k]) := by
    rw [h, List.getElem?_map, List.getElem?_eq_getElem hk]
    rfl
  rw [List.getElem?_map, List.getElem?_range hk] at h1
  exact listOf_mono (Option.some.inj h1) hN
theorem pow_at {T n N : Nat} (hT : 1 ≤ T ∧ T ≤ 4) (hn : 1 ≤ n ∧ n ≤ 4) (hN : 10 ≤ N) : impl_power (T : Int) (n : Int) = some ((enumL T n).length : Int) ∧ spec_l01Power N (T : Int) (n : Int) = some ((enumL T n).length : Int) := by
  have h := enum_dig T (by simp; omega) n (by simp; omega)
  exact ⟨h.1, power_mono h.2.1 hN⟩
/-! ### Relations that a question picks -/
theorem pick_loop {ρ : Type} {N : Nat} {T n : Int} {E : List (List Int)} {is : List Int → Option Bool} (W : List Int → Bool) (hd : ∀ (k : Nat) (h : k < E.length), impl_listOf N T n (k : Int) = some E[k]) (hi : ∀ d ∈ E, is d = some (W d)) : ∀ (m k : Nat) (s : List (List Int)), k + m = E.length → s.length + m ≤ 1000 →
    forI (σ := (List (List Int))) (ρ := ρ) (fun (k59 : Nat) (s53 : (List (List Int))) =>
   bnd (impl_listOf N T n (k59 : Int)) fun z65 =>
   bnd (is z65) fun z70 =>
   if z70 then
    bnd (ap s53 ([z65])) fun z75 =>
    some (.go z75)
   else
    some (.go s53)) m k s = some (.nx (s ++ (E.drop k).filter W))
  | 0, k, s, hk, _ => by
    rw [List.drop_eq_nil_of_le (by omega)]
    simp [forI]
  | m + 1, k, s, hk, hs => by
    have hlt : k < E.length := by omega
    have hw := hi _ (List.getElem_mem hlt)
    rw [List.drop_eq_getElem_cons hlt, List.filter_cons]
    by_cases h : W E[k] = true
    · rw [forI_go (s' := s ++ [E[k]]) (by
        rw [hd k hlt, bnd_s, hw, bnd_s, h, if_pos rfl, ap_eq (by simp only [List.length_cons, List.length_nil]; omega), bnd_s]), pick_loop W hd hi m (k + 1) _ (by omega) (by rw [List.length_append, List.length_singleton]; omega), if_pos h]
      simp
    · rw [forI_go (s' := s) (by
        rw [hd k hlt, bnd_s, hw, bnd_s, if_neg h]), pick_loop W hd hi m (k + 1) _ (by omega) (by omega), if_neg h]
theorem relOf_eq {N T n : Nat} (hT : 1 ≤ T ∧ T ≤ 4) (hn : 1 ≤ n ∧ n ≤ 4) (hN : 10 ≤ N) {is : List Int → Option Bool} (W : List Int → Bool) (hi : ∀ d ∈ enumL T n, is d = some (W d)) : impl_relOf N (T : Int) (n : Int) is = some ⟨n, (enumL T n).filter W⟩ := by
  unfold impl_relOf
  have hl := enum_len hT hn
  rw [(pow_at hT hn hN).1, bnd_s, Int.toNat_natCast, pick_loop W (fun k h => dig_at hT hn hN h) hi _ 0 [] (by omega) (by simp only [List.length_nil]; omega), thn_nx, List.nil_append, List.drop_zero]
/-! ### The value of a formula -/
def valS (u : Template) (f : Formula) (T n : Nat) : Rel := ⟨n, (enumL T n).filter fun d => (witS u f d).isSome⟩
theorem val_loop {ρ : Type} {N T n : Nat} {u : Template} {f : Formula} (hu : TV T u) (hf : FV u f) (hfn : f.free = n) (hN : 20 ≤ N) : ∀ (m k M : Nat) (s : List (List Int)), k + m = (enumL T n).length → m + 1 ≤ M → s.length + m ≤ 1000 →
    whl (σ := Int × (List (List Int))) (ρ := ρ) (fun (s : Int × (List (List Int))) =>
    match s with
    | (s134, s136) =>
    bnd (spec_l01Power N u.size f.free) fun z156 =>
    if (decide (s134 < z156)) then
     bnd (spec_l01Digits N u.size f.free s134) fun z165 =>
     bnd (spec_l03Witness N u f z165) fun z186 =>
     if z186.2 then
      bnd (ap s136 ([z165])) fun z194 =>
      bnd (ck (s134 + 1)) fun z198 =>
      some (.go (z198, z194))
     else
      bnd (ck (s134 + 1)) fun z200 =>
      some (.go (z200, s136))
    else
     some (.brk (s134, s136))) M ((k : Int), s) = some (.nx (((enumL T n).length : Int), s ++ ((enumL T n).drop k).filter fun d => (witS u f d).isSome))
  | 0, k, M, s, hk, hM, _ => by
    obtain ⟨M, rfl⟩ : ∃ M', M = M' + 1 := ⟨M - 1, by omega⟩
    have hn : 1 ≤ n ∧ n ≤ 4 := by have := hf.f0; omega
    rw [whl_brk (s' := ((k : Int), s)) (by
      simp only [hu.s, hfn, (pow_at hu.t hn (show 10 ≤ N by omega)).2, bnd_s]
      rw [if_neg (by simp; omega)]), List.drop_eq_nil_of_le (by omega), show k = (enumL T n).length by omega]
    simp
  | m + 1, k, M, s, hk, hM, hs => by
    obtain ⟨M, rfl⟩ : ∃ M', M = M' + 1 := ⟨M - 1, by omega⟩
    have hn : 1 ≤ n ∧ n ≤ 4 := by have := hf.f0; omega
    have hL := enum_len hu.t hn
    have hlt : k < (enumL T n).length := by omega
    have hmem := enum_mem.1 (List.getElem_mem hlt)
    have hw := Witness_eq (N := N) hu hf (tp := (enumL T n)[k]) (by rw [hmem.1, hfn]) hN
    have e : (k : Int) + 1 = ((k + 1 : Nat) : Int) := by omega
    rw [List.drop_eq_getElem_cons hlt, List.filter_cons]
    by_cases h : (witS u f (enumL T n)[k]).isSome = true
    · rw [whl_go (s' := (((k + 1 : Nat) : Int), s ++ [(enumL T n)[k]])) (by
        simp only [hu.s, hfn, (pow_at hu.t hn (show 10 ≤ N by omega)).2, bnd_s]
        rw [if_pos (by simp; omega), digits_eq, dig_at hu.t hn (by omega) hlt, bnd_s, hw, bnd_s, h, if_pos rfl, ap_eq (by simp only [List.length_cons, List.length_nil]; omega), bnd_s, ck_eq (by omega) (by omega), bnd_s, e]), val_loop hu hf hfn hN m (k + 1) M _ (by omega) (by omega) (by rw [List.length_append, List.length_singleton]; omega), if_pos h]
      simp
    · rw [whl_go (s' := (((k + 1 : Nat) : Int), s)) (by
        simp only [hu.s, hfn, (pow_at hu.t hn (show 10 ≤ N by omega)).2, bnd_s]
        rw [if_pos (by simp; omega), digits_eq, dig_at hu.t hn (by omega) hlt, bnd_s, hw, bnd_s, if_neg h, ck_eq (by omega) (by omega), bnd_s, e]), val_loop hu hf hfn hN m (k + 1) M _ (by omega) (by omega) (by omega), if_neg h]
theorem value_two {N T n : Nat} {u : Template} {f : Formula} (hu : TV T u) (hf : FV u f) (hfn : f.free = n) (hN : 1100 ≤ N) : spec_l03Value N u f = some (valS u f T n) ∧ impl_valueOf N u f = some (valS u f T n) := by
  have hn : 1 ≤ n ∧ n ≤ 4 := by have := hf.f0; omega
  have hL := enum_len hu.t hn
  constructor
  · unfold spec_l03Value
    have := val_loop (ρ := Rel) hu hf hfn (show 20 ≤ N by omega) (enumL T n).length 0 N [] (by omega) (by omega) (by simp only [List.length_nil]; omega)
    rw [show ((0 : Nat) : Int) = 0 from rfl] at this
    rw [this, thn_nx, hfn]
    rfl
  · unfold impl_valueOf
    have h1 : impl_solverOf (Template.mk u.size u.rels) f.vars f.atoms = some (solS u f) := solverOf_eq hu hf
    rw [h1, bnd_s, hu.s, hfn, relOf_eq hu.t hn (by omega) (fun d => (witS u f d).isSome) (fun d hd => by
      unfold impl_valueOf_1
      rw [first_eq hu hf (by rw [(enum_mem.1 hd).1, hfn]) hN, bnd_s]), bnd_s]
    rfl
/-! ### Where a relation is not the value -/
def apart (V R : List (List Int)) (d : List Int) : Bool := decide (d ∈ V) != decide (d ∈ R)
theorem apart_nil {T n : Nat} {V R : List (List Int)} (hV : Asc V) (hVm : ∀ t ∈ V, t ∈ enumL T n) (hR : Asc R) (hRm : ∀ t ∈ R, t ∈ enumL T n) : (enumL T n).filter (apart V R) = [] ↔ V = R := by
  constructor
  · intro h
    refine hV.ext hR (fun x => ?_)
    have key : x ∈ enumL T n → (x ∈ V ↔ x ∈ R) := fun hx => by
      have := List.filter_eq_nil_iff.1 h x hx
      unfold apart at this
      by_cases h1 : x ∈ V <;> by_cases h2 : x ∈ R <;> simp_all
    exact ⟨fun hx => (key (hVm x hx)).1 hx, fun hx => (key (hRm x hx)).2 hx⟩
  · rintro rfl
    rw [List.filter_eq_nil_iff]
    intro x _
    simp [apart]
theorem lists_same {b : Nat → List Int → Unit → Option (Ctl Unit Bool)} {v : List (List Int)} {d : List (List Int)} (hl : d.length = v.length) (hb : ∀ j x y, d[j]? = some x → v[j]? = some y → b j x () = some (if decide (x = y) then .go () else .ret false)) : thn (forL b d 0 ()) (fun _ => some true) = some (decide (d = v)) := by
  rw [forL_fnd (ρ := Bool) (fun k x => if (v[k]? != some x) = true then some false else none) (fun j x hj => by
    have hjl := (List.getElem?_eq_some_iff.1 hj).1
    have hv : v[j]? = some (v[j]'(by omega)) := List.getElem?_eq_getElem _
    rw [Nat.zero_add, hb j x _ hj hv, hv]
    by_cases hx : x = v[j]'(by omega)
    · rw [← hx]; simp [ctlO]
    · have h2 : (some (v[j]'(by omega)) != some x) = true := by simpa using fun e => hx e.symm
      rw [h2, decide_eq_false hx]
      rfl)]
  have key : ∀ (d : List (List Int)) (k : Nat), k + d.length = v.length → fnd (fun k x => if (v[k]? != some x) = true then some false else none) d k = if d = v.drop k then none else some false := by
    intro d
    induction d with
    | nil =>
      intro k hk
      have : v.drop k = [] := List.drop_eq_nil_of_le (by simp at hk; omega)
      rw [this]
      rfl
    | cons x d ih =>
      intro k hk
      have hkl : k < v.length := by simp at hk; omega
      have hd : v.drop k = v[k] :: v.drop (k + 1) := List.drop_eq_getElem_cons hkl
      unfold fnd
      rw [hd, List.getElem?_eq_getElem hkl]
      by_cases hx : x = v[k]
      · have e1 : (some v[k] != some x) = false := by rw [hx]; simp
        rw [e1, if_neg (by simp), ih (k + 1) (by simp at hk; omega), hx]
        simp only [List.cons.injEq, true_and]
      · have h2 : (some v[k] != some x) = true := by simpa using fun e => hx e.symm
        rw [h2, if_pos rfl, if_neg (fun e => hx (List.cons.inj e).1)]
  rw [key d 0 (by omega), List.drop_zero]
  by_cases hd : d = v
  · rw [if_pos hd]; simp [outO, hd]
  · rw [if_neg hd]; simp [outO, hd]
theorem l01Same_eq {v r : Rel} (ha : v.arity = r.arity) : spec_l01Same v r = some (decide (v.tuples = r.tuples)) := by
  unfold spec_l01Same
  rw [ha, if_neg (by simp)]
  by_cases hl : v.tuples.length = r.tuples.length
  · rw [hl]
    simp only [bne_self_eq_false, thn_nx, Bool.false_eq_true, if_false]
    exact lists_same hl (fun j x y hx hy => by
      simp only [ix_nat hy, bnd_s, l00Same_eq]
      by_cases h : x = y <;> simp [h])
  · have h1 : ((v.tuples.length : Int) != (r.tuples.length : Int)) = true := by simp; omega
    rw [h1, thn_nx, if_pos rfl, decide_eq_false (fun e => hl (by rw [e]))]
end Go.Proofs.YtmgdjaiaekhkgaaGreat
