/-
  Plain laws: instances that are well made, full domains, searches, refutations, no-goods.
-/
import Derived.Test.YtfepllddlmhjiaaGreatM12
import Derived.Test.YtfepllddlmhjiaaGreatMT
namespace Go.Proofs.YtfepllddlmhjiaaGreat
set_option linter.unusedVariables false
set_option linter.unusedSimpArgs false

theorem isValue_ck {s : Int} (h : ck (s - 1) = some (s - 1)) (a : Int) : impl_isValue s a = some (okV s a) := by
  unfold impl_isValue
  rw [h, bnd_s, within_eq]
  rfl
theorem areValues_ck {s : Int} (h : ck (s - 1) = some (s - 1)) (ar : Int) (t : List Int) : impl_areValues s t ar = some (areB s t ar) := by
  unfold impl_areValues
  rw [containsI_eq t (fun x => !okV s x) _ (fun x => by unfold impl_areValues_1; rw [isValue_ck h]; rfl)]
  unfold areB
  by_cases hl : ((t.length : Int) == ar) = true
  · rw [hl]
    simp
    rw [Bool.eq_iff_iff]
    simp
  · have : ((t.length : Int) == ar) = false := by simpa using hl
    rw [this]
    simp
theorem places_ck {s : Int} (h : ck (s - 1) = some (s - 1)) (t : List Int) : spec_l01Places t s = some (t.all (okV s)) := by
  unfold spec_l01Places
  rw [forL_fnd (fun _ x => if (!okV s x) then some false else none) (fun j x hj => by
    rw [h, bnd_s, l00In_eq, bnd_s]
    unfold okV
    cases (decide (0 ≤ x) && decide (x ≤ s - 1)) <;> rfl), fnd_any]
  have : (t.any fun x => !okV s x) = !(t.all (okV s)) := by rw [List.all_eq_not_any_not, Bool.not_not]
  rw [this]
  cases t.all (okV s) <;> rfl
theorem containsC_eq (l : List Con) (p : Con → Bool) (f : Con → Option Bool) (hf : ∀ x ∈ l, f x = some (p x)) : slices_ContainsFunc_s_Con_Con l f = some (l.any p) := by
  obtain ⟨i, h1, h2⟩ := forL_idx l p f hf
  have h3 : slices_IndexFunc_s_Con_Con l f = some i := h1
  unfold slices_ContainsFunc_s_Con_Con
  rw [h3, bnd_s, h2]
/-- Is a constraint right? -/
def conB (x : Template) (n : Int) (c : Con) : Bool :=
  if (decide (0 ≤ c.rel) && decide (c.rel ≤ (x.rels.length : Int) - 1)) then (match ix x.rels c.rel with | some r => areB n c.scope r.arity | none => false) else false
theorem con_impl {x : Template} {y : Instance} (hl : x.rels.length ≤ 6) (hn : ck (y.vars - 1) = some (y.vars - 1)) (c : Con) : impl_ValidInstance_1 c x y = some (!conB x y.vars c) := by
  unfold impl_ValidInstance_1 conB
  rw [show ck ((x.rels.length : Int) - 1) = some ((x.rels.length : Int) - 1) from ck_eq (by omega) (by omega), bnd_s, within_eq, bnd_s]
  cases hb : (decide (0 ≤ c.rel) && decide (c.rel ≤ (x.rels.length : Int) - 1)) with
  | false => rfl
  | true =>
    simp only [Bool.and_eq_true, decide_eq_true_eq] at hb
    have hi : c.rel.toNat < x.rels.length := by omega
    have hx : ix x.rels c.rel = some x.rels[c.rel.toNat] := ix_of hb.1 (List.getElem?_eq_getElem hi)
    rw [hx]
    simp only [Bool.not_true, Bool.false_eq_true, if_false, bnd_s, areValues_ck hn, thn_nx, if_true]
def validB (x : Template) (y : Instance) : Bool := tempB x && ((decide (1 ≤ y.vars) && decide (y.vars ≤ 10)) && (decide ((y.cons.length : Int) ≤ 24) && y.cons.all (conB x y.vars)))
theorem ValidInstance_val (x : Template) (y : Instance) (hx : smallT x) : impl_ValidInstance x y = some (validB x y) ∧ spec_l05Ok x y = some (validB x y) := by
  unfold validB
  refine ⟨?_, ?_⟩
  · unfold impl_ValidInstance
    rw [show (Template.mk x.size x.rels) = x from rfl, show (Instance.mk y.vars y.cons) = y from rfl, ValidTemplate_eq x hx, bnd_s]
    cases ht : tempB x with
    | false => rfl
    | true =>
      obtain ⟨_, hl, _⟩ := tempB_spec hx ht
      rw [if_pos rfl]
      unfold impl_isVars
      rw [within_eq, bnd_s, bnd_s]
      cases hv : (decide (1 ≤ y.vars) && decide (y.vars ≤ 10)) with
      | false => rfl
      | true =>
        rw [if_pos rfl]
        simp only [Bool.and_eq_true, decide_eq_true_eq] at hv
        have hn : ck (y.vars - 1) = some (y.vars - 1) := ck_eq (by omega) (by omega)
        cases hc : decide ((y.cons.length : Int) ≤ 24) with
        | false => rfl
        | true =>
          rw [if_pos rfl, containsC_eq y.cons (fun c => !conB x y.vars c) _ (fun c _ => con_impl hl hn c), bnd_s, thn_nx, ← List.all_eq_not_any_not]
          rfl
  · unfold spec_l05Ok
    rw [l01Template_eq x hx, bnd_s]
    cases ht : tempB x with
    | false => rfl
    | true =>
      obtain ⟨_, hl, _⟩ := tempB_spec hx ht
      rw [if_neg (by simp), l00In_eq, bnd_s]
      cases hv : (decide (1 ≤ y.vars) && decide (y.vars ≤ 10)) with
      | false => rfl
      | true =>
        rw [if_neg (by simp)]
        simp only [Bool.and_eq_true, decide_eq_true_eq] at hv
        have hn : ck (y.vars - 1) = some (y.vars - 1) := ck_eq (by omega) (by omega)
        cases hc : decide ((y.cons.length : Int) ≤ 24) with
        | false =>
          have : decide (24 < (y.cons.length : Int)) = true := by simp at hc ⊢; omega
          rw [this]; rfl
        | true =>
          have : decide (24 < (y.cons.length : Int)) = false := by simp at hc ⊢; omega
          rw [this, thn_nx, if_neg (by simp)]
          rw [forL_fnd (fun _ c => if (!conB x y.vars c) then some false else none) (fun j c hj => by
            rw [show ck ((x.rels.length : Int) - 1) = some ((x.rels.length : Int) - 1) from ck_eq (by omega) (by omega), bnd_s, l00In_eq, bnd_s]
            unfold conB
            cases hb : (decide (0 ≤ c.rel) && decide (c.rel ≤ (x.rels.length : Int) - 1)) with
            | false => rfl
            | true =>
              simp only [Bool.and_eq_true, decide_eq_true_eq] at hb
              have hi : c.rel.toNat < x.rels.length := by omega
              have hx : ix x.rels c.rel = some x.rels[c.rel.toNat] := ix_of hb.1 (List.getElem?_eq_getElem hi)
              rw [hx]
              simp only [Bool.not_true, Bool.false_eq_true, if_false, bnd_s, places_ck hn, if_true]
              unfold areB
              by_cases he : (c.scope.length : Int) = x.rels[c.rel.toNat].arity
              · have e1 : ((c.scope.length : Int) != x.rels[c.rel.toNat].arity) = false := by simp [he]
                have e2 : ((c.scope.length : Int) == x.rels[c.rel.toNat].arity) = true := by simp [he]
                rw [e1, e2]
                cases c.scope.all (okV y.vars) <;> rfl
              · have e1 : ((c.scope.length : Int) != x.rels[c.rel.toNat].arity) = true := by simp [he]
                have e2 : ((c.scope.length : Int) == x.rels[c.rel.toNat].arity) = false := by simp [he]
                rw [e1, e2]
                rfl), fnd_any]
          have : (y.cons.any fun x_1 => !conB x y.vars x_1) = !(y.cons.all (conB x y.vars)) := by rw [List.all_eq_not_any_not, Bool.not_not]
          rw [this]
          cases y.cons.all (conB x y.vars) <;> rfl
theorem validB_spec {x : Template} {y : Instance} (h : validB x y = true) : tempB x = true ∧ 1 ≤ y.vars ∧ y.vars ≤ 10 ∧ y.cons.length ≤ 24 ∧ ∀ c ∈ y.cons, conB x y.vars c = true := by
  unfold validB at h
  simp only [Bool.and_eq_true, decide_eq_true_eq, List.all_eq_true] at h
  exact ⟨h.1, h.2.1.1, h.2.1.2, by have := h.2.2.1; omega, h.2.2.2⟩
/-- An instance with some of the constraints of a right one. -/
theorem validB_some {x : Template} {y : Instance} (h : validB x y = true) {cs : List Con} (hc : ∀ c ∈ cs, c ∈ y.cons) (hl : cs.length ≤ 24) : validB x (Instance.mk y.vars cs) = true := by
  obtain ⟨h1, h2, h3, h4, h5⟩ := validB_spec h
  unfold validB
  simp only [Bool.and_eq_true, decide_eq_true_eq, List.all_eq_true]
  exact ⟨h1, ⟨h2, h3⟩, by omega, fun c hm => h5 c (hc c hm)⟩
theorem conOk_of {x : Template} {n : Int} (hx : smallT x) (ht : tempB x = true) (hn0 : 0 ≤ n) {c : Con} (h : conB x n c = true) : ConOk x c n.toNat := by
  obtain ⟨_, hl, hr⟩ := tempB_spec hx ht
  unfold conB at h
  split at h
  · rename_i hb
    simp only [Bool.and_eq_true, decide_eq_true_eq] at hb
    have hi : c.rel.toNat < x.rels.length := by omega
    have hx : ix x.rels c.rel = some x.rels[c.rel.toNat] := ix_of hb.1 (List.getElem?_eq_getElem hi)
    rw [hx] at h
    obtain ⟨r1, r2⟩ := hr _ (List.getElem_mem hi)
    have ha := okS_eq r1
    unfold areB at h
    simp only [Bool.and_eq_true, List.all_eq_true, beq_iff_eq] at h
    refine ⟨⟨_, hx, fun t ht => ?_⟩, fun v hv => ?_, by omega⟩
    · have h2 := r2 t ht
      unfold areB at h2
      simp only [Bool.and_eq_true, beq_iff_eq] at h2
      omega
    · have := h.2 v hv
      unfold okV at this
      simp only [Bool.and_eq_true, decide_eq_true_eq] at this
      omega
  · cases h
theorem budget_two (x : Template) (y : Instance) (b : Int) (hx : smallT x) : ∃ c, impl_budgetFault x y b = some c ∧ spec_l08Budget x y b = some c ∧ (c = 0 → tempB x = true ∧ 1 ≤ y.vars ∧ y.vars ≤ 10 ∧ y.cons.length ≤ 24 ∧ (∀ c ∈ y.cons, ConOk x c y.vars.toNat) ∧ 0 ≤ b ∧ b ≤ 5000) := by
  obtain ⟨h1, h2⟩ := ValidInstance_val x y hx
  have h3 := validB_spec (x := x) (y := y)
  generalize validB x y = v at h1 h2 h3
  unfold impl_budgetFault spec_l08Budget
  rw [show (Template.mk x.size x.rels) = x from rfl, show (Instance.mk y.vars y.cons) = y from rfl, h1, h2, bnd_s, bnd_s]
  cases v with
  | false => exact ⟨1, rfl, rfl, fun h => by omega⟩
  | true =>
    rw [if_neg (by simp), if_neg (by simp), within_eq, l00In_eq, bnd_s]
    obtain ⟨a1, a2, a3, a4, a5⟩ := h3 rfl
    cases hb : (decide (0 ≤ b) && decide (b ≤ 5000)) with
    | false => exact ⟨2, rfl, rfl, fun h => by omega⟩
    | true =>
      simp only [Bool.and_eq_true, decide_eq_true_eq] at hb
      exact ⟨0, rfl, rfl, fun _ => ⟨a1, a2, a3, a4, fun c hc => conOk_of hx a1 (by omega) (a5 c hc), hb.1, hb.2⟩⟩
theorem budget_ok {x : Template} {y : Instance} {b : Int} (hx : smallT x) (h : validB x y = true) (h0 : 0 ≤ b) (h1 : b ≤ 5000) : impl_budgetFault x y b = some 0 ∧ spec_l08Budget x y b = some 0 := by
  obtain ⟨e1, e2⟩ := ValidInstance_val x y hx
  rw [h] at e1 e2
  have hb : (decide (0 ≤ b) && decide (b ≤ 5000)) = true := by simp [h0, h1]
  constructor
  · unfold impl_budgetFault
    rw [show (Template.mk x.size x.rels) = x from rfl, show (Instance.mk y.vars y.cons) = y from rfl, e1, bnd_s, if_neg (by simp), within_eq, bnd_s, hb]
    rfl
  · unfold spec_l08Budget
    rw [e2, bnd_s, if_neg (by simp), l00In_eq, bnd_s, hb]
    rfl
theorem budget_valid {x : Template} {y : Instance} {b : Int} (hx : smallT x) (h : impl_budgetFault x y b = some 0) : validB x y = true ∧ 0 ≤ b ∧ b ≤ 5000 := by
  obtain ⟨e1, e2⟩ := ValidInstance_val x y hx
  unfold impl_budgetFault at h
  rw [show (Template.mk x.size x.rels) = x from rfl, show (Instance.mk y.vars y.cons) = y from rfl, e1, bnd_s] at h
  cases hv : validB x y with
  | false => rw [hv] at h; simp at h
  | true =>
    rw [hv, if_neg (by simp), within_eq, bnd_s] at h
    cases hb : (decide (0 ≤ b) && decide (b ≤ 5000)) with
    | false => rw [hb] at h; simp at h
    | true =>
      simp only [Bool.and_eq_true, decide_eq_true_eq] at hb
      exact ⟨rfl, hb.1, hb.2⟩
theorem countsN : ∀ n : Nat, n < 5 → ∃ l, spec_l03Count (n : Int) = some l ∧ impl_upTo 0 (n : Int) = some l ∧ l.Nodup ∧ l.length ≤ 4 := by
  intro n hn
  obtain ⟨h1, l, h2, h3⟩ := counts0 n hn
  refine ⟨l, h2, by rw [h1]; exact h2, ?_, h3⟩
  match n, hn with
  | 0, _ => cases h2; decide
  | 1, _ => cases h2; decide
  | 2, _ => cases h2; decide
  | 3, _ => cases h2; decide
  | 4, _ => cases h2; decide
theorem rep_loop {ρ : Type} (l : List Int) (g : Option (List Int)) (hg : g = some l) : ∀ (m k : Nat) (s : List (List Int)), s.length + m ≤ 1048576 → forI (σ := List (List Int)) (ρ := ρ) (fun (k : Nat) (s : List (List Int)) => bnd g fun z => bnd (ap s [z]) fun z2 => some (.go z2)) m k s = some (.nx (s ++ List.replicate m l))
  | 0, _, s, _ => by simp [forI]
  | m + 1, k, s, h => by
    rw [forI_go (s' := s ++ [l]) (by rw [hg, bnd_s, ap_eq (by simp only [List.length_cons, List.length_nil]; omega), bnd_s]), rep_loop l g hg m (k + 1) _ (by simp only [List.length_append, List.length_singleton]; omega)]
    simp [List.replicate_succ]
theorem tot_rep (m : Nat) (l : List Int) : tot (List.replicate m l) = m * l.length := by
  unfold tot
  induction m with
  | zero => simp
  | succ m ih => rw [List.replicate_succ, List.map_cons, List.sum_cons, ih, Nat.succ_mul, Nat.add_comm]
theorem full_two {x : Template} {y : Instance} (hs : okS x.size = true) (h0 : 1 ≤ y.vars) (h1 : y.vars ≤ 10) : ∃ D, impl_fullDomains x y = some D ∧ spec_l05Full x y = some D ∧ DomOk y.vars.toNat 40 D := by
  have := okS_eq hs
  obtain ⟨n, hn⟩ : ∃ n : Nat, x.size = n := ⟨x.size.toNat, by omega⟩
  obtain ⟨l, h2, h3, h4, h5⟩ := countsN n (by omega)
  refine ⟨List.replicate y.vars.toNat l, ?_, ?_, ⟨by simp, fun d hd => by rw [List.eq_of_mem_replicate hd]; exact h4, ?_⟩⟩
  · unfold impl_fullDomains
    rw [rep_loop l _ (by rw [hn]; exact h3) _ 0 [] (by simp; omega), thn_nx]
    rfl
  · unfold spec_l05Full
    rw [rep_loop l _ (by rw [hn]; exact h2) _ 0 [] (by simp; omega), thn_nx]
    rfl
  · rw [tot_rep]
    have : y.vars.toNat * l.length ≤ 10 * 4 := Nat.mul_le_mul (by omega) h5
    omega
/-- A search from domains, in both. -/
theorem run_bal {N n : Nat} {x : Template} {y : Instance} {b : Int} {dom : List (List Int)} (hN : 5100 ≤ N) (hn : n ≤ 10) (hy : ∀ c ∈ y.cons, ConOk x c n) (hok : DomOk n 40 dom) (hb0 : 0 ≤ b) (hb1 : b ≤ 5000) :
    ∃ st ln vl cd d d' ov, impl_searched N x y dom b = some ((x.size, y.vars, b, st, ln, vl, cd), d) ∧ spec_l08Run N x y dom b = some ((b, st, ln, vl, ov), cd, d') ∧ (cd = 0 ∨ (cd = 6 ∧ vl = []) ∨ cd = 7) ∧ vl.length ≤ 10 ∧ 0 ≤ st ∧ st ≤ b ∧ ln.length ≤ 210000 ∧ (cd = 6 → ∃ seg i, Bal seg ∧ ln = seg ++ [Line.mk 3 i 0 0]) := by
  obtain ⟨⟨rb, st, ln, vl, cd, d⟩, ⟨rb', st', ln', vl', ov, d'⟩, h1, h2, E1, E2, E3, E4, E5, E6, E7, E8, E9, E10, E11⟩ := level_two hn hy hb1 b.toNat N 0 [] dom (by omega) (by omega) (by omega) hb0 (by simp) hok
  simp only at E1 E2 E3 E4 E5 E6 E7 E8 E9 E10 E11
  subst E1 E2 E3 E4
  unfold impl_searched spec_l08Run
  rw [h1, h2, bnd_s, bnd_s]
  simp only
  cases rb with
  | true =>
    have hc : cd = 0 ∧ ov = false := by
      rcases E5 with h | ⟨_, _, h⟩
      · exact h
      · cases h
    obtain ⟨rfl, rfl⟩ := hc
    exact ⟨st', ln', vl', 6, d, d', false, rfl, rfl, .inr (.inl ⟨rfl, E6 rfl⟩), by omega, E7, E8, by omega, fun _ => by obtain ⟨sg, i, h1, h2⟩ := E11 rfl; exact ⟨sg, i, h1, by simpa using h2⟩⟩
  | false =>
    rcases E5 with ⟨rfl, rfl⟩ | ⟨rfl, rfl, _⟩
    · exact ⟨st', ln', vl', 0, d, d', false, rfl, rfl, .inl rfl, by omega, E7, E8, by omega, fun h => by omega⟩
    · exact ⟨st', ln', vl', 7, d, d', true, rfl, rfl, .inr (.inr rfl), by omega, E7, E8, by omega, fun h => by omega⟩
theorem run_two {N n : Nat} {x : Template} {y : Instance} {b : Int} {dom : List (List Int)} (hN : 5100 ≤ N) (hn : n ≤ 10) (hy : ∀ c ∈ y.cons, ConOk x c n) (hok : DomOk n 40 dom) (hb0 : 0 ≤ b) (hb1 : b ≤ 5000) :
    ∃ st ln vl cd d d' ov, impl_searched N x y dom b = some ((x.size, y.vars, b, st, ln, vl, cd), d) ∧ spec_l08Run N x y dom b = some ((b, st, ln, vl, ov), cd, d') ∧ (cd = 0 ∨ (cd = 6 ∧ vl = []) ∨ cd = 7) ∧ vl.length ≤ 10 ∧ 0 ≤ st ∧ st ≤ b ∧ ln.length ≤ 210000 := by
  obtain ⟨st, ln, vl, cd, d, d', ov, e1, e2, e3, e4, e5, e6, e7, _⟩ := run_bal hN hn hy hok hb0 hb1
  exact ⟨st, ln, vl, cd, d, d', ov, e1, e2, e3, e4, e5, e6, e7⟩
end Go.Proofs.YtfepllddlmhjiaaGreat
