/-
  Plain laws: ValidGadgets and FirstWrong, on both sides.
-/
import Derived.Test.YtmgdjaiaekhkgaaGreatM53
namespace Go.Proofs.YtmgdjaiaekhkgaaGreat
set_option linter.unusedVariables false
set_option linter.unusedSimpArgs false
theorem relB_V {s : Int} {x : Rel} (hN : x.tuples.length ≤ 1048576) (h : relB' s x = true) : okS s = true ∧ relV s.toNat x := by
  obtain ⟨b, _, h2, h3⟩ := relOkS s x hN
  have hb : b = true := by unfold relB' at h; rw [h2] at h; exact h
  obtain ⟨h4, h5, h6, h7⟩ := h3 hb
  have hs := okS_eq h4
  have ha := okS_eq h5
  refine ⟨h4, x.arity.toNat, by omega, by omega, by omega, asc_of h7, fun t ht => enum_mem.2 ?_⟩
  have h8 := h6 t ht
  unfold areB at h8
  rw [Bool.and_eq_true] at h8
  refine ⟨by have : (t.length : Int) = x.arity := by simpa using h8.1
             omega, fun a ha => ?_⟩
  have h9 := List.all_eq_true.1 h8.2 a ha
  unfold okV at h9
  simp at h9
  omega
theorem tempB_TV {u : Template} (hu : smallT u) (h : tempB u = true) : TV u.size.toNat u := by
  unfold tempB at h
  rw [Bool.and_eq_true, Bool.and_eq_true] at h
  obtain ⟨h1, h2, h3⟩ := h
  have hs := okS_eq h1
  exact ⟨by omega, by omega, fun r hr => (relB_V (hu r hr) (List.all_eq_true.1 h3 r hr)).2, by have := of_decide_eq_true h2; omega⟩
/-! ### Formulas -/
def arS (u : Template) (rel : Int) : Int := if rel = -1 then 2 else if 0 ≤ rel ∧ rel < u.rels.length then (u.rels.getD rel.toNat default).arity else 0
theorem arity_eq {u : Template} (h : u.rels.length ≤ 6) (rel : Int) : impl_Template_arityOf u rel = some (arS u rel) := by
  unfold impl_Template_arityOf arS
  by_cases h1 : rel = -1
  · subst h1; rfl
  · have h1' : (rel == -1) = false := by simpa using h1
    rw [h1', if_neg (by simp), if_neg h1, ck_eq (by omega) (by omega), bnd_s, within_eq, bnd_s]
    by_cases h2 : 0 ≤ rel ∧ rel < u.rels.length
    · have h3 : (decide (0 ≤ rel) && decide (rel ≤ (u.rels.length : Int) - 1)) = true := by simp; omega
      have h4 : u.rels[rel.toNat]? = some (u.rels.getD rel.toNat default) := by
        rw [List.getD_eq_getElem?_getD, List.getElem?_eq_getElem (by omega)]
        rfl
      rw [h3, if_neg (by simp), ix_of h2.1 h4, bnd_s, if_pos h2]
    · have h3 : (decide (0 ≤ rel) && decide (rel ≤ (u.rels.length : Int) - 1)) = false := by
        by_cases h5 : 0 ≤ rel
        · simp [h5]; omega
        · simp [h5]
      rw [h3, if_pos (by rfl), if_neg h2]
theorem l03Arity_eq {u : Template} (h : u.rels.length ≤ 6) (rel : Int) : spec_l03Arity u rel = some (arS u rel) := arity_eq h rel
def atomB (u : Template) (vars : Int) (a : Atom) : Bool := !(arS u a.rel == 0) && (((a.args.length : Int) == arS u a.rel) && a.args.all (okV vars))
def formB (u : Template) (f : Formula) : Bool := okS f.free && ((decide (f.free ≤ f.vars) && decide (f.vars ≤ 8)) && (decide ((f.atoms.length : Int) ≤ 16) && f.atoms.all (atomB u f.vars)))
theorem isValue_s {s : Int} (h : 1 ≤ s ∧ s ≤ 1000) (a : Int) : impl_isValue s a = some (okV s a) := by
  unfold impl_isValue
  rw [ck_eq (by omega) (by omega), bnd_s, within_eq]
  rfl
theorem areValues_s {s : Int} (h : 1 ≤ s ∧ s ≤ 1000) (ar : Int) (t : List Int) : impl_areValues s t ar = some (areB s t ar) := by
  unfold impl_areValues areB
  by_cases hl : ((t.length : Int) == ar) = true
  · rw [hl, if_pos rfl, containsI_eq t (fun x => !okV s x) _ (fun x => by unfold impl_areValues_1; rw [isValue_s h, bnd_s])]
    rw [bnd_s, thn_nx, Bool.true_and, ← List.not_all_eq_any_not, Bool.not_not]
  · have hl' : ((t.length : Int) == ar) = false := by simpa using hl
    rw [hl', if_neg (by simp), thn_nx, Bool.false_and]
theorem Places_s {s : Int} (h : 1 ≤ s ∧ s ≤ 1000) (t : List Int) : spec_l01Places t s = some (t.all (okV s)) := by
  unfold spec_l01Places
  exact forL_all (okV s) (fun j x hx => by
    simp only [ck_eq (x := s - 1) (by omega) (by omega), bnd_s, l00In_eq]
    unfold okV
    cases (decide (0 ≤ x) && decide (x ≤ s - 1)) <;> rfl)
theorem ValidFormula_eq {u : Template} (hu : smallT u) (ht : tempB u = true) (f : Formula) : impl_ValidFormula u f = some (formB u f) := by
  have hn := (tempB_TV hu ht).n
  unfold impl_ValidFormula formB
  have h0 : impl_ValidTemplate (Template.mk u.size u.rels) = some (tempB u) := ValidTemplate_eq u hu
  rw [h0, bnd_s, ht, if_pos rfl]
  have h1 : impl_isFrame (Formula.mk f.free f.vars f.atoms) = some (okS f.free && ((decide (f.free ≤ f.vars) && decide (f.vars ≤ 8)) && decide ((f.atoms.length : Int) ≤ 16))) := by
    unfold impl_isFrame
    simp only [isArity_eq, bnd_s, within_eq]
    cases okS f.free <;> simp only [Bool.false_eq_true, if_false, thn_nx, Bool.false_and, if_true, Bool.true_and]
    cases (decide (f.free ≤ f.vars) && decide (f.vars ≤ 8)) <;> rfl
  rw [h1, bnd_s]
  by_cases hs : okS f.free = true
  · by_cases hv : (decide (f.free ≤ f.vars) && decide (f.vars ≤ 8)) = true
    · by_cases ha : decide ((f.atoms.length : Int) ≤ 16) = true
      · rw [hs, hv, ha, if_pos (show (true && (true && true)) = true from rfl)]
        have h2 := okS_eq hs
        have h3 : f.free ≤ f.vars ∧ f.vars ≤ 8 := by simpa using hv
        rw [containsA_eq f.atoms (fun a => !atomB u f.vars a) _ (fun a _ => by
          unfold impl_ValidFormula_1
          have h4 : impl_Template_arityOf (Template.mk u.size u.rels) a.rel = some (arS u a.rel) := arity_eq hn a.rel
          rw [h4, bnd_s]
          unfold atomB
          by_cases h5 : (arS u a.rel == 0) = true
          · rw [h5, if_pos rfl, thn_nx]
            rfl
          · have h5' : (arS u a.rel == 0) = false := by simpa using h5
            rw [h5', if_neg (by simp)]
            unfold impl_isAtom
            simp only [areValues_s (s := f.vars) (by omega), bnd_s, thn_nx]
            unfold areB
            rfl), bnd_s, thn_nx, ← List.not_all_eq_any_not]
        simp
      · have ha' : decide ((f.atoms.length : Int) ≤ 16) = false := by simpa using ha
        rw [hs, hv, ha']
        rfl
    · have hv' : (decide (f.free ≤ f.vars) && decide (f.vars ≤ 8)) = false := by simpa using hv
      rw [hs, hv']
      rfl
  · have hs' : okS f.free = false := by simpa using hs
    rw [hs']
    rfl
theorem l03Ok_eq {u : Template} (hu : smallT u) (ht : tempB u = true) (f : Formula) : spec_l03Ok u f = some (formB u f) := by
  have hn := (tempB_TV hu ht).n
  unfold spec_l03Ok formB
  rw [l01Template_eq u hu, bnd_s, ht, if_neg (by simp)]
  have h1 : spec_l03Counts f = some (okS f.free && ((decide (f.free ≤ f.vars) && decide (f.vars ≤ 8)) && decide ((f.atoms.length : Int) ≤ 16))) := by
    unfold spec_l03Counts
    simp only [l01Arity_eq, bnd_s, l00In_eq]
    cases okS f.free <;> simp only [Bool.false_eq_true, if_false, thn_nx, Bool.false_and, if_true, Bool.true_and]
    cases (decide (f.free ≤ f.vars) && decide (f.vars ≤ 8)) <;> rfl
  rw [h1, bnd_s, thn_nx]
  by_cases hs : okS f.free = true
  · by_cases hv : (decide (f.free ≤ f.vars) && decide (f.vars ≤ 8)) = true
    · by_cases ha : decide ((f.atoms.length : Int) ≤ 16) = true
      · rw [hs, hv, ha, if_neg (by simp)]
        have h2 := okS_eq hs
        have h3 : f.free ≤ f.vars ∧ f.vars ≤ 8 := by simpa using hv
        rw [forL_all (atomB u f.vars) (fun j a _ => by
          simp only [l03Arity_eq hn, bnd_s]
          unfold atomB
          by_cases h5 : (arS u a.rel == 0) = true
          · rw [h5, if_pos rfl, thn_nx, if_pos rfl]
            rfl
          · have h5' : (arS u a.rel == 0) = false := by simpa using h5
            rw [h5', if_neg (by simp)]
            by_cases h6 : ((a.args.length : Int) == arS u a.rel) = true
            · have h7 : ((a.args.length : Int) != arS u a.rel) = false := by simpa using h6
              rw [h7, if_neg (by simp), Places_s (by omega), bnd_s, thn_nx, h6]
              cases a.args.all (okV f.vars) <;> rfl
            · have h6' : ((a.args.length : Int) == arS u a.rel) = false := by simpa using h6
              have h7 : ((a.args.length : Int) != arS u a.rel) = true := by simpa using h6
              rw [h7, if_pos rfl, thn_nx, h6']
              rfl)]
        simp
      · have ha' : decide ((f.atoms.length : Int) ≤ 16) = false := by simpa using ha
        rw [hs, hv, ha']
        rfl
    · have hv' : (decide (f.free ≤ f.vars) && decide (f.vars ≤ 8)) = false := by simpa using hv
      rw [hs, hv']
      rfl
  · have hs' : okS f.free = false := by simpa using hs
    rw [hs']
    rfl
theorem formB_FV {T : Nat} {u : Template} (hu : TV T u) {f : Formula} (h : formB u f = true) : FV u f := by
  unfold formB at h
  simp only [Bool.and_eq_true, decide_eq_true_eq] at h
  obtain ⟨h1, ⟨h2, h3⟩, h4, h5⟩ := h
  have h6 := okS_eq h1
  refine ⟨h6, ⟨h2, h3⟩, by omega, fun a ha => ?_⟩
  have h7 := List.all_eq_true.1 h5 a ha
  unfold atomB at h7
  simp only [Bool.and_eq_true] at h7
  obtain ⟨h8, h9, h10⟩ := h7
  have h8' : arS u a.rel ≠ 0 := by simpa using h8
  have h9' : (a.args.length : Int) = arS u a.rel := by simpa using h9
  refine ⟨fun i hi => ?_, ?_⟩
  · have := List.all_eq_true.1 h10 i hi
    unfold okV at this
    simp at this
    omega
  · unfold arS at h8' h9'
    by_cases e : a.rel = -1
    · rw [if_pos e] at h9'
      exact .inl ⟨e, by omega⟩
    · rw [if_neg e] at h8' h9'
      by_cases e2 : 0 ≤ a.rel ∧ a.rel < u.rels.length
      · rw [if_pos e2] at h9'
        have h11 : u.rels[a.rel.toNat]? = some (u.rels.getD a.rel.toNat default) := by
          rw [List.getD_eq_getElem?_getD, List.getElem?_eq_getElem (by omega)]
          rfl
        exact .inr ⟨_, e2.1, h11, List.mem_of_getElem? h11, h9'⟩
      · rw [if_neg e2] at h8'
        exact absurd rfl h8'
/-! ### Gadgets -/
def gadQ (t u : Template) (k : Nat) (f : Formula) : Option Bool := if formB u f && (f.free == (t.rels.getD k default).arity) then none else some false
def gadF (t u : Template) (g : Gadgets) : Bool := tempB t && (tempB u && ((t.size == u.size) && (((g.formulas.length : Int) == (t.rels.length : Int)) && (fnd (gadQ t u) g.formulas 0).isNone)))
theorem fnd_none {α ρ : Type} {q : Nat → α → Option ρ} : ∀ {l : List α} {k : Nat}, fnd q l k = none → ∀ j x, l[j]? = some x → q (k + j) x = none
  | [], _, _, j, x, h => by cases j <;> cases h
  | y :: l, k, h, j, x, hx => by
    unfold fnd at h
    cases hq : q k y with
    | some r => rw [hq] at h; cases h
    | none =>
      rw [hq] at h
      cases j with
      | zero => simp at hx; subst hx; exact hq
      | succ j =>
        have := fnd_none (k := k + 1) h j x (by simpa using hx)
        rwa [show k + 1 + j = k + (j + 1) by omega] at this
theorem fnd_map {α ρ ρ' : Type} {q : Nat → α → Option ρ} (g : ρ → ρ') : ∀ (l : List α) (k : Nat), fnd (fun k x => (q k x).map g) l k = (fnd q l k).map g
  | [], _ => rfl
  | y :: l, k => by
    unfold fnd
    cases q k y with
    | none => exact fnd_map g l (k + 1)
    | some r => rfl
theorem form_two {t u : Template} {g : Gadgets} (ht : smallT t) (hu : smallT u) : spec_l09Form t u g = some (gadF t u g) ∧ impl_areFormulas t u g = some (gadF t u g) := by
  have e0 : impl_ValidTemplate (Template.mk t.size t.rels) = some (tempB t) := ValidTemplate_eq t ht
  have e1 : impl_ValidTemplate (Template.mk u.size u.rels) = some (tempB u) := ValidTemplate_eq u hu
  unfold spec_l09Form impl_areFormulas gadF
  rw [l01Template_eq t ht, e0, bnd_s, bnd_s]
  by_cases h1 : tempB t = true
  · rw [l01Template_eq u hu, e1]
    simp only [h1, Bool.not_true, Bool.false_eq_true, if_false, bnd_s, Bool.true_and]
    by_cases h2 : tempB u = true
    · simp only [h2, Bool.not_true, Bool.false_eq_true, if_false, Bool.true_and]
      by_cases h3 : t.size = u.size
      · rw [h3]
        simp only [bne_self_eq_false, Bool.false_eq_true, if_false, thn_nx, beq_self_eq_true, Bool.true_and]
        by_cases h4 : (g.formulas.length : Int) = (t.rels.length : Int)
        · rw [h4]
          simp only [bne_self_eq_false, Bool.false_eq_true, if_false, beq_self_eq_true, Bool.true_and]
          have hr : ∀ (j : Nat) x, g.formulas[j]? = some x → ix t.rels (j : Int) = some (t.rels.getD j default) := fun j x hj => by
            have := (List.getElem?_eq_some_iff.1 hj).1
            exact ix_nat (by rw [List.getD_eq_getElem?_getD, List.getElem?_eq_getElem (by omega)]; rfl)
          constructor
          · rw [forL_fnd (gadQ t u) (fun j x hj => by
              rw [Nat.zero_add]
              simp only [l03Ok_eq hu h2, bnd_s, hr j x hj]
              unfold gadQ
              cases formB u x
              · rfl
              · simp only [Bool.not_true, Bool.false_eq_true, if_false, thn_nx, Bool.true_and]
                by_cases e : x.free = (t.rels.getD j default).arity
                · have e1 : (x.free != (t.rels.getD j default).arity) = false := by simpa using e
                  have e2 : (x.free == (t.rels.getD j default).arity) = true := by simpa using e
                  rw [e1, e2]
                  rfl
                · have e1 : (x.free != (t.rels.getD j default).arity) = true := by simpa using e
                  have e2 : (x.free == (t.rels.getD j default).arity) = false := by simpa using e
                  rw [e1, e2]
                  rfl)]
            cases hf : fnd (gadQ t u) g.formulas 0 with
            | none => rfl
            | some b =>
              have : ∀ (l : List Formula) (k : Nat) b, fnd (gadQ t u) l k = some b → b = false := by
                intro l
                induction l with
                | nil => intro k b h; cases h
                | cons y l ih =>
                  intro k b h
                  unfold fnd at h
                  unfold gadQ at h
                  split at h
                  · rename_i h5; split at h5
                    · cases h5
                    · rw [← Option.some.inj h5] at h; exact (Option.some.inj h).symm
                  · exact ih _ _ h
              rw [this _ _ _ hf]
              rfl
          · rw [forL_fnd (gadQ t u) (fun j x hj => by
              rw [Nat.zero_add]
              have e3 : impl_ValidFormula (Template.mk u.size u.rels) (Formula.mk x.free x.vars x.atoms) = some (formB u x) := ValidFormula_eq hu h2 x
              simp only [e3, bnd_s, hr j x hj]
              unfold gadQ
              cases formB u x
              · rfl
              · simp only [Bool.not_true, Bool.false_eq_true, if_false, thn_nx, Bool.true_and]
                by_cases e : x.free = (t.rels.getD j default).arity
                · have e1 : (x.free != (t.rels.getD j default).arity) = false := by simpa using e
                  have e2 : (x.free == (t.rels.getD j default).arity) = true := by simpa using e
                  rw [e1, e2]
                  rfl
                · have e1 : (x.free != (t.rels.getD j default).arity) = true := by simpa using e
                  have e2 : (x.free == (t.rels.getD j default).arity) = false := by simpa using e
                  rw [e1, e2]
                  rfl)]
            cases hf : fnd (gadQ t u) g.formulas 0 with
            | none => rfl
            | some b =>
              have : ∀ (l : List Formula) (k : Nat) b, fnd (gadQ t u) l k = some b → b = false := by
                intro l
                induction l with
                | nil => intro k b h; cases h
                | cons y l ih =>
                  intro k b h
                  unfold fnd at h
                  unfold gadQ at h
                  split at h
                  · rename_i h5; split at h5
                    · cases h5
                    · rw [← Option.some.inj h5] at h; exact (Option.some.inj h).symm
                  · exact ih _ _ h
              rw [this _ _ _ hf]
              rfl
        · have h4' : ((g.formulas.length : Int) != (t.rels.length : Int)) = true := by simpa using h4
          have h4'' : ((g.formulas.length : Int) == (t.rels.length : Int)) = false := by simpa using h4
          rw [h4', h4'']
          exact ⟨rfl, rfl⟩
      · have h3' : (t.size != u.size) = true := by simpa using h3
        have h3'' : (t.size == u.size) = false := by simpa using h3
        rw [h3', h3'']
        exact ⟨rfl, rfl⟩
    · have h2' : tempB u = false := by simpa using h2
      rw [h2']
      exact ⟨rfl, rfl⟩
  · have h1' : tempB t = false := by simpa using h1
    rw [h1']
    exact ⟨rfl, rfl⟩
end Go.Proofs.YtmgdjaiaekhkgaaGreat
