/-
  Plain laws: templates that are well made, atoms, own gadgets.
-/
import Derived.Test.YtmfichdcomaaeaaM2
import Derived.Test.YtmfichdcomaaeaaX2
namespace Go.Proofs.Ytmfichdcomaaeaa
set_option linter.unusedVariables false
set_option linter.unusedSimpArgs false

def relB' (s : Int) (x : Rel) : Bool := (impl_ValidRel s x).getD false
theorem relB_eq (s : Int) (x : Rel) (hN : x.tuples.length ≤ 1048576) : spec_l01Ok s x = some (relB' s x) ∧ impl_ValidRel s x = some (relB' s x) ∧ (relB' s x = true → okS s = true ∧ okS x.arity = true ∧ ∀ t ∈ x.tuples, areB s t x.arity = true) := by
  obtain ⟨b, h1, h2, h3⟩ := relOk s x hN
  have : relB' s x = b := by unfold relB'; rw [h2]; rfl
  rw [this]
  exact ⟨h1, h2, h3⟩
theorem containsR_eq (l : List Rel) (p : Rel → Bool) (f : Rel → Option Bool) (hf : ∀ x ∈ l, f x = some (p x)) : slices_ContainsFunc_s_Rel_Rel l f = some (l.any p) := by
  obtain ⟨i, h1, h2⟩ := forL_idx l p f hf
  unfold slices_ContainsFunc_s_Rel_Rel
  rw [show slices_IndexFunc_s_Rel_Rel l f = some i from h1, bnd_s, h2]
def tempB (x : Template) : Bool := okS x.size && (decide ((x.rels.length : Int) ≤ 6) && x.rels.all (relB' x.size))
def smallT (x : Template) : Prop := ∀ r ∈ x.rels, r.tuples.length ≤ 1048576
theorem smallT_of {x : Template} (h : x.sz ≤ 1048576) : smallT x := fun r hr => by
  obtain ⟨i, hi, rfl⟩ := List.mem_iff_getElem.1 hr
  have h1 := le_szS (c := Rel.sz) (List.getElem?_eq_getElem hi)
  unfold Template.sz at h
  have h2 : (x.rels[i]).tuples.length ≤ (x.rels[i]).sz := by unfold Rel.sz szS; omega
  omega
theorem l01Template_eq (x : Template) (hx : smallT x) : spec_l01Template x = some (tempB x) := by
  unfold spec_l01Template
  rw [forL_fnd (fun _ r => if !relB' x.size r then some false else none) (fun j r hj => by
    simp only [(relB_eq x.size r (hx r (List.mem_of_getElem? hj))).1, bnd_s]
    by_cases hv : relB' x.size r = true
    · simp [hv, ctlO]
    · simp [hv, ctlO])]
  rw [fnd_any]
  unfold tempB
  by_cases ha : x.rels.all (relB' x.size) = true
  · have : x.rels.any (fun r => !relB' x.size r) = false := by simpa using ha
    rw [this, ha]
    simp only [outO, Bool.false_eq_true, if_false, thn_nx, l01Size_eq, bnd_s]
    by_cases hs : okS x.size = true
    · simp [hs]
    · have hs' : okS x.size = false := by simpa using hs
      simp [hs']
  · have ha' : x.rels.all (relB' x.size) = false := by simpa using ha
    have : x.rels.any (fun r => !relB' x.size r) = true := by simpa using ha'
    rw [this, ha']
    simp [outO]
theorem ValidTemplate_eq (x : Template) (hx : smallT x) : impl_ValidTemplate x = some (tempB x) := by
  unfold impl_ValidTemplate tempB
  rw [isSize_eq, containsR_eq x.rels (fun r => !relB' x.size r) _ (fun r hr => by
    unfold impl_ValidTemplate_1
    rw [show Rel.mk r.arity r.tuples = r from rfl, show (Template.mk x.size x.rels).size = x.size from rfl, (relB_eq x.size r (hx r hr)).2.1]
    rfl)]
  simp only [bnd_s]
  by_cases hs : okS x.size = true
  · by_cases hl : (x.rels.length : Int) ≤ 6
    · simp only [hs, hl, decide_true, if_true, thn_nx, Bool.true_and]
      congr 1
      rw [Bool.eq_iff_iff]
      simp
    · simp [hs, hl]
  · have hs' : okS x.size = false := by simpa using hs
    simp [hs']
theorem tempB_spec {x : Template} (hx : smallT x) (h : tempB x = true) : okS x.size = true ∧ x.rels.length ≤ 6 ∧ ∀ r ∈ x.rels, okS r.arity = true ∧ ∀ t ∈ r.tuples, areB x.size t r.arity = true := by
  unfold tempB at h
  simp only [Bool.and_eq_true, decide_eq_true_eq, List.all_eq_true] at h
  exact ⟨h.1, by omega, fun r hr => ((relB_eq x.size r (hx r hr)).2.2 (h.2.2 r hr)).2⟩
theorem cntS_le_szS {α : Type} {e c : α → Nat} (h : ∀ x, e x ≤ 10 * (1 + c x)) : ∀ l : List α, cntS e l ≤ 10 * szS c l
  | [] => by simp [cntS]
  | x :: l => by
    have h1 := cntS_le_szS h l
    have h2 := h x
    rw [cntS_cons]
    unfold szS at h1 ⊢
    rw [List.length_cons, List.map_cons, List.sum_cons]
    omega
theorem cntR (r : Rel) : r.ecnt ≤ 10 * (1 + r.sz) := by
  have : cntS List.length r.tuples ≤ r.sz := by unfold Rel.sz szS cntS; omega
  unfold Rel.ecnt Rel.cnt
  omega
theorem cntT {x : Template} (h : x.sz ≤ 1048576) : x.cnt ≤ 104857600 := by
  have := cntS_le_szS cntR x.rels
  unfold Template.sz at h
  unfold Template.cnt
  omega
theorem counts0 : ∀ n : Nat, n < 5 → impl_upTo 0 (n : Int) = spec_l03Count (n : Int) ∧ (∃ l, spec_l03Count (n : Int) = some l ∧ l.length ≤ 4) := by
  intro n hn
  match n, hn with
  | 0, _ => exact ⟨by decide +kernel, _, rfl, by decide⟩
  | 1, _ => exact ⟨by decide +kernel, _, rfl, by decide⟩
  | 2, _ => exact ⟨by decide +kernel, _, rfl, by decide⟩
  | 3, _ => exact ⟨by decide +kernel, _, rfl, by decide⟩
  | 4, _ => exact ⟨by decide +kernel, _, rfl, by decide⟩
theorem counts {a : Int} (h : okS a = true) : ∃ l, spec_l03Count a = some l ∧ impl_upTo 0 a = some l ∧ l.length ≤ 4 := by
  have := okS_eq h
  obtain ⟨n, rfl⟩ : ∃ n : Nat, a = n := ⟨a.toNat, by omega⟩
  obtain ⟨h1, l, h2, h3⟩ := counts0 n (by omega)
  exact ⟨l, h2, by rw [h1]; exact h2, h3⟩
theorem AtomFormula_eq (x : Template) (k : Int) (hx : smallT x) (hl : x.rels.length ≤ 1048576) : ∃ f c, spec_AtomFormula x k = some (f, c) ∧ impl_AtomFormula x k = some (f, c) ∧ f.ecnt ≤ 100 := by
  unfold spec_AtomFormula impl_AtomFormula
  rw [show Template.mk x.size x.rels = x from rfl, l01Template_eq x hx, ValidTemplate_eq x hx]
  simp only [bnd_s]
  by_cases hv : tempB x = true
  · obtain ⟨h1, h2, h3⟩ := tempB_spec hx hv
    simp only [hv, Bool.not_true, Bool.false_eq_true, if_false, ck_eq (x := (x.rels.length : Int) - 1) (by omega) (by omega), bnd_s, l00In_eq, within_eq]
    by_cases hk : 0 ≤ k ∧ k ≤ (x.rels.length : Int) - 1
    · have hr : x.rels[k.toNat]? = some (x.rels[k.toNat]'(by omega)) := List.getElem?_eq_getElem (by omega)
      have hm := List.mem_of_getElem? hr
      generalize x.rels[k.toNat]'(by omega) = r at hr hm
      obtain ⟨l, e1, e2, e3⟩ := counts (h3 r hm).1
      simp only [hk.1, hk.2, decide_true, Bool.and_self, Bool.not_true, Bool.false_eq_true, if_false, ix_of hk.1 hr, bnd_s, e1, e2]
      refine ⟨_, _, rfl, rfl, ?_⟩
      have hI : (l.map cI).sum = l.length := by
        clear e1 e2 e3
        induction l with
        | nil => rfl
        | cons a l ih => rw [List.map_cons, List.sum_cons, ih, List.length_cons]; show 1 + l.length = _; omega
      simp [Formula.ecnt, Formula.cnt, cntS, Atom.ecnt, Atom.cnt, hI]
      omega
    · have hk' : (decide (0 ≤ k) && decide (k ≤ (x.rels.length : Int) - 1)) = false := by
        simp only [Bool.and_eq_false_iff, decide_eq_false_iff_not]
        omega
      simp only [hk', Bool.not_false, if_true]
      exact ⟨_, _, rfl, rfl, by decide⟩
  · have hv' : tempB x = false := by simpa using hv
    simp only [hv', Bool.not_false, if_true]
    exact ⟨_, _, rfl, rfl, by decide⟩
theorem OwnGadgets_eq (x : Template) (hx : smallT x) (hl : x.rels.length ≤ 1048576) : ∃ g c, spec_OwnGadgets x = some (g, c) ∧ impl_OwnGadgets x = some (g, c) ∧ g.cnt ≤ 104857600 := by
  unfold spec_OwnGadgets impl_OwnGadgets
  rw [show Template.mk x.size x.rels = x from rfl, l01Template_eq x hx, ValidTemplate_eq x hx]
  simp only [bnd_s]
  by_cases hv : tempB x = true
  · simp only [hv, Bool.not_true, Bool.false_eq_true, if_false]
    obtain ⟨s, h1, h2, h3⟩ := forL_twoS (l := x.rels) (k := 0) (s := ([] : List Formula)) (ρ := Gadgets × Int) (ρ' := Gadgets × Int) (fun i s => s.length ≤ i ∧ cntS Formula.ecnt s ≤ 100 * i)
      (f := fun (k192 : Nat) (x194 : Rel) (s172 : (List Formula)) =>
        bnd (spec_AtomFormula x (k192 : Int)) fun z200 =>
        bnd (ap s172 ([(Formula.mk z200.1.free z200.1.vars z200.1.atoms)])) fun z252 =>
        some (.go z252))
      (g := fun (k191 : Nat) (x193 : Rel) (s171 : (List Formula)) =>
        bnd (impl_AtomFormula x (k191 : Int)) fun z198 =>
        bnd (ap s171 ([(Formula.mk z198.1.free z198.1.vars z198.1.atoms)])) fun z250 =>
        some (.go z250))
      ⟨Nat.le_refl _, Nat.le_refl _⟩ (fun j r s hj hi => by
        obtain ⟨f, c, e1, e2, e3⟩ := AtomFormula_eq x ((0 + j : Nat) : Int) hx hl
        have hjl : j < x.rels.length := (List.getElem?_eq_some_iff.1 hj).1
        simp only [e1, e2, bnd_s, show Formula.mk f.free f.vars f.atoms = f from rfl, ap_eq (l := s) (m := [f]) (by have := hi.1; simp; omega)]
        refine ⟨_, rfl, rfl, by have := hi.1; simp; omega, ?_⟩
        rw [cntS_append, cntS_cons, cntS_nil]
        have := hi.2
        omega)
    rw [h1, h2]
    refine ⟨_, _, rfl, rfl, ?_⟩
    unfold Gadgets.cnt
    show cntS Formula.ecnt s ≤ _
    omega
  · have hv' : tempB x = false := by simpa using hv
    simp only [hv', Bool.not_false, if_true]
    exact ⟨_, _, rfl, rfl, by decide⟩
end Go.Proofs.Ytmfichdcomaaeaa
