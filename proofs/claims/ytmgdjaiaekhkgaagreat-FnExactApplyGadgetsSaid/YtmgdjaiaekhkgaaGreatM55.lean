/-
  Plain laws: ValidGadgets and FirstWrong, on both sides (2).
-/
import Derived.Test.YtmgdjaiaekhkgaaGreatM54
namespace Go.Proofs.YtmgdjaiaekhkgaaGreat
set_option linter.unusedVariables false
set_option linter.unusedSimpArgs false
/-- What gadgets of the right form give. -/
structure GV (T : Nat) (t u : Template) (g : Gadgets) : Prop where
  tV : TV T t
  uV : TV T u
  n : g.formulas.length = t.rels.length
  f : ∀ (j : Nat) f, g.formulas[j]? = some f → FV u f ∧ f.free = (t.rels.getD j default).arity ∧ t.rels[j]? = some (t.rels.getD j default)
theorem gadF_GV {t u : Template} {g : Gadgets} (ht : smallT t) (hu : smallT u) (h : gadF t u g = true) : GV t.size.toNat t u g := by
  unfold gadF at h
  simp only [Bool.and_eq_true] at h
  obtain ⟨h1, h2, h3, h4, h5⟩ := h
  have e : t.size = u.size := by simpa using h3
  have hn0 : (g.formulas.length : Int) = (t.rels.length : Int) := by simpa using h4
  have hn : g.formulas.length = t.rels.length := by omega
  have hT := tempB_TV ht h1
  have hU := tempB_TV hu h2
  rw [← e] at hU
  refine ⟨hT, hU, hn, fun j f hj => ?_⟩
  have h6 := fnd_none (Option.isNone_iff_eq_none.1 h5) j f hj
  rw [Nat.zero_add] at h6
  unfold gadQ at h6
  have hjl := (List.getElem?_eq_some_iff.1 hj).1
  have hg : t.rels[j]? = some (t.rels.getD j default) := by rw [List.getD_eq_getElem?_getD, List.getElem?_eq_getElem (by omega)]; rfl
  split at h6
  · rename_i h7
    rw [Bool.and_eq_true] at h7
    exact ⟨formB_FV hU h7.1, by simpa using h7.2, hg⟩
  · cases h6
/-- Where the formula of a relation is wrong. -/
def wrongL (T : Nat) (t u : Template) (k : Nat) (f : Formula) : List (List Int) := (enumL T f.free.toNat).filter (apart (valS u f T f.free.toNat).tuples (t.rels.getD k default).tuples)
def wrongQ (T : Nat) (t u : Template) (k : Nat) (f : Formula) : Option (Nat × Rel × List Int) := match wrongL T t u k f with
  | [] => none
  | d :: _ => some (k, valS u f T f.free.toNat, d)
theorem val_asc {T : Nat} {u : Template} {f : Formula} {n : Nat} : Asc (valS u f T n).tuples ∧ ∀ t ∈ (valS u f T n).tuples, t ∈ enumL T n :=
  ⟨(enum_asc T n).filter _, fun t ht => (List.mem_filter.1 ht).1⟩
theorem GV.rel {T : Nat} {t u : Template} {g : Gadgets} (h : GV T t u g) {j : Nat} {f : Formula} (hj : g.formulas[j]? = some f) : Asc (t.rels.getD j default).tuples ∧ (∀ x ∈ (t.rels.getD j default).tuples, x ∈ enumL T f.free.toNat) ∧ (t.rels.getD j default).tuples.length ≤ 256 ∧ (f.free.toNat : Int) = f.free := by
  obtain ⟨h1, h2, h3⟩ := h.f j f hj
  have hm := List.mem_of_getElem? h3
  obtain ⟨n, e, _, _, h4, h5⟩ := h.tV.r _ hm
  have hf := h1.f0
  have e2 : f.free.toNat = n := by rw [h2, e]; simp
  exact ⟨h4, by rw [e2]; exact h5, (h.tV.r _ hm).len h.tV.t, by omega⟩
theorem wrongQ_none {T : Nat} {t u : Template} {g : Gadgets} (h : GV T t u g) {j : Nat} {f : Formula} (hj : g.formulas[j]? = some f) : wrongQ T t u j f = none ↔ (valS u f T f.free.toNat).tuples = (t.rels.getD j default).tuples := by
  obtain ⟨h1, h2, _, _⟩ := h.rel hj
  rw [← apart_nil (T := T) (n := f.free.toNat) val_asc.1 val_asc.2 h1 h2]
  show _ ↔ wrongL T t u j f = []
  unfold wrongQ
  cases wrongL T t u j f <;> simp
theorem Wrong_two {N T : Nat} {t u : Template} {g : Gadgets} (h : GV T t u g) (hN : 1100 ≤ N) :
    spec_l09Wrong N t u g = some (match fnd (wrongQ T t u) g.formulas 0 with | none => (-1, ⟨0, []⟩) | some r => ((r.1 : Int), r.2.1)) ∧
    impl_firstWrong N t u g = some (match fnd (wrongQ T t u) g.formulas 0 with | none => (-1, []) | some r => ((r.1 : Int), r.2.2)) := by
  constructor
  · unfold spec_l09Wrong
    rw [forL_fnd (fun k x => (wrongQ T t u k x).map fun r => ((r.1 : Int), r.2.1)) (fun j f hj => by
      rw [Nat.zero_add]
      obtain ⟨h1, h2, h3⟩ := h.f j f hj
      obtain ⟨h4, h5, h6, h7⟩ := h.rel hj
      have hv := (value_two h.uV h1 h7.symm hN).1
      simp only [hv, bnd_s, ix_nat h3]
      have hs : spec_l01Same (Rel.mk (valS u f T f.free.toNat).arity (valS u f T f.free.toNat).tuples) (t.rels.getD j default) = some (decide ((valS u f T f.free.toNat).tuples = (t.rels.getD j default).tuples)) := l01Same_eq (by rw [← h2, ← h7]; rfl)
      rw [hs, bnd_s]
      by_cases e : (valS u f T f.free.toNat).tuples = (t.rels.getD j default).tuples
      · rw [(wrongQ_none h hj).2 e, decide_eq_true e]
        rfl
      · rw [decide_eq_false e]
        cases hq : wrongQ T t u j f with
        | none => exact absurd ((wrongQ_none h hj).1 hq) e
        | some r =>
          unfold wrongQ at hq
          split at hq
          · cases hq
          · rw [← Option.some.inj hq]
            rfl), fnd_map]
    cases fnd (wrongQ T t u) g.formulas 0 <;> rfl
  · unfold impl_firstWrong
    rw [forL_fnd (fun k x => (wrongQ T t u k x).map fun r => ((r.1 : Int), r.2.2)) (fun j f hj => by
      rw [Nat.zero_add]
      obtain ⟨h1, h2, h3⟩ := h.f j f hj
      obtain ⟨h4, h5, h6, h7⟩ := h.rel hj
      have hv : impl_valueOf N (Template.mk u.size u.rels) (Formula.mk f.free f.vars f.atoms) = some (valS u f T f.free.toNat) := (value_two h.uV h1 h7.symm hN).2
      have hf := h1.f0
      have hn : 1 ≤ f.free.toNat ∧ f.free.toNat ≤ 4 := by omega
      have hvl : (valS u f T f.free.toNat).tuples.length ≤ 256 := Nat.le_trans (List.length_filter_le _ _) (enum_len h.tV.t hn)
      simp only [hv, bnd_s]
      have hr : impl_relOf N t.size f.free (fun a0 => impl_firstWrong_1 N a0 (Rel.mk (valS u f T f.free.toNat).arity (valS u f T f.free.toNat).tuples) (Template.mk t.size t.rels) (j : Int)) = some ⟨f.free.toNat, wrongL T t u j f⟩ := by
        have e : impl_relOf N t.size f.free (fun a0 => impl_firstWrong_1 N a0 (Rel.mk (valS u f T f.free.toNat).arity (valS u f T f.free.toNat).tuples) (Template.mk t.size t.rels) (j : Int)) = impl_relOf N (T : Int) ((f.free.toNat : Nat) : Int) (fun a0 => impl_firstWrong_1 N a0 (Rel.mk (valS u f T f.free.toNat).arity (valS u f T f.free.toNat).tuples) (Template.mk t.size t.rels) (j : Int)) := by rw [h7, h.tV.s]
        rw [e]
        refine relOf_eq h.tV.t hn (by omega) (apart (valS u f T f.free.toNat).tuples (t.rels.getD j default).tuples) (fun d _ => ?_)
        unfold impl_firstWrong_1
        have h8 : impl_Rel_has N (Rel.mk (valS u f T f.free.toNat).arity (valS u f T f.free.toNat).tuples) d = some (decide (d ∈ (valS u f T f.free.toNat).tuples)) := has_eq val_asc.1 (by simp only; omega) (by omega)
        rw [h8, bnd_s]
        show bnd (ix t.rels (j : Int)) _ = _
        rw [ix_nat h3, bnd_s, has_eq h4 (by omega) (by omega), bnd_s]
        rfl
      rw [hr, bnd_s]
      unfold wrongQ
      cases hw : wrongL T t u j f with
      | nil => rfl
      | cons d r =>
        simp only
        rw [if_pos (by simp), show ix (d :: r) 0 = some d from rfl, bnd_s]
        rfl), fnd_map]
    cases fnd (wrongQ T t u) g.formulas 0 <;> rfl
theorem wrong_neg (o : Option (Nat × Rel × List Int)) : decide ((match o with | none => ((-1 : Int), (⟨0, []⟩ : Rel)) | some r => ((r.1 : Int), r.2.1)).1 < 0) = o.isNone := by
  cases o with
  | none => rfl
  | some r => simp
theorem wrong_neg' (o : Option (Nat × Rel × List Int)) : decide ((match o with | none => ((-1 : Int), ([] : List Int)) | some r => ((r.1 : Int), r.2.2)).1 < 0) = o.isNone := by
  cases o with
  | none => rfl
  | some r => simp
def gadV (t u : Template) (g : Gadgets) : Bool := gadF t u g && (fnd (wrongQ t.size.toNat t u) g.formulas 0).isNone
theorem l09Ok_eq {N : Nat} {t u : Template} {g : Gadgets} (ht : smallT t) (hu : smallT u) (hN : 1100 ≤ N) : spec_l09Ok N t u g = some (gadV t u g) := by
  unfold spec_l09Ok gadV
  rw [(form_two ht hu).1, bnd_s]
  by_cases h : gadF t u g = true
  · rw [(Wrong_two (gadF_GV ht hu h) hN).1, h, bnd_s, wrong_neg]
    rfl
  · have h' : gadF t u g = false := by simpa using h
    rw [h']
    rfl
theorem ValidGadgets_two {N : Nat} {t u : Template} {g : Gadgets} (ht : smallT t) (hu : smallT u) (hN : 1100 ≤ N) : spec_ValidGadgets N t u g = some (gadV t u g) ∧ impl_ValidGadgets N t u g = some (gadV t u g) := by
  constructor
  · unfold spec_ValidGadgets
    have : spec_l09Ok N (Template.mk t.size t.rels) (Template.mk u.size u.rels) (Gadgets.mk g.formulas) = some (gadV t u g) := l09Ok_eq ht hu hN
    rw [this]
    rfl
  · unfold impl_ValidGadgets gadV
    have h0 : impl_areFormulas (Template.mk t.size t.rels) (Template.mk u.size u.rels) (Gadgets.mk g.formulas) = some (gadF t u g) := (form_two ht hu).2
    rw [h0, bnd_s]
    by_cases h : gadF t u g = true
    · have h1 : impl_firstWrong N (Template.mk t.size t.rels) (Template.mk u.size u.rels) (Gadgets.mk g.formulas) = _ := (Wrong_two (gadF_GV ht hu h) hN).2
      rw [h1, h, bnd_s, wrong_neg']
      rfl
    · have h' : gadF t u g = false := by simpa using h
      rw [h']
      rfl
end Go.Proofs.YtmgdjaiaekhkgaaGreat
