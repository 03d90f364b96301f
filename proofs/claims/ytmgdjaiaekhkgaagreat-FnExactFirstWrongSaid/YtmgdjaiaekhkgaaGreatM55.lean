/-
  Plain laws: ValidGadgets and FirstWrong, on both sides (2).
-/
import Derived.Test.YtmgdjaiaekhkgaaGreatM54
namespace Go.Proofs.YtmgdjaiaekhkgaaGreat
set_option linter.unusedVariables false
set_option linter.unusedSimpArgs false
/-- What gadgets of the right form give. -/
structure GV (T : Nat) (t u : Template) (g : Gadgets) : Prop where
  tV : TV T t
  uV : TV T u
  n : g.formulas.length = t.rels.length
  f : ∀ (j : Nat) f, g.formulas[j]? = some f → FV u f ∧ f.free = (t.rels.getD j default).arity ∧ t.rels[j]? = some (t.rels.getD j default)
theorem gadF_GV {t u : Template} {g : Gadgets} (ht : smallT t) (hu : smallT u) (h : gadF t u g = true) : GV t.size.toNat t u g := by
  unfold gadF at h
  simp only [Bool.and_eq_true] at h
  obtain ⟨h1, h2, h3, h4, h5⟩ := h
  have e : t.size = u.size := by simpa using h3
  have hn0 : (g.formulas.length : Int) = (t.rels.length : Int) := by simpa using h4
  have hn : g.formulas.length = t.rels.length := by omega
  have hT := tempB_TV ht h1
  have hU := tempB_TV hu h2
  rw [← e] at hU
  refine ⟨hT, hU, hn, fun j f hj => ?_⟩
  have h6 := fnd_none (Option.isNone_iff_eq_none.1 h5) j f hj
  rw [Nat.zero_add] at h6
  unfold gadQ at h6
  have hjl := (List.getElem?_eq_some_iff.1 hj).1
  have hg : t.rels[j]? = some (t.rels.getD j default) := by rw [List.getD_eq_getElem?_getD, List.getElem?_eq_getElem (by omega)]; rfl
  split at h6
  · rename_i h7
    rw [Bool.and_eq_true] at h7
    exact ⟨formB_FV hU h7.1, by simpa using h7.2, hg⟩
  · cases h6
/-- Where the formula of a relation is wrong. -/
def wrongL (T : Nat) (t u : Template) (k : Nat) (f : Formula) : List (List Int) := (enumL T f.free.toNat).filter (apart (valS u f T f.free.toNat).tuples (t.rels.getD k default).tuples)
def wrongQ (T : Nat) (t u : Template) (k : Nat) (f : Formula) : Option (Nat × Rel × List Int) := match wrongL T t u k f with
  | [] => none
  | d :: _ => some (k, valS u f T f.free.toNat, d)
theorem val_asc {T : Nat} {u : Template} {f : Formula} {n : Nat} : Asc (valS u f T n).tuples ∧ ∀ t ∈ (valS u f T n).tuples, t ∈ enumL T n :=
  ⟨(enum_asc T n).filter _, fun t ht => (List.mem_filter.1 ht).1⟩
theorem GV.rel {T : Nat} {t u : Template} {g : Gadgets} (h : GV T t u g) {j : Nat} {f : Formula} (hj : g.formulas[j]? = some f) : Asc (t.rels.getD j default).tuples ∧ (∀ x ∈ (t.rels.getD j default).tuples, x ∈ enumL T f.free.toNat) ∧ (t.rels.getD j default).tuples.length ≤ 256 ∧ (f.free.toNat : Int) = f.free := by
  obtain ⟨h1, h2, h3⟩ := h.f j f hj
  have hm := List.mem_of_getElem? h3
  obtain ⟨n, e, _, _, h4, h5⟩ := h.tV.r _ hm
  have hf := h1.f0
  have e2 : f.free.toNat = n := by rw [h2, e]; simp
  exact ⟨h4, by rw [e2]; exact h5, (h.tV.r _ hm).len h.tV.t, by omega⟩
theorem wrongQ_none {T : Nat} {t u : Template} {g : Gadgets} (h : GV T t u g) {j : Nat} {f : Formula} (hj : g.formulas[j]? = some f) : wrongQ T t u j f = none ↔ (valS u f T f.free.toNat).tuples = (t.rels.getD j default).tuples := by
  obtain ⟨h1, h2, _, _⟩ := h.rel hj
  rw [← apart_nil (T := T) (n := f.free.toNat) val_asc.1 val_asc.2 h1 h2]
  show _ ↔ wrongL T t u j f = []
  unfold wrongQ
  cases wrongL T t u j f <;> simp
theorem Wrong_two {N T : Nat} {t u : Template} {g : Gadgets} (h : GV T t u g) (hN : 1100 ≤ N) :
    spec_l09Wrong N t u g = some (match fnd (wrongQ T t u) g.formulas 0 with | none => (-1, ⟨0, []⟩) | some r => ((r.1 : Int), r.2.1)) ∧
    impl_firstWrong N t u g = some (match fnd (wrongQ T t u) g.formulas 0 with | none => (-1, []) | some r => ((r.1 : Int), r.2.2)) := by
  constructor
  · unfold spec_l09Wrong
    rw [forL_fnd (fun k x => (wrongQ T t u k x).map fun r => ((r.1 : Int), r.2.1)) (fun j f hj => by
      rw [Nat.zero_add]
      obtain ⟨h1, h2, h3⟩ := h.f j f hj
      obtain ⟨h4, h5, h6, h7⟩ := h.rel hj
      have hv := (value_two h.uV h1 h7.symm hN).1
      simp only [hv, bnd_s, ix_nat h3]
      have hs : spec_l01Same (Rel.mk (valS u f T f.free.toNat).arity (valS u f T f.free.toNat).tuples) (t.rels.getD j default) = some (decide ((valS u f T f.free.toNat).tuples = (t.rels.getD j default).tuples)) := l01Same_eq (by rw [← h2, ← h7]; rfl)
      rw [hs, bnd_s]
      by_cases e : (valS u f T f.free.toNat).tuples = (t.rels.getD j default).tuples
      · rw [(wrongQ_none h hj).2 e, decide_eq_true e]
        rfl
      · rw [decide_eq_false e]
        cases hq : wrongQ T t u j f with
        | none => exact absurd ((wrongQ_none h hj).1 hq) e
        | some r =>
          unfold wrongQ at hq
          split at hq
          · cases hq
          · rw [← Option.some.inj hq]
            rfl), fnd_map]
    cases fnd (wrongQ T t u) g.formulas 0 <;> rfl
  · unfold impl_firstWrong
    rw [forL_fnd (fun k x => (wrongQ T t u k x).map fun r => ((r.1 : Int), r.2.2)) (fun j f hj => by
      rw [Nat.zero_add]
      obtain ⟨h1, h2, h3⟩ := h.f j f hj
      obtain ⟨h4, h5, h6, h7⟩ := h.rel hj
      have hv : impl_valueOf N (Template.mk u.size u.rels) (Formula.mk f.free f.vars f.atoms) = some (valS u f T f.free.toNat) := (value_two h.uV h1 h7.symm hN).2
      have hf := h1.f0
      have hn : 1 ≤ f.free.toNat ∧ f.free.toNat ≤ 4 := by omega
      have hvl : (valS u f T f.free.toNat).tuples.length ≤ 256 := Nat.le_trans (List.length_filter_le _ _) (enum_len h.tV.t hn)
      simp only [hv, bnd_s]
      have hr : impl_relOf N t.size f.free (fun a0 => impl_firstWrong_1 N a0 (Rel.mk (valS u f T f.free.toNat).arity (valS u f T f.free.toNat).tuples) (Template.mk t.size t.rels) (j : Int)) = some ⟨f.free.toNat, wrongL T t u j f⟩ := by
        have e : impl_relOf N t.size f.free (fun a0 => impl_firstWrong_1 N a0 (Rel.mk (valS u f T f.free.toNat).arity (valS u f T f.free.toNat).tuples) (Template.mk t.size t.rels) (j : Int)) = impl_relOf N (T : Int) ((f.free.toNat : Nat) : Int) (fun a0 => impl_firstWrong_1 N a0 (Rel.mk (valS u f T f.free.toNat).arity (valS u f T f.free.toNat).tuples) (Template.mk t.size t.rels) (j : Int)) := by rw [h7, h.tV.s]
        rw [e]
        refine relOf_eq h.tV.t hn (by omega) (apart (valS u f T f.free.toNat).tuples (t.rels.getD j default).tuples) (fun d _ => ?_)
        unfold impl_firstWrong_1
        have h8 : impl_Rel_has N (Rel.mk (valS u f T f.free.toNat).arity (valS u f T f.free.toNat).tuples) d = some (decide (d ∈ (valS u f T f.free.toNat).tuples)) := has_eq val_asc.1 (by simp only; omega) (by omega)
        rw [h8, bnd_s]
        show bnd (ix t.rels (j : Int)) _ = _
        rw [ix_nat h3, bnd_s, has_eq h4 (by omega) (by omega), bnd_s]
        rfl
      rw [hr, bnd_s]
      unfold wrongQ
      cases hw : wrongL T t u j f with
      | nil => rfl
      | cons d r =>
        simp only
        rw [if_pos (by simp), show ix (d :: r) 0 = some d from rfl, bnd_s]
        rfl), fnd_map]
    cases fnd (wrongQ T t u) g.formulas 0 <;> rfl
theorem wrong_neg (o : Option (Nat × Rel × List Int)) : decide ((match o with | none => ((-1 : Int), (⟨0, []⟩ : Rel)) | some r => ((r.1 : Int), r.2.1)).1 < 0) = o.isNone := by
  cases o with
  | none => rfl
  | some r => simp
theorem wrong_neg' (o : Option (Nat × Rel × List Int)) : decide ((match o with | none => ((-1 : Int), ([] : List Int)) | some r => ((r.1 : Int), r.2.2)).1 < 0) = o.isNone := by
  cases o with
  | none => rfl
  | some r => simp
def gadV (t u : Template) (g : Gadgets) : Bool := gadF t u g && (fnd (wrongQ t.size.toNat t u) g.formulas 0).isNone
theorem l09Ok_eq {N : Nat} {t u : Template} {g : Gadgets} (ht : smallT t) (hu : smallT u) (hN : 1100 ≤ N) : spec_l09Ok N t u g = some (gadV t u g) := by
  unfold spec_l09Ok gadV
  rw [(form_two ht hu).1, bnd_s]
  by_cases h : gadF t u g = true
  · rw [(Wrong_two (gadF_GV ht hu h) hN).1, h, bnd_s, wrong_neg]
    rfl
  · have h' : gadF t u g = false := by simpa using h
    rw [h']
    rfl
theorem ValidGadgets_two {N : Nat} {t u : Template} {g : Gadgets} (ht : smallT t) (hu : smallT u) (hN : 1100 ≤ N) : spec_ValidGadgets N t u g = some (gadV t u g) ∧ impl_ValidGadgets N t u g = some (gadV t u g) := by
  constructor
  · unfold spec_ValidGadgets
    have : spec_l09Ok N (Template.mk t.size t.rels) (Template.mk u.size u.rels) (Gadgets.mk g.formulas) = some (gadV t u g) := l09Ok_eq ht hu hN
    rw [this]
    rfl
  · unfold impl_ValidGadgets gadV
    have h0 : impl_areFormulas (Template.mk t.size t.rels) (Template.mk u.size u.rels) (Gadgets.mk g.formulas) = some (gadF t u g) := (form_two ht hu).2
    rw [h0, bnd_s]
    by_cases h : gadF t u g = true
    · have h1 : impl_firstWrong N (Template.mk t.size t.rels) (Template.mk u.size u.rels) (Gadgets.mk g.formulas) = _ := (Wrong_two (gadF_GV ht hu h) hN).2
      rw [h1, h, bnd_s, wrong_neg']
      rfl
    · have h' : gadF t u g = false := by simpa using h
      rw [h']
      rfl
/-! ### FirstWrong -/
theorem fnd_some {α ρ : Type} {q : Nat → α → Option ρ} {r : ρ} : ∀ {l : List α} {k : Nat}, fnd q l k = some r → ∃ j x, l[j]? = some x ∧ q (k + j) x = some r
  | [], _, h => by cases h
  | y :: l, k, h => by
    unfold fnd at h
    cases hq : q k y with
    | some r' => rw [hq] at h; exact ⟨0, y, rfl, by rw [← h]; exact hq⟩
    | none =>
      rw [hq] at h
      obtain ⟨j, x, h1, h2⟩ := fnd_some (k := k + 1) h
      exact ⟨j + 1, x, by simpa using h1, by rw [← h2]; congr 1; omega⟩
theorem find_filter {E : List (List Int)} {p : List Int → Bool} {ρ : Type} (g : List Int → ρ) : ∀ (m k : Nat), k + m = E.length → (List.range' k m).findSome? (fun j => if p (E.getD j []) then some (g (E.getD j [])) else none) = ((E.drop k).filter p).head?.map g
  | 0, k, h => by rw [List.drop_eq_nil_of_le (by omega)]; rfl
  | m + 1, k, h => by
    have hlt : k < E.length := by omega
    have hg : E.getD k [] = E[k] := by rw [List.getD_eq_getElem?_getD, List.getElem?_eq_getElem hlt]; rfl
    rw [List.range'_succ, List.findSome?_cons, List.drop_eq_getElem_cons hlt, List.filter_cons, hg]
    by_cases h1 : p E[k] = true
    · rw [if_pos h1, if_pos h1]
      rfl
    · rw [if_neg h1, if_neg h1]
      exact find_filter g m (k + 1) (by omega)
def wrongR (t u : Template) (g : Gadgets) : Int × (List Int) × Int := if gadF t u g then (match fnd (wrongQ t.size.toNat t u) g.formulas 0 with | none => (0, [], 6) | some r => ((r.1 : Int), r.2.2, 0)) else (0, [], 1)
theorem FirstWrong_two {N : Nat} {t u : Template} {g : Gadgets} (ht : smallT t) (hu : smallT u) (hN : 1100 ≤ N) : spec_FirstWrong N t u g = some (wrongR t u g) ∧ impl_FirstWrong N t u g = some (wrongR t u g) := by
  have h0 : impl_areFormulas (Template.mk t.size t.rels) (Template.mk u.size u.rels) (Gadgets.mk g.formulas) = some (gadF t u g) := (form_two ht hu).2
  have h0' : spec_l09Form (Template.mk t.size t.rels) (Template.mk u.size u.rels) (Gadgets.mk g.formulas) = some (gadF t u g) := (form_two ht hu).1
  unfold spec_FirstWrong impl_FirstWrong wrongR
  rw [h0, h0', bnd_s, bnd_s]
  by_cases h : gadF t u g = true
  · have hG := gadF_GV ht hu h
    have h1 : impl_firstWrong N (Template.mk t.size t.rels) (Template.mk u.size u.rels) (Gadgets.mk g.formulas) = _ := (Wrong_two hG hN).2
    have h2 : spec_l09Wrong N (Template.mk t.size t.rels) (Template.mk u.size u.rels) (Gadgets.mk g.formulas) = _ := (Wrong_two hG hN).1
    rw [h1, h2, h]
    simp only [Bool.not_true, Bool.false_eq_true, if_false, bnd_s, if_true]
    cases hq : fnd (wrongQ t.size.toNat t u) g.formulas 0 with
    | none => exact ⟨rfl, rfl⟩
    | some r =>
      obtain ⟨j, f, hj, hw⟩ := fnd_some hq
      rw [Nat.zero_add] at hw
      obtain ⟨h3, h4, h5⟩ := hG.f j f hj
      obtain ⟨h6, h7, h8, h9⟩ := hG.rel hj
      have hf := h3.f0
      have hn : 1 ≤ f.free.toNat ∧ f.free.toNat ≤ 4 := by omega
      unfold wrongQ at hw
      split at hw
      · cases hw
      · rename_i d ds hd
        obtain rfl := Option.some.inj hw
        have hdm : d ∈ wrongL t.size.toNat t u j f := by rw [hd]; simp
        have hdl := (enum_mem.1 (List.mem_filter.1 hdm).1).1
        constructor
        · have hlt : ¬ ((j : Int) < 0) := by omega
          simp only [hlt, decide_false, Bool.false_eq_true, if_false]
          have hp : spec_l01Power N t.size (valS u f t.size.toNat f.free.toNat).arity = some ((enumL t.size.toNat f.free.toNat).length : Int) := by
            rw [hG.tV.s]
            exact (pow_at hG.tV.t hn (by omega)).2
          rw [hp, bnd_s, Int.toNat_natCast]
          have hE := enum_len hG.tV.t hn
          have hfi := forI_find (σ := Unit) (ρ := Int × (List Int) × Int) (s := ()) (k := 0) (m := (enumL t.size.toNat f.free.toNat).length) (b := fun (k60 : Nat) (s : Unit) =>
      match s with
      | _ =>
      bnd (spec_l01Digits N t.size (valS u f t.size.toNat f.free.toNat).arity (k60 : Int)) fun z66 =>
      bnd (spec_l01Has (Rel.mk (valS u f t.size.toNat f.free.toNat).arity (valS u f t.size.toNat f.free.toNat).tuples) z66) fun z71 =>
      bnd (ix t.rels (j : Int)) fun z73 =>
      bnd (spec_l01Has z73 z66) fun z77 =>
      if (z71 != z77) then
       some (.ret ((j : Int), z66, 0))
      else
       some (.go ())) (fun k => if apart (valS u f t.size.toNat f.free.toNat).tuples (t.rels.getD j default).tuples ((enumL t.size.toNat f.free.toNat).getD k []) then some ((j : Int), (enumL t.size.toNat f.free.toNat).getD k [], 0) else none) (fun k _ hk => by
            have hk' : k < (enumL t.size.toNat f.free.toNat).length := by omega
            have hg : (enumL t.size.toNat f.free.toNat).getD k [] = (enumL t.size.toNat f.free.toNat)[k] := by rw [List.getD_eq_getElem?_getD, List.getElem?_eq_getElem hk']; rfl
            have hdg : spec_l01Digits N t.size (valS u f t.size.toNat f.free.toNat).arity (k : Int) = some (enumL t.size.toNat f.free.toNat)[k] := by
              have hd1 := dig_at hG.tV.t hn (show 10 ≤ N by omega) hk'
              rw [← hG.tV.s] at hd1
              rw [digits_eq]
              exact hd1
            simp only [hdg, bnd_s, l01Has_eq, ix_nat h5]
            rw [hg]
            unfold apart
            cases (decide ((enumL t.size.toNat f.free.toNat)[k] ∈ (valS u f t.size.toNat f.free.toNat).tuples) != decide ((enumL t.size.toNat f.free.toNat)[k] ∈ (t.rels.getD j default).tuples)) <;> rfl)
          rw [hfi, find_filter (fun d => ((j : Int), d, (0 : Int))) _ 0 (by omega), List.drop_zero]
          have hd' : (enumL t.size.toNat f.free.toNat).filter (apart (valS u f t.size.toNat f.free.toNat).tuples (t.rels.getD j default).tuples) = d :: ds := hd
          rw [hd']
          rfl
        · have hlt : ¬ ((j : Int) < 0) := by omega
          simp only [hlt, decide_false, Bool.false_eq_true, if_false]
          unfold slices_Clone_s_int64_int64
          rw [ap_eq (by simp only [List.length_nil]; omega), bnd_s, bnd_s, List.nil_append]
  · have h' : gadF t u g = false := by simpa using h
    rw [h']
    exact ⟨rfl, rfl⟩
end Go.Proofs.YtmgdjaiaekhkgaaGreat
