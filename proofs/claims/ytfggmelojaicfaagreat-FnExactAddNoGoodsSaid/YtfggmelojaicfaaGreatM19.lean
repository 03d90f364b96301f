/-
  Plain laws: instances that are well made; literals; numbers; copies. (What M10, M13, M14 and M15 hold of them, without the searches.)
-/
import Derived.Test.YtfggmelojaicfaaGreatS4a
import Derived.Test.YtfggmelojaicfaaGreatS5
import Derived.Test.YtfggmelojaicfaaGreatMT
namespace Go.Proofs.YtfggmelojaicfaaGreat
set_option linter.unusedVariables false
set_option linter.unusedSimpArgs false

theorem own_eq (l : List Int) (h : l.length ≤ 1048576) : spec_l00Own l = some l := by
  unfold spec_l00Own
  rw [ap_eq (by simp only [List.length_nil]; omega), bnd_s]; rfl
theorem clone_eq (l : List Int) (h : l.length ≤ 1048576) : slices_Clone_s_int64_int64 l = some l := by
  unfold slices_Clone_s_int64_int64
  rw [ap_eq (by simp only [List.length_nil]; omega), bnd_s]; rfl
theorem isValue_ck {s : Int} (h : ck (s - 1) = some (s - 1)) (a : Int) : impl_isValue s a = some (okV s a) := by
  unfold impl_isValue
  rw [h, bnd_s, within_eq]
  rfl
theorem areValues_ck {s : Int} (h : ck (s - 1) = some (s - 1)) (ar : Int) (t : List Int) : impl_areValues s t ar = some (areB s t ar) := by
  unfold impl_areValues
  rw [containsI_eq t (fun x => !okV s x) _ (fun x => by unfold impl_areValues_1; rw [isValue_ck h]; rfl)]
  unfold areB
  by_cases hl : ((t.length : Int) == ar) = true
  · rw [hl]
    simp
    rw [Bool.eq_iff_iff]
    simp
  · have : ((t.length : Int) == ar) = false := by simpa using hl
    rw [this]
    simp
theorem places_ck {s : Int} (h : ck (s - 1) = some (s - 1)) (t : List Int) : spec_l01Places t s = some (t.all (okV s)) := by
  unfold spec_l01Places
  rw [forL_fnd (fun _ x => if (!okV s x) then some false else none) (fun j x hj => by
    rw [h, bnd_s, l00In_eq, bnd_s]
    unfold okV
    cases (decide (0 ≤ x) && decide (x ≤ s - 1)) <;> rfl), fnd_any]
  have : (t.any fun x => !okV s x) = !(t.all (okV s)) := by rw [List.all_eq_not_any_not, Bool.not_not]
  rw [this]
  cases t.all (okV s) <;> rfl
theorem containsC_eq (l : List Con) (p : Con → Bool) (f : Con → Option Bool) (hf : ∀ x ∈ l, f x = some (p x)) : slices_ContainsFunc_s_Con_Con l f = some (l.any p) := by
  obtain ⟨i, h1, h2⟩ := forL_idx l p f hf
  have h3 : slices_IndexFunc_s_Con_Con l f = some i := h1
  unfold slices_ContainsFunc_s_Con_Con
  rw [h3, bnd_s, h2]
/-- Is a constraint right? -/
def conB (x : Template) (n : Int) (c : Con) : Bool :=
  if (decide (0 ≤ c.rel) && decide (c.rel ≤ (x.rels.length : Int) - 1)) then (match ix x.rels c.rel with | some r => areB n c.scope r.arity | none => false) else false
theorem con_impl {x : Template} {y : Instance} (hl : x.rels.length ≤ 6) (hn : ck (y.vars - 1) = some (y.vars - 1)) (c : Con) : impl_ValidInstance_1 c x y = some (!conB x y.vars c) := by
  unfold impl_ValidInstance_1 conB
  rw [show ck ((x.rels.length : Int) - 1) = some ((x.rels.length : Int) - 1) from ck_eq (by omega) (by omega), bnd_s, within_eq, bnd_s]
  cases hb : (decide (0 ≤ c.rel) && decide (c.rel ≤ (x.rels.length : Int) - 1)) with
  | false => rfl
  | true =>
    simp only [Bool.and_eq_true, decide_eq_true_eq] at hb
    have hi : c.rel.toNat < x.rels.length := by omega
    have hx : ix x.rels c.rel = some x.rels[c.rel.toNat] := ix_of hb.1 (List.getElem?_eq_getElem hi)
    rw [hx]
    simp only [Bool.not_true, Bool.false_eq_true, if_false, bnd_s, areValues_ck hn, thn_nx, if_true]
def validB (x : Template) (y : Instance) : Bool := tempB x && ((decide (1 ≤ y.vars) && decide (y.vars ≤ 10)) && (decide ((y.cons.length : Int) ≤ 24) && y.cons.all (conB x y.vars)))
theorem ValidInstance_val (x : Template) (y : Instance) (hx : smallT x) : impl_ValidInstance x y = some (validB x y) ∧ spec_l05Ok x y = some (validB x y) := by
  unfold validB
  refine ⟨?_, ?_⟩
  · unfold impl_ValidInstance
    rw [show (Template.mk x.size x.rels) = x from rfl, show (Instance.mk y.vars y.cons) = y from rfl, ValidTemplate_eq x hx, bnd_s]
    cases ht : tempB x with
    | false => rfl
    | true =>
      obtain ⟨_, hl, _⟩ := tempB_spec hx ht
      rw [if_pos rfl]
      unfold impl_isVars
      rw [within_eq, bnd_s, bnd_s]
      cases hv : (decide (1 ≤ y.vars) && decide (y.vars ≤ 10)) with
      | false => rfl
      | true =>
        rw [if_pos rfl]
        simp only [Bool.and_eq_true, decide_eq_true_eq] at hv
        have hn : ck (y.vars - 1) = some (y.vars - 1) := ck_eq (by omega) (by omega)
        cases hc : decide ((y.cons.length : Int) ≤ 24) with
        | false => rfl
        | true =>
          rw [if_pos rfl, containsC_eq y.cons (fun c => !conB x y.vars c) _ (fun c _ => con_impl hl hn c), bnd_s, thn_nx, ← List.all_eq_not_any_not]
          rfl
  · unfold spec_l05Ok
    rw [l01Template_eq x hx, bnd_s]
    cases ht : tempB x with
    | false => rfl
    | true =>
      obtain ⟨_, hl, _⟩ := tempB_spec hx ht
      rw [if_neg (by simp), l00In_eq, bnd_s]
      cases hv : (decide (1 ≤ y.vars) && decide (y.vars ≤ 10)) with
      | false => rfl
      | true =>
        rw [if_neg (by simp)]
        simp only [Bool.and_eq_true, decide_eq_true_eq] at hv
        have hn : ck (y.vars - 1) = some (y.vars - 1) := ck_eq (by omega) (by omega)
        cases hc : decide ((y.cons.length : Int) ≤ 24) with
        | false =>
          have : decide (24 < (y.cons.length : Int)) = true := by simp at hc ⊢; omega
          rw [this]; rfl
        | true =>
          have : decide (24 < (y.cons.length : Int)) = false := by simp at hc ⊢; omega
          rw [this, thn_nx, if_neg (by simp)]
          rw [forL_fnd (fun _ c => if (!conB x y.vars c) then some false else none) (fun j c hj => by
            rw [show ck ((x.rels.length : Int) - 1) = some ((x.rels.length : Int) - 1) from ck_eq (by omega) (by omega), bnd_s, l00In_eq, bnd_s]
            unfold conB
            cases hb : (decide (0 ≤ c.rel) && decide (c.rel ≤ (x.rels.length : Int) - 1)) with
            | false => rfl
            | true =>
              simp only [Bool.and_eq_true, decide_eq_true_eq] at hb
              have hi : c.rel.toNat < x.rels.length := by omega
              have hx : ix x.rels c.rel = some x.rels[c.rel.toNat] := ix_of hb.1 (List.getElem?_eq_getElem hi)
              rw [hx]
              simp only [Bool.not_true, Bool.false_eq_true, if_false, bnd_s, places_ck hn, if_true]
              unfold areB
              by_cases he : (c.scope.length : Int) = x.rels[c.rel.toNat].arity
              · have e1 : ((c.scope.length : Int) != x.rels[c.rel.toNat].arity) = false := by simp [he]
                have e2 : ((c.scope.length : Int) == x.rels[c.rel.toNat].arity) = true := by simp [he]
                rw [e1, e2]
                cases c.scope.all (okV y.vars) <;> rfl
              · have e1 : ((c.scope.length : Int) != x.rels[c.rel.toNat].arity) = true := by simp [he]
                have e2 : ((c.scope.length : Int) == x.rels[c.rel.toNat].arity) = false := by simp [he]
                rw [e1, e2]
                rfl), fnd_any]
          have : (y.cons.any fun x_1 => !conB x y.vars x_1) = !(y.cons.all (conB x y.vars)) := by rw [List.all_eq_not_any_not, Bool.not_not]
          rw [this]
          cases y.cons.all (conB x y.vars) <;> rfl
theorem validB_spec {x : Template} {y : Instance} (h : validB x y = true) : tempB x = true ∧ 1 ≤ y.vars ∧ y.vars ≤ 10 ∧ y.cons.length ≤ 24 ∧ ∀ c ∈ y.cons, conB x y.vars c = true := by
  unfold validB at h
  simp only [Bool.and_eq_true, decide_eq_true_eq, List.all_eq_true] at h
  exact ⟨h.1, h.2.1.1, h.2.1.2, by have := h.2.2.1; omega, h.2.2.2⟩
/-- An instance with some of the constraints of a right one. -/
theorem validB_some {x : Template} {y : Instance} (h : validB x y = true) {cs : List Con} (hc : ∀ c ∈ cs, c ∈ y.cons) (hl : cs.length ≤ 24) : validB x (Instance.mk y.vars cs) = true := by
  obtain ⟨h1, h2, h3, h4, h5⟩ := validB_spec h
  unfold validB
  simp only [Bool.and_eq_true, decide_eq_true_eq, List.all_eq_true]
  exact ⟨h1, ⟨h2, h3⟩, by omega, fun c hm => h5 c (hc c hm)⟩
theorem containsLit_eq (l : List Literal) (p : Literal → Bool) (f : Literal → Option Bool) (hf : ∀ x ∈ l, f x = some (p x)) : slices_ContainsFunc_s_Literal_Literal l f = some (l.any p) := by
  obtain ⟨i, h1, h2⟩ := forL_idx l p f hf
  have h3 : slices_IndexFunc_s_Literal_Literal l f = some i := h1
  unfold slices_ContainsFunc_s_Literal_Literal
  rw [h3, bnd_s, h2]
def litB (x : Template) (y : Instance) (l : Literal) : Bool := okV y.vars l.var && okV x.size l.value
theorem literals_two {x : Template} {y : Instance} (hs : okS x.size = true) (hn : ck (y.vars - 1) = some (y.vars - 1)) (l : List Literal) : impl_areLiterals x y l = some (l.all (litB x y)) ∧ spec_l08Literals x y l = some (l.all (litB x y)) := by
  have key : (l.any fun a => !litB x y a) = !(l.all (litB x y)) := by rw [List.all_eq_not_any_not, Bool.not_not]
  constructor
  · unfold impl_areLiterals
    rw [containsLit_eq l (fun a => !litB x y a) _ (fun a _ => by
      unfold impl_areLiterals_1 litB
      simp only
      rw [hn, bnd_s, within_eq, bnd_s, isValue_eq hs]
      unfold okV
      cases (decide (0 ≤ a.var) && decide (a.var ≤ y.vars - 1)) <;> rfl), bnd_s, key, Bool.not_not]
  · unfold spec_l08Literals
    rw [forL_fnd (fun _ a => if (!litB x y a) then some false else none) (fun j a hj => by
      rw [hn, bnd_s, l00In_eq, bnd_s, ckS hs]
      unfold litB okV
      simp only [bnd_s, l00In_eq]
      cases (decide (0 ≤ a.var) && decide (a.var ≤ y.vars - 1)) with
      | false => rfl
      | true => cases (decide (0 ≤ a.value) && decide (a.value ≤ x.size - 1)) <;> rfl), fnd_any, key]
    cases l.all (litB x y) <;> rfl
/-- The numbers from k on, m of them. -/
def nums (k m : Nat) : List Int := (List.range' k m).map (fun (j : Nat) => (j : Int))
theorem count_loop {ρ : Type} (g : Nat → Option Int) (hg : ∀ k, k ≤ 1048576 → g k = some (k : Int)) : ∀ (m k : Nat) (s : List Int), s.length + m ≤ 1048576 → k + m ≤ 1048576 → forI (σ := List Int) (ρ := ρ) (fun (k : Nat) (s : List Int) => bnd (g k) fun z => bnd (ap s [z]) fun z2 => some (.go z2)) m k s = some (.nx (s ++ nums k m))
  | 0, _, s, _, _ => by simp [forI, nums]
  | m + 1, k, s, h, h2 => by
    rw [forI_go (s' := s ++ [(k : Int)]) (by rw [hg k (by omega), bnd_s, ap_eq (by simp only [List.length_cons, List.length_nil]; omega), bnd_s]), count_loop g hg m (k + 1) _ (by simp only [List.length_append, List.length_singleton]; omega) (by omega)]
    simp [nums, List.range'_succ]
theorem counted (n : Nat) (h : n ≤ 1000) : spec_l03Count (n : Int) = some (nums 0 n) := by
  have := count_loop (ρ := List Int) (fun k => some (k : Int)) (fun k hk => rfl) (n : Int).toNat 0 [] (by simp; omega) (by simp; omega)
  unfold spec_l03Count
  have h2 : forI (σ := (List Int)) (ρ := (List Int)) (fun (k48 : Nat) (s38 : (List Int)) => bnd (ap s38 ([(k48 : Int)])) fun z60 => some (.go z60)) (n : Int).toNat 0 [] = some (.nx ([] ++ nums 0 (n : Int).toNat)) := this
  rw [h2, thn_nx]
  simp
theorem own_loop {ρ : Type} : ∀ (l : List Con) (k : Nat) (s : List Con), (∀ c ∈ l, c.scope.length ≤ 1048576) → s.length + l.length ≤ 1048576 → forL (σ := List Con) (ρ := ρ) (fun (k : Nat) (x : Con) (s : List Con) => bnd (slices_Clone_s_int64_int64 x.scope) fun z => bnd (ap s [Con.mk x.rel z]) fun z2 => some (.go z2)) l k s = some (.nx (s ++ l))
  | [], _, s, _, _ => by simp
  | c :: l, k, s, hc, h => by
    rw [List.length_cons] at h
    rw [forL_go (s' := s ++ [c]) (by rw [clone_eq _ (hc c (by simp)), bnd_s, ap_eq (by simp only [List.length_cons, List.length_nil]; omega), bnd_s]), own_loop l (k + 1) _ (fun d hd => hc d (by simp [hd])) (by simp only [List.length_append, List.length_singleton]; omega)]
    simp
end Go.Proofs.YtfggmelojaicfaaGreat
