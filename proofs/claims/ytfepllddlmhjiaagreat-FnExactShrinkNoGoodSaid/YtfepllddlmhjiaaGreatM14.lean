/-
  Plain laws: no-goods.
-/
import Derived.Test.YtfepllddlmhjiaaGreatM13
import Derived.Test.YtfepllddlmhjiaaGreatS4a
namespace Go.Proofs.YtfepllddlmhjiaaGreat
set_option linter.unusedVariables false
set_option linter.unusedSimpArgs false

theorem containsLit_eq (l : List Literal) (p : Literal → Bool) (f : Literal → Option Bool) (hf : ∀ x ∈ l, f x = some (p x)) : slices_ContainsFunc_s_Literal_Literal l f = some (l.any p) := by
  obtain ⟨i, h1, h2⟩ := forL_idx l p f hf
  have h3 : slices_IndexFunc_s_Literal_Literal l f = some i := h1
  unfold slices_ContainsFunc_s_Literal_Literal
  rw [h3, bnd_s, h2]
def litB (x : Template) (y : Instance) (l : Literal) : Bool := okV y.vars l.var && okV x.size l.value
theorem literals_two {x : Template} {y : Instance} (hs : okS x.size = true) (hn : ck (y.vars - 1) = some (y.vars - 1)) (l : List Literal) : impl_areLiterals x y l = some (l.all (litB x y)) ∧ spec_l08Literals x y l = some (l.all (litB x y)) := by
  have key : (l.any fun a => !litB x y a) = !(l.all (litB x y)) := by rw [List.all_eq_not_any_not, Bool.not_not]
  constructor
  · unfold impl_areLiterals
    rw [containsLit_eq l (fun a => !litB x y a) _ (fun a _ => by
      unfold impl_areLiterals_1 litB
      simp only
      rw [hn, bnd_s, within_eq, bnd_s, isValue_eq hs]
      unfold okV
      cases (decide (0 ≤ a.var) && decide (a.var ≤ y.vars - 1)) <;> rfl), bnd_s, key, Bool.not_not]
  · unfold spec_l08Literals
    rw [forL_fnd (fun _ a => if (!litB x y a) then some false else none) (fun j a hj => by
      rw [hn, bnd_s, l00In_eq, bnd_s, ckS hs]
      unfold litB okV
      simp only [bnd_s, l00In_eq]
      cases (decide (0 ≤ a.var) && decide (a.var ≤ y.vars - 1)) with
      | false => rfl
      | true => cases (decide (0 ≤ a.value) && decide (a.value ≤ x.size - 1)) <;> rfl), fnd_any, key]
    cases l.all (litB x y) <;> rfl
/-- The domains that literals leave. -/
theorem narrow_two {ρ ρ' : Type} {x : Template} {y : Instance} {n : Nat} (hn : (n : Int) = y.vars) : ∀ (l : List Literal) (k : Nat) (D : List (List Int)), (∀ a ∈ l, litB x y a = true) → DomOk n 40 D → Two (forL (σ := (List (List Int))) (ρ := ρ) (fun (k328 : Nat) (x330 : Literal) (s308 : (List (List Int))) =>
      bnd (ix s308 x330.var) fun z356 =>
      bnd (slices_Contains_s_int64_int64 z356 x330.value) fun z366 =>
      if z366 then
        some (.go (s308.set (x330.var).toNat ([x330.value])))
      else
        some (.go (s308.set (x330.var).toNat ([])))) l k D) (forL (σ := (List (List Int))) (ρ := ρ') (fun (k272 : Nat) (x274 : Literal) (s260 : (List (List Int))) =>
      bnd (ix s260 x274.var) fun z288 =>
      bnd (spec_l00Has z288 x274.value) fun z307 =>
      if z307 then
        some (.go (s260.set (x274.var).toNat ([x274.value])))
      else
        some (.go (s260.set (x274.var).toNat ([])))) l k D) (OutR (fun s s' => s = s' ∧ DomOk n 40 s) (fun _ _ => False))
  | [], _, D, _, h => ⟨_, _, rfl, rfl, rfl, h⟩
  | a :: l, k, D, hl, h => by
    have ha := hl a (by simp)
    unfold litB okV at ha
    simp only [Bool.and_eq_true, decide_eq_true_eq] at ha
    have hlen := h.len
    have hD : D[a.var.toNat]? = some (D.getD a.var.toNat []) := by
      rw [List.getD_eq_getElem?_getD, List.getElem?_eq_getElem (by omega)]; rfl
    have hi : ix D a.var = some (D.getD a.var.toNat []) := ixD ha.1.1 (by omega)
    cases hb : (D.getD a.var.toNat []).any (· == a.value) with
    | true =>
      have hlen1 : 1 ≤ (D.getD a.var.toNat []).length := by
        cases hq : D.getD a.var.toNat [] with
        | nil => rw [hq] at hb; simp at hb
        | cons _ _ => simp
      rw [forL_go (s' := D.set a.var.toNat [a.value]) (by rw [hi, bnd_s, contains_eq, bnd_s, hb]; rfl), forL_go (s' := D.set a.var.toNat [a.value]) (by rw [hi, bnd_s, has_eq, bnd_s, hb]; rfl)]
      exact narrow_two hn l (k + 1) _ (fun c hc => hl c (by simp [hc])) (h.set hD (by simp) (by simpa using hlen1))
    | false =>
      rw [forL_go (s' := D.set a.var.toNat []) (by rw [hi, bnd_s, contains_eq, bnd_s, hb]; rfl), forL_go (s' := D.set a.var.toNat []) (by rw [hi, bnd_s, has_eq, bnd_s, hb]; rfl)]
      exact narrow_two hn l (k + 1) _ (fun c hc => hl c (by simp [hc])) (h.set hD (by simp) (by simp))
theorem bad_two {N : Nat} (hN : 5100 ≤ N) {x : Template} {y : Instance} {b : Int} {l : List Literal} (hs : okS x.size = true) (a2 : 1 ≤ y.vars) (a3 : y.vars ≤ 10) (a5 : ∀ c ∈ y.cons, ConOk x c y.vars.toNat) (a6 : 0 ≤ b) (a7 : b ≤ 5000) (hl : l.all (litB x y) = true) : ∃ r c, impl_isNoGood N x y l b = some (r, c) ∧ spec_l08Bad N x y l b = some (r, c) := by
  obtain ⟨D, d1, d2, d3⟩ := full_two (y := y) hs a2 a3
  unfold impl_isNoGood spec_l08Bad
  rw [show (Template.mk x.size x.rels) = x from rfl, show (Instance.mk y.vars y.cons) = y from rfl, d1, d2, bnd_s, bnd_s]
  obtain ⟨s, s', q1, q2, q3⟩ := narrow_two (ρ := Bool × Int) (ρ' := Bool × Int) (x := x) (y := y) (n := y.vars.toNat) (by omega) l 0 D (List.all_eq_true.1 hl) d3
  rw [q1, q2]
  cases s <;> cases s' <;> first | exact q3.elim | skip
  rename_i s s'
  obtain ⟨rfl, hok⟩ := q3
  rw [thn_nx, thn_nx]
  obtain ⟨st, ln, vl, cd, d, d', ov, e1, e2, e3, e4, e5, e6, e7⟩ := run_two hN (by omega) a5 hok a6 a7
  rw [e1, e2, bnd_s, bnd_s]
  simp only
  rcases e3 with rfl | ⟨rfl, rfl⟩ | rfl
  · exact ⟨_, _, rfl, rfl⟩
  · exact ⟨_, _, rfl, rfl⟩
  · exact ⟨_, _, rfl, rfl⟩
theorem IsNoGood_two {N : Nat} (hN : 5100 ≤ N) {x : Template} {y : Instance} (l : List Literal) (b : Int) (hx : smallT x) : ∃ r c, impl_IsNoGood N x y l b = some (r, c) ∧ spec_IsNoGood N x y l b = some (r, c) ∧ (c = 0 → okS x.size = true ∧ 1 ≤ y.vars ∧ y.vars ≤ 10 ∧ (∀ c ∈ y.cons, ConOk x c y.vars.toNat) ∧ 0 ≤ b ∧ b ≤ 5000 ∧ l.all (litB x y) = true) := by
  obtain ⟨c, h1, h2, h3⟩ := budget_two x y b hx
  unfold impl_IsNoGood spec_IsNoGood spec_l08Listed
  rw [show (Template.mk x.size x.rels) = x from rfl, show (Instance.mk y.vars y.cons) = y from rfl, h1, h2, bnd_s, bnd_s]
  by_cases hc : c = 0
  · subst hc
    obtain ⟨a1, a2, a3, a4, a5, a6, a7⟩ := h3 rfl
    have hs := (tempB_spec hx a1).1
    obtain ⟨l1, l2⟩ := literals_two hs (show ck (y.vars - 1) = some (y.vars - 1) from ck_eq (by omega) (by omega)) l
    rw [if_neg (by simp), if_pos (by simp), l1, l2, bnd_s, bnd_s]
    cases hl : l.all (litB x y) with
    | false => exact ⟨_, _, rfl, rfl, fun h => by cases h⟩
    | true =>
      obtain ⟨r, c, r1, r2⟩ := bad_two hN (b := b) hs a2 a3 a5 a6 a7 hl
      simp only [Bool.not_true, Bool.false_eq_true, if_false, thn_nx, bnd_s, r1, r2]
      exact ⟨r, c, rfl, rfl, fun _ => ⟨hs, a2, a3, a5, a6, a7, trivial⟩⟩
  · rw [if_pos (by simpa using hc), if_neg (by simpa using hc)]
    simp only [thn_nx, Bool.false_eq_true, if_false, bnd_s]
    rw [if_pos (by simpa using hc)]
    exact ⟨_, _, rfl, rfl, fun h => absurd h hc⟩
end Go.Proofs.YtfepllddlmhjiaaGreat
