/-
  Plain laws: templates that are well made, atoms, own gadgets.
-/
import Derived.Test.YtmgdjaiaekhkgaaGreatM2
namespace Go.Proofs.YtmgdjaiaekhkgaaGreat
set_option linter.unusedVariables false
set_option linter.unusedSimpArgs false

def relB' (s : Int) (x : Rel) : Bool := (impl_ValidRel s x).getD false
theorem relB_eq (s : Int) (x : Rel) (hN : x.tuples.length ≤ 1048576) : spec_l01Ok s x = some (relB' s x) ∧ impl_ValidRel s x = some (relB' s x) ∧ (relB' s x = true → okS s = true ∧ okS x.arity = true ∧ ∀ t ∈ x.tuples, areB s t x.arity = true) := by
  obtain ⟨b, h1, h2, h3⟩ := relOk s x hN
  have : relB' s x = b := by unfold relB'; rw [h2]; rfl
  rw [this]
  exact ⟨h1, h2, h3⟩
theorem containsR_eq (l : List Rel) (p : Rel → Bool) (f : Rel → Option Bool) (hf : ∀ x ∈ l, f x = some (p x)) : zG l f = some (l.any p) := by
  obtain ⟨i, h1, h2⟩ := forL_idx l p f hf
  unfold zG
  rw [show kO l f = some i from h1, bnd_s, h2]
def tempB (x : Template) : Bool := okS x.size && (decide ((x.rels.length : Int) ≤ 6) && x.rels.all (relB' x.size))
def smallT (x : Template) : Prop := ∀ r ∈ x.rels, r.tuples.length ≤ 1048576
theorem smallT_of {x : Template} (h : x.sz ≤ 1048576) : smallT x := fun r hr => by
  obtain ⟨i, hi, rfl⟩ := List.mem_iff_getElem.1 hr
  have h1 := le_szS (c := Rel.sz) (List.getElem?_eq_getElem hi)
  unfold Template.sz at h
  have h2 : (x.rels[i]).tuples.length ≤ (x.rels[i]).sz := by unfold Rel.sz szS; omega
  omega
theorem l01Template_eq (x : Template) (hx : smallT x) : kI x = some (tempB x) := by
  unfold kI
  rw [forL_fnd (fun _ r => if !relB' x.size r then some false else none) (fun j r hj => by
    simp only [(relB_eq x.size r (hx r (List.mem_of_getElem? hj))).1, bnd_s]
    by_cases hv : relB' x.size r = true
    · simp [hv, ctlO]
    · simp [hv, ctlO])]
  rw [fnd_any]
  unfold tempB
  by_cases ha : x.rels.all (relB' x.size) = true
  · have : x.rels.any (fun r => !relB' x.size r) = false := by simpa using ha
    rw [this, ha]
    simp only [outO, Bool.false_eq_true, if_false, thn_nx, l01Size_eq, bnd_s]
    by_cases hs : okS x.size = true
    · simp [hs]
    · have hs' : okS x.size = false := by simpa using hs
      simp [hs']
  · have ha' : x.rels.all (relB' x.size) = false := by simpa using ha
    have : x.rels.any (fun r => !relB' x.size r) = true := by simpa using ha'
    rw [this, ha']
    simp [outO]
theorem ValidTemplate_eq (x : Template) (hx : smallT x) : vK x = some (tempB x) := by
  unfold vK tempB
  rw [isSize_eq, containsR_eq x.rels (fun r => !relB' x.size r) _ (fun r hr => by
    unfold impl_ValidTemplate_1
    rw [show Rel.mk r.arity r.tuples = r from rfl, show (Template.mk x.size x.rels).size = x.size from rfl, (relB_eq x.size r (hx r hr)).2.1]
    rfl)]
  simp only [bnd_s]
  by_cases hs : okS x.size = true
  · by_cases hl : (x.rels.length : Int) ≤ 6
    · simp only [hs, hl, decide_true, if_true, thn_nx, Bool.true_and]
      congr 1
      rw [Bool.eq_iff_iff]
      simp
    · simp [hs, hl]
  · have hs' : okS x.size = false := by simpa using hs
    simp [hs']
theorem cntS_le_szS {α : Type} {e c : α → Nat} (h : ∀ x, e x ≤ 10 * (1 + c x)) : ∀ l : List α, qM e l ≤ 10 * szS c l
  | [] => by simp [qM]
  | x :: l => by
    have h1 := cntS_le_szS h l
    have h2 := h x
    rw [cntS_cons]
    unfold szS at h1 ⊢
    rw [List.length_cons, List.map_cons, List.sum_cons]
    omega
theorem cntR (r : Rel) : r.ecnt ≤ 10 * (1 + r.sz) := by
  have : qM List.length r.tuples ≤ r.sz := by unfold Rel.sz szS qM; omega
  unfold Rel.ecnt Rel.cnt
  omega
theorem cntT {x : Template} (h : x.sz ≤ 1048576) : x.cnt ≤ 104857600 := by
  have := cntS_le_szS cntR x.rels
  unfold Template.sz at h
  unfold Template.cnt
  omega
end Go.Proofs.YtmgdjaiaekhkgaaGreat
