/-
  Plain laws: verdicts spoilt.
-/
import Derived.Test.YtmfichdcomaaeaaX5
import Derived.Test.YtmfichdcomaaeaaM1
namespace Go.Proofs.Ytmfichdcomaaeaa
set_option linter.unusedVariables false
set_option linter.unusedSimpArgs false

theorem ap_nil {α : Type} {l : List α} (h : l.length ≤ 1048576) : ap [] l = some l := by
  rw [ap_eq (by simp; omega)]
  rfl
theorem sl_take {α : Type} (l : List α) {k : Nat} (h : k ≤ l.length) : sl l 0 (k : Int) = some (l.take k) := by
  unfold sl
  rw [if_pos ⟨by omega, by omega, by omega⟩]
  simp
/-- All but the last. -/
def butLast {α : Type} (l : List α) : List α := l.take (l.length - 1)
theorem cut_spec {α ρ : Type} {l : List α} (h : l.length ≤ 1048576) (k : List α → Option ρ) : thn (σ := List α) (
      if (decide (0 < (l.length : Int))) then
        bnd (ck ((l.length : Int) - 1)) fun z247 =>
        bnd (sl l 0 z247) fun z249 =>
        some (.nx z249)
      else
        some (.nx l)) k = k (butLast l) := by
  by_cases hl : 0 < (l.length : Int)
  · simp only [hl, decide_true, if_true, ck_eq (x := (l.length : Int) - 1) (by omega) (by omega), bnd_s]
    rw [show (l.length : Int) - 1 = ((l.length - 1 : Nat) : Int) by omega, sl_take l (by omega)]
    rfl
  · simp only [hl, decide_false, Bool.false_eq_true, if_false, thn_nx]
    obtain rfl : l = [] := List.length_eq_zero_iff.1 (by omega)
    rfl
theorem cut_impl {α : Type} {l : List α} (h : l.length ≤ 1048576) (c : List α → Option (List α)) (hc : ∀ m : List α, m.length ≤ 1048576 → c m = some m) : (
      bnd (ck ((l.length : Int) - 1)) fun z12 =>
      bnd (sl l 0 (if 0 < z12 then z12 else 0)) fun z14 =>
      bnd (c z14) fun z20 =>
      some z20) = some (butLast l) := by
  rw [ck_eq (x := (l.length : Int) - 1) (by omega) (by omega), bnd_s]
  have e : (if 0 < (l.length : Int) - 1 then (l.length : Int) - 1 else 0) = ((l.length - 1 : Nat) : Int) := by split <;> omega
  rw [e, sl_take l (by omega), bnd_s, hc _ (by rw [List.length_take]; omega)]
  rfl
theorem cloneI {m : List Int} (h : m.length ≤ 1048576) : slices_Clone_s_int64_int64 m = some m := by unfold slices_Clone_s_int64_int64; rw [ap_nil h]; rfl
theorem cloneA {m : List ArcStep} (h : m.length ≤ 1048576) : slices_Clone_s_ArcStep_ArcStep m = some m := by unfold slices_Clone_s_ArcStep_ArcStep; rw [ap_nil h]; rfl
theorem cloneP {m : List PairStep} (h : m.length ≤ 1048576) : slices_Clone_s_PairStep_PairStep m = some m := by unfold slices_Clone_s_PairStep_PairStep; rw [ap_nil h]; rfl
theorem cntS_le {α : Type} {e : α → Nat} (h : ∀ x, e x ≤ 3) : ∀ l : List α, cntS e l ≤ 3 * l.length
  | [] => by simp [cntS]
  | x :: l => by
    have := cntS_le h l
    have := h x
    rw [cntS_cons, List.length_cons]
    omega
theorem SpoiltVerdict_eq (x : Verdict) (h1 : x.values.length ≤ 1048576) (h2 : x.arcs.length ≤ 1048576) (h3 : x.pairs.length ≤ 1048576) (h4 : x.numbers.length ≤ 1048576) :
    ∃ v, spec_SpoiltVerdict x = some v ∧ impl_SpoiltVerdict x = some v ∧ v.cnt ≤ 20000000 := by
  have hcp : spec_l10Copy x = some x := by
    unfold spec_l10Copy spec_l00Own
    simp only [ap_nil h1, ap_nil h2, ap_nil h3, ap_nil h4, bnd_s]
  have how : impl_ownVerdict x = some x := by
    unfold impl_ownVerdict
    simp only [cloneI h1, cloneA h2, cloneP h3, cloneI h4, bnd_s]
  have hcnt : ∀ y : Verdict, y.values.length ≤ 1048576 → y.arcs.length ≤ 1048576 → y.pairs.length ≤ 1048576 → y.numbers.length ≤ 1048576 → y.cnt ≤ 20000000 := fun y k1 k2 k3 k4 => by
    have e1 := cntS_le (e := cI) (fun x => by show (1 : Nat) ≤ 3; omega) y.values
    have e2 := cntS_le (e := ArcStep.ecnt) (fun x => by show 3 + 0 ≤ 3; omega) y.arcs
    have e3 := cntS_le (e := PairStep.ecnt) (fun x => by show 3 + 0 ≤ 3; omega) y.pairs
    have e4 := cntS_le (e := cI) (fun x => by show (1 : Nat) ≤ 3; omega) y.numbers
    unfold Verdict.cnt
    omega
  have hbl : ∀ {α : Type} (l : List α), (butLast l).length ≤ l.length := fun l => by unfold butLast; rw [List.length_take]; omega
  unfold spec_SpoiltVerdict impl_SpoiltVerdict
  rw [show Verdict.mk x.kind x.values x.arcs x.pairs x.numbers = x from rfl, hcp, how, bnd_s, bnd_s]
  by_cases hk : (x.kind == 0) = true
  · simp only [hk, if_true]
    by_cases hl : 0 < (x.values.length : Int)
    · have hx : x.values[0]? = some (x.values[0]'(by omega)) := List.getElem?_eq_getElem (by omega)
      generalize x.values[0]'(by omega) = v at hx
      have hi : ix x.values 0 = some v := ix_of (by omega) hx
      simp only [hl, decide_true, if_true, hi, bnd_s]
      unfold impl_spoiltValue
      by_cases hv : 1 < v
      · simp only [hv, decide_true, if_true, bnd_s, thn_nx]
        exact ⟨_, rfl, rfl, hcnt _ (by simpa using h1) h2 h3 h4⟩
      · simp only [hv, decide_false, Bool.false_eq_true, if_false, bnd_s, thn_nx]
        exact ⟨_, rfl, rfl, hcnt _ (by simpa using h1) h2 h3 h4⟩
    · simp only [hl, decide_false, Bool.false_eq_true, if_false, thn_nx]
      exact ⟨_, rfl, rfl, hcnt _ h1 h2 h3 h4⟩
  · have hk' : (x.kind == 0) = false := by simpa using hk
    simp only [hk', Bool.false_eq_true, if_false]
    rw [cut_spec h2, cut_spec h3]
    have i1 : impl_cut_ArcStep x.arcs = some (butLast x.arcs) := cut_impl h2 _ (fun m hm => cloneA hm)
    have i2 : impl_cut_PairStep x.pairs = some (butLast x.pairs) := cut_impl h3 _ (fun m hm => cloneP hm)
    have i3 : impl_cut_int64 x.numbers = some (butLast x.numbers) := cut_impl h4 _ (fun m hm => cloneI hm)
    rw [i1, i2, i3]
    simp only [bnd_s]
    refine ⟨⟨x.kind, x.values, butLast x.arcs, butLast x.pairs, butLast x.numbers⟩, ?_, rfl, hcnt _ h1 (Nat.le_trans (hbl _) h2) (Nat.le_trans (hbl _) h3) (Nat.le_trans (hbl _) h4)⟩
    by_cases hl : 0 < (x.numbers.length : Int)
    · simp only [hl, decide_true, if_true, ck_eq (x := (x.numbers.length : Int) - 1) (by omega) (by omega), bnd_s]
      rw [show (x.numbers.length : Int) - 1 = ((x.numbers.length - 1 : Nat) : Int) by omega, sl_take x.numbers (by omega)]
      rfl
    · have : butLast x.numbers = x.numbers := by
        have he : x.numbers = [] := List.length_eq_zero_iff.1 (by omega)
        unfold butLast
        rw [he]
        rfl
      simp only [hl, decide_false, Bool.false_eq_true, if_false, this]
end Go.Proofs.Ytmfichdcomaaeaa
