/-
  The program's SpoiltVerdict returns what the reference's returns, for all arguments. No condition.
-/
import Derived.Test.YtmfichdcomaaeaaM9
import Derived.Test.YtmfichdcomaaeaaLSpoiltVerdict
import Derived.Test.YtmfichdcomaaeaaP
import Derived.Deep.CutRange
namespace Go.Proofs.Ytmfichdcomaaeaa
set_option linter.unusedVariables false
set_option linter.unusedSimpArgs false
open Go.ChangeShapes Go.WideShapes Go.ChangeAt Go.RowKit Go.Deep
set_option maxRecDepth 100000

theorem law_SpoiltVerdict (x : Verdict) : laws_FnExactSpoiltVerdict x = some true := by
  unfold laws_FnExactSpoiltVerdict
  rw [szq_eq (by decide) (by decide), bnd_s]
  by_cases hs : x.sz ≤ 1048576
  · have hz : ¬ szR 1048576 x.sz < 0 := by
      have : (x.sz : Int) ≤ 1048576 := by omega
      unfold szR
      rw [if_pos this]
      omega
    have hs2 := hs
    unfold Verdict.sz at hs2
    obtain ⟨v, h1, h2, h3⟩ := SpoiltVerdict_eq x (by omega) (by omega) (by omega) (by omega)
    have hc : x.cnt ≤ 20000000 := by
      have e1 := cntS_le (e := cI) (fun x => by show (1 : Nat) ≤ 3; omega) x.values
      have e2 := cntS_le (e := ArcStep.ecnt) (fun x => by show 3 + 0 ≤ 3; omega) x.arcs
      have e3 := cntS_le (e := PairStep.ecnt) (fun x => by show 3 + 0 ≤ 3; omega) x.pairs
      have e4 := cntS_le (e := cI) (fun x => by show (1 : Nat) ≤ 3; omega) x.numbers
      unfold Verdict.cnt
      omega
    have hk : mkq 1 x.cnt = some (1 + (x.cnt : Nat)) := mkq_eq (by decide) (by omega)
    have hl : mkq 1 v.cnt = some (1 + (v.cnt : Nat)) := mkq_eq (by decide) (by omega)
    have n1 : ¬ (1 + (x.cnt : Int) < 0) := by omega
    have n2 : ¬ (1 + (v.cnt : Int) < 0) := by omega
    simp [hz, toq_eq hs, h1, h2, eqq_eq, hk, hl, n1, n2]
  · have hz : szR 1048576 x.sz < 0 := by
      have : ¬ (x.sz : Int) ≤ 1048576 := by omega
      unfold szR
      rw [if_neg this]
      omega
    simp [hz]
theorem walk_FnExactSpoiltVerdict (v1 : Value) (x : Verdict) (bs1 : List Nat) {w : World} (h1 : Agg 5 RVerdict w v1 x bs1) (hm1 : InMem bs1 w) :
    Calls Try.prog 8 #[v1] w (Says (.bool true) w) :=
  laws_FnExactSpoiltVerdict_c true (law_SpoiltVerdict x) w ⟨h1, hm1⟩
/-- What the row asks. -/
theorem own_FnExactSpoiltVerdict : ownKnob Try.prog.godebug = none := by kernel_rfl
set_option maxRecDepth 100000 in
theorem lifted_FnExactSpoiltVerdict (os : Os) (started : os.Started) (H : Type) (enc : TypeId × Value → H) :
    ReturnsInHanded {} Try.checked os 8 .any (Rows.fnExactSpoiltVerdictSpec.pre6 enc Try.prog Try.f8 Rows.fnExactSpoiltVerdictRow.domain false) (Rows.fnExactSpoiltVerdictSpec.post enc Try.prog Try.f8 false true false false) := by
  refine returnsInHanded_of_change (C := Try.checked) own_FnExactSpoiltVerdict started (by kernel_rfl) Try.func8
    (ChangeSpec.witness6 (enc := enc) (C := Try.checked) false ⟨#[], #[.agg #[.int .i64 0, .slice none 0 0, .slice none 0 0, .slice none 0 0, .slice none 0 0]], []⟩ 12 (by kernel_rfl) (by kernel_rfl) (by kernel_rfl) (by kernel_rfl)) ?_
  intro W base args ds gs before hval0 hW hcnd _
  have hval : ∀ (j : Nat) t v, Try.f8.params[j]? = some t → args[j]? = some v → Value.okWide Try.prog W .any base t v := hval0
  have hW' := hW
  obtain ⟨p, q, hA0, hV, rfl, hfz, hnd⟩ := hW
  have hA : DataW.TrodAll enc Try.prog W 0 (fun _ => true) true Try.f8.params.toList args.toList ds p := hA0
  rw [Try.params8] at hA hval
  obtain ⟨v0, vs0, d0, ds0, p0, q0, hargs, rfl, rfl, h0, r0⟩ := trodAll_cons hA
  obtain ⟨rfl, rfl, rfl⟩ := trodAll_nil r0
  obtain rfl : args = #[v0] := by cases args; simp_all
  obtain ⟨rfl, rfl⟩ := trodVars_none hV
  obtain ⟨x0, bs0, g0, m0⟩ := open_agg Try.underlying68 opens_Verdict (hval 0 68 v0 rfl rfl) h0
  clear hval0
  have hlt0 : ∀ x ∈ p0, x.block < W.heap.size := fun x hx => hW'.lt x (by simp [hx])
  refine (walk_FnExactSpoiltVerdict v0 x0 bs0 g0 m0).mono fun e W' ⟨he, hg⟩ => ?_
  subst he
  exact ⟨_, rfl, _, _, _, [], _, [], hW', trodAll_cons_mk (shut_bool Try.underlying4 true) trodAll_mk0, (trodAll_cons_mk (Below.trod Try.laidOut (by kernel_rfl) (of_decide_eq_true (by kernel_rfl)) h0 hg hlt0) trodAll_mk0), rfl, hg.frame _, fun h => by cases h⟩
theorem FnExactSpoiltVerdict_holds : Rows.FnExactSpoiltVerdictSaid :=
  OpenClaim.holds_of_wide 8 Try.f8 rfl rfl rfl rfl rfl rfl rfl ⟨rfl, rfl, rfl, rfl, rfl⟩ rfl rfl rfl rfl rfl (by kernel_rfl) Try.func8 (by kernel_rfl)
    (of_decide_eq_true (by kernel_rfl)) (by unfold Func.isWrapper; first | (rw [if_pos (by decide +kernel)]; kernel_rfl) | (rw [if_neg (by decide +kernel)]; exact ⟨rfl, rfl⟩))
    (fun os started H enc _ => lifted_FnExactSpoiltVerdict os started H enc)
end Go.Proofs.Ytmfichdcomaaeaa
