/-
  The program's IsOfClass returns what the reference's returns, for all arguments. No condition.
-/
import Derived.Test.YtmfichdcomaaeaaM8
import Derived.Test.YtmfichdcomaaeaaLIsOfClass
import Derived.Test.YtmfichdcomaaeaaP
import Derived.Deep.CutRange
namespace Go.Proofs.Ytmfichdcomaaeaa
set_option linter.unusedVariables false
set_option linter.unusedSimpArgs false
open Go.ChangeShapes Go.WideShapes Go.ChangeAt Go.RowKit Go.Deep
set_option maxRecDepth 100000

theorem law_IsOfClass (x : Template) (k : Int) : laws_FnExactIsOfClass 10 x k = some true := by
  unfold laws_FnExactIsOfClass
  rw [szq_eq (by decide) (by decide), bnd_s]
  by_cases hs : x.sz ≤ 1048576
  · have hz : ¬ szR 1048576 x.sz < 0 := by
      have : (x.sz : Int) ≤ 1048576 := by omega
      unfold szR
      rw [if_pos this]
      omega
    obtain ⟨b, c, h1, h2⟩ := IsOfClass_eq (N := 10) (Nat.le_refl _) (smallT_of hs) k
    simp [hz, toq_eq hs, h1, h2, eqq_eq]
  · have hz : szR 1048576 x.sz < 0 := by
      have : ¬ (x.sz : Int) ≤ 1048576 := by omega
      unfold szR
      rw [if_neg this]
      omega
    simp [hz]
theorem walk_FnExactIsOfClass (v1 : Value) (x : Template) (bs1 : List Nat) {w : World} (h1 : Agg 2 RTemplate w v1 x bs1) (hm1 : InMem bs1 w) (k : Int) (hk : I64 k) :
    Calls Try.prog 10 #[v1, .int .i64 k] w (Says (.bool true) w) :=
  laws_FnExactIsOfClass_c true (law_IsOfClass x k) w ⟨h1, hm1⟩ hk
/-- What the row asks. -/
theorem own_FnExactIsOfClass : ownKnob Try.prog.godebug = none := by kernel_rfl
set_option maxRecDepth 100000 in
theorem lifted_FnExactIsOfClass (os : Os) (started : os.Started) (H : Type) (enc : TypeId × Value → H) :
    ReturnsInHanded {} Try.checked os 10 .any (Rows.fnExactIsOfClassSpec.pre6 enc Try.prog Try.f10 Rows.fnExactIsOfClassRow.domain false) (Rows.fnExactIsOfClassSpec.post enc Try.prog Try.f10 false true false false) := by
  refine returnsInHanded_of_change (C := Try.checked) own_FnExactIsOfClass started (by kernel_rfl) Try.func10
    (ChangeSpec.witness6 (enc := enc) (C := Try.checked) false ⟨#[], #[.agg #[.int .i64 0, .slice none 0 0], .int .i64 0], []⟩ 12 (by kernel_rfl) (by kernel_rfl) (by kernel_rfl) (by kernel_rfl)) ?_
  intro W base args ds gs before hval0 hW hcnd _
  have hval : ∀ (j : Nat) t v, Try.f10.params[j]? = some t → args[j]? = some v → Value.okWide Try.prog W .any base t v := hval0
  have hW' := hW
  obtain ⟨p, q, hA0, hV, rfl, hfz, hnd⟩ := hW
  have hA : DataW.TrodAll enc Try.prog W 0 (fun _ => true) true Try.f10.params.toList args.toList ds p := hA0
  rw [Try.params10] at hA hval
  obtain ⟨v0, vs0, d0, ds0, p0, q0, hargs, rfl, rfl, h0, r0⟩ := trodAll_cons hA
  obtain ⟨v1, vs1, d1, ds1, p1, q1, rfl, rfl, rfl, h1, r1⟩ := trodAll_cons r0
  obtain ⟨rfl, rfl, rfl⟩ := trodAll_nil r1
  obtain rfl : args = #[v0, v1] := by cases args; simp_all
  obtain ⟨rfl, rfl⟩ := trodVars_none hV
  obtain ⟨x0, bs0, g0, m0⟩ := open_agg Try.underlying81 opens_Template (hval 0 81 v0 rfl rfl) h0
  obtain ⟨a1, rfl, rfl, rfl, w1⟩ := open_int Try.underlying2 (hval 1 2 v1 rfl rfl) h1
  have b1 : I64 a1 := bounds_i64 w1
  clear hval0
  have hlt0 : ∀ x ∈ p0, x.block < W.heap.size := fun x hx => hW'.lt x (by simp [hx])
  refine (walk_FnExactIsOfClass v0 x0 bs0 g0 m0 a1 b1).mono fun e W' ⟨he, hg⟩ => ?_
  subst he
  exact ⟨_, rfl, _, _, _, [], _, [], hW', trodAll_cons_mk (shut_bool Try.underlying4 true) trodAll_mk0, (trodAll_cons_mk (Below.trod Try.laidOut (by kernel_rfl) (of_decide_eq_true (by kernel_rfl)) h0 hg hlt0) (trodAll_cons_mk (shut_int Try.underlying2 w1) trodAll_mk0)), rfl, hg.frame _, fun h => by cases h⟩
theorem FnExactIsOfClass_holds : Rows.FnExactIsOfClassSaid :=
  OpenClaim.holds_of_wide 10 Try.f10 rfl rfl rfl rfl rfl rfl rfl ⟨rfl, rfl, rfl, rfl, rfl⟩ rfl rfl rfl rfl rfl (by kernel_rfl) Try.func10 (by kernel_rfl)
    (of_decide_eq_true (by kernel_rfl)) (by unfold Func.isWrapper; first | (rw [if_pos (by decide +kernel)]; kernel_rfl) | (rw [if_neg (by decide +kernel)]; exact ⟨rfl, rfl⟩))
    (fun os started H enc _ => lifted_FnExactIsOfClass os started H enc)
end Go.Proofs.Ytmfichdcomaaeaa
