/-
  The program's WhyNotClass returns what the reference's returns, for all arguments. No condition.
-/
import Derived.Test.YtfepllddlmhjiaaM8
import Derived.Test.YtfepllddlmhjiaaLWhyNotClass
import Derived.Test.YtfepllddlmhjiaaP
import Derived.Deep.CutRange
namespace Go.Proofs.Ytfepllddlmhjiaa
set_option linter.unusedVariables false
set_option linter.unusedSimpArgs false
open Go.ChangeShapes Go.WideShapes Go.ChangeAt Go.RowKit Go.Deep
set_option maxRecDepth 100000

theorem law_WhyNotClass (x : Template) (k : Int) : laws_FnExactWhyNotClass 10 x k = some true := by
  unfold laws_FnExactWhyNotClass
  rw [szq_eq (by decide) (by decide), bnd_s]
  by_cases hs : x.sz ≤ 1048576
  · have hz : ¬ szR 1048576 x.sz < 0 := by
      have : (x.sz : Int) ≤ 1048576 := by omega
      unfold szR
      rw [if_pos this]
      omega
    obtain ⟨z, sel, R, c, h1, h2, h3, h4, h5⟩ := WhyNotClass_two (N := 10) (Nat.le_refl _) (smallT_of hs) k
    have hc : x.cnt ≤ 104857600 := cntT hs
    have hk : mkq 1 x.cnt = some (1 + (x.cnt : Nat)) := mkq_eq (by decide) (by omega)
    have hg : cntS List.length sel ≤ 12 := by
      have : ∀ l : List (List Int), (∀ d ∈ l, d.length ≤ 4) → cntS List.length l ≤ l.length * 4 := by
        intro l
        induction l with
        | nil => intro _; simp [cntS]
        | cons d l ih =>
          intro h
          rw [cntS_cons]
          have := ih (fun u hu => h u (by simp [hu]))
          have := h d (by simp)
          rw [List.length_cons]
          omega
      have := this sel h4
      omega
    have hR : cntS cI R ≤ 4 := by rw [cntI]; exact h5
    have hl : mkq 1 (cntS List.length sel) = some (1 + (cntS List.length sel : Nat)) := mkq_eq (by decide) (by omega)
    have hl2 : mkq (1 + (cntS List.length sel : Int)) (cntS cI R) = some (1 + (cntS List.length sel : Int) + (cntS cI R : Nat)) := mkq_eq (by omega) (by omega)
    have n1 : ¬ (1 + (x.cnt : Int) < 0) := by omega
    have n2 : ¬ (1 + (cntS List.length sel : Int) < 0) := by omega
    have n3 : ¬ (1 + (cntS List.length sel : Int) + (cntS cI R : Int) < 0) := by omega
    simp [hz, toq_eq hs, h1, h2, eqq_eq, hk, hl, hl2, n1, n2, n3]
  · have hz : szR 1048576 x.sz < 0 := by
      have : ¬ (x.sz : Int) ≤ 1048576 := by omega
      unfold szR
      rw [if_neg this]
      omega
    simp [hz]
theorem walk_FnExactWhyNotClass (v1 : Value) (x : Template) (bs1 : List Nat) {w : World} (h1 : Agg 2 RTemplate w v1 x bs1) (hm1 : InMem bs1 w) (k : Int) (hk : I64 k) :
    Calls Try.prog 3 #[v1, .int .i64 k] w (Says (.bool true) w) :=
  laws_FnExactWhyNotClass_c true (law_WhyNotClass x k) w ⟨h1, hm1⟩ hk
/-- What the row asks. -/
theorem own_FnExactWhyNotClass : ownKnob Try.prog.godebug = none := by kernel_rfl
set_option maxRecDepth 100000 in
theorem lifted_FnExactWhyNotClass (os : Os) (started : os.Started) (H : Type) (enc : TypeId × Value → H) :
    ReturnsInHanded {} Try.checked os 3 .any (Rows.fnExactWhyNotClassSpec.pre6 enc Try.prog Try.f3 Rows.fnExactWhyNotClassRow.domain false) (Rows.fnExactWhyNotClassSpec.post enc Try.prog Try.f3 false true false false) := by
  refine returnsInHanded_of_change (C := Try.checked) own_FnExactWhyNotClass started (by kernel_rfl) Try.func3
    (ChangeSpec.witness6 (enc := enc) (C := Try.checked) false ⟨#[], #[.agg #[.int .i64 0, .slice none 0 0], .int .i64 0], []⟩ 12 (by kernel_rfl) (by kernel_rfl) (by kernel_rfl) (by kernel_rfl)) ?_
  intro W base args ds gs before hval0 hW hcnd _
  have hval : ∀ (j : Nat) t v, Try.f3.params[j]? = some t → args[j]? = some v → Value.okWide Try.prog W .any base t v := hval0
  have hW' := hW
  obtain ⟨p, q, hA0, hV, rfl, hfz, hnd⟩ := hW
  have hA : DataW.TrodAll enc Try.prog W 0 (fun _ => true) true Try.f3.params.toList args.toList ds p := hA0
  rw [Try.params3] at hA hval
  obtain ⟨v0, vs0, d0, ds0, p0, q0, hargs, rfl, rfl, h0, r0⟩ := trodAll_cons hA
  obtain ⟨v1, vs1, d1, ds1, p1, q1, rfl, rfl, rfl, h1, r1⟩ := trodAll_cons r0
  obtain ⟨rfl, rfl, rfl⟩ := trodAll_nil r1
  obtain rfl : args = #[v0, v1] := by cases args; simp_all
  obtain ⟨rfl, rfl⟩ := trodVars_none hV
  obtain ⟨x0, bs0, g0, m0⟩ := open_agg Try.underlying24 opens_Template (hval 0 24 v0 rfl rfl) h0
  obtain ⟨a1, rfl, rfl, rfl, w1⟩ := open_int Try.underlying2 (hval 1 2 v1 rfl rfl) h1
  have b1 : I64 a1 := bounds_i64 w1
  clear hval0
  have hlt0 : ∀ x ∈ p0, x.block < W.heap.size := fun x hx => hW'.lt x (by simp [hx])
  refine (walk_FnExactWhyNotClass v0 x0 bs0 g0 m0 a1 b1).mono fun e W' ⟨he, hg⟩ => ?_
  subst he
  exact ⟨_, rfl, _, _, _, [], _, [], hW', trodAll_cons_mk (shut_bool Try.underlying4 true) trodAll_mk0, (trodAll_cons_mk (Below.trod Try.laidOut (by kernel_rfl) (of_decide_eq_true (by kernel_rfl)) h0 hg hlt0) (trodAll_cons_mk (shut_int Try.underlying2 w1) trodAll_mk0)), rfl, hg.frame _, fun h => by cases h⟩
theorem FnExactWhyNotClass_holds : Rows.FnExactWhyNotClassSaid :=
  OpenClaim.holds_of_wide 3 Try.f3 rfl rfl rfl rfl rfl rfl rfl ⟨rfl, rfl, rfl, rfl, rfl⟩ rfl rfl rfl rfl rfl (by kernel_rfl) Try.func3 (by kernel_rfl)
    (of_decide_eq_true (by kernel_rfl)) (by unfold Func.isWrapper; first | (rw [if_pos (by decide +kernel)]; kernel_rfl) | (rw [if_neg (by decide +kernel)]; exact ⟨rfl, rfl⟩))
    (fun os started H enc _ => lifted_FnExactWhyNotClass os started H enc)
end Go.Proofs.Ytfepllddlmhjiaa
