/-
  The program's ValidGadgets returns what the reference's returns, for all arguments. No condition.
-/
import Derived.Test.YtmgdjaiaekhkgaaGreatMG
import Derived.Test.YtmgdjaiaekhkgaaGreatLValidGadgets
import Derived.Test.YtmgdjaiaekhkgaaGreatP
import Derived.Test.YtmgdjaiaekhkgaaGreatJF
import Derived.Deep.CutRange
namespace Go.Proofs.YtmgdjaiaekhkgaaGreat
set_option linter.unusedVariables false
set_option linter.unusedSimpArgs false
open Go.ChangeShapes Go.WideShapes Go.ChangeAt Go.RowKit Go.Deep
set_option maxRecDepth 100000

theorem law_ValidGadgets {N : Nat} (hN : 1100 ≤ N) (x y : Template) (g : Gadgets) : laws_FnExactValidGadgets N x y g = some true := by
  unfold laws_FnExactValidGadgets
  obtain ⟨z, h1, h2⟩ := szq_two (left := 1048576) (n := x.sz) (by decide) (by decide)
  rw [h1, bnd_s]
  rcases h2 with h2 | ⟨h2, h3, h4⟩
  · rw [h2]; rfl
  · obtain ⟨z', h1', h2'⟩ := szq_two (left := z) (n := y.sz) (by omega) (by omega)
    rw [h2, if_neg (by simp), h1', bnd_s]
    rcases h2' with h2' | ⟨h2', h3', h4'⟩
    · rw [h2']; rfl
    · obtain ⟨z2, h12, h22⟩ := szq_two (left := z') (n := g.sz) (by omega) (by omega)
      rw [h2', if_neg (by simp), h12, bnd_s]
      rcases h22 with h22 | ⟨h22, h32, h42⟩
      · rw [h22]; rfl
      · have hx : x.sz ≤ 1048576 := by omega
        have hy : y.sz ≤ 1048576 := by omega
        have hg : g.sz ≤ 1048576 := by omega
        obtain ⟨e1, e2⟩ := ValidGadgets_two (g := g) (smallT_of hx) (smallT_of hy) hN
        rw [h22, if_neg (by simp), toq_eq hx, toq_eq hy, toq_eq hg, bnd_s, bnd_s, bnd_s, e1, e2]
        simp [eqq_eq]
theorem walk_FnExactValidGadgets (v1 : Value) (x : Template) (bs1 : List Nat) {w : World} (h1 : Agg 2 RTemplate w v1 x bs1) (hm1 : InMem bs1 w) (v2 : Value) (y : Template) (bs2 : List Nat) (h2 : Agg 2 RTemplate w v2 y bs2) (hm2 : InMem bs2 w) (v3 : Value) (g : Gadgets) (bs3 : List Nat) (h3 : Agg 1 RGadgets w v3 g bs3) (hm3 : InMem bs3 w) :
    Calls Tryz.prog 3 #[v1, v2, v3] w (Says (.bool true) w) := by
  obtain ⟨N, hN⟩ : ∃ N, 1100 ≤ N := ⟨_, Nat.le_refl _⟩
  exact laws_FnExactValidGadgets_c (B := All w) true (law_ValidGadgets hN x y g) w aA (Bo.of ⟨h1, hm1⟩) (Bo.of ⟨h2, hm2⟩) (Bo.of ⟨h3, hm3⟩)
theorem jn_FnExactValidGadgets : Tryz.prog.funcNamed Rows.fnExactValidGadgetsRow.func = some 3 := by kernel_rfl
theorem ji_FnExactValidGadgets : Tryz.prog.inPlace 3 = Rows.fnExactValidGadgetsRow.inPlace := by kernel_rfl
theorem ju_FnExactValidGadgets : Tryz.prog.unfollowed 3 = Rows.fnExactValidGadgetsRow.unfollowed := by kernel_rfl
theorem jr_FnExactValidGadgets : Tryz.prog.recurses 3 = Rows.fnExactValidGadgetsRow.recurses := by kernel_rfl
theorem jv_FnExactValidGadgets : Tryz.prog.varsNamed 3 = Rows.fnExactValidGadgetsRow.named := by kernel_rfl
theorem jj_FnExactValidGadgets : joinedFacts Tryz.prog 3 Tryz.f3 Rows.fnExactValidGadgetsSpec Rows.fnExactValidGadgetsRow = true := by
  unfold joinedFacts
  rw [jf_laid, jf_maps, jf_keys, jf_heard, jf_enter, jf_lifts, ji_FnExactValidGadgets, ju_FnExactValidGadgets, jr_FnExactValidGadgets, jv_FnExactValidGadgets]
  kernel_rfl
/-- What the row asks. -/
theorem own_FnExactValidGadgets : ownKnob Tryz.prog.godebug = none := by kernel_rfl
set_option maxRecDepth 100000 in
theorem lifted_FnExactValidGadgets (os : Os) (started : os.Started) (H : Type) (enc : TypeId × Value → H) :
    ReturnsInHanded {} Tryz.checked os 3 .any (Rows.fnExactValidGadgetsSpec.pre6 enc Tryz.prog Tryz.f3 Rows.fnExactValidGadgetsRow.domain false) (Rows.fnExactValidGadgetsSpec.post enc Tryz.prog Tryz.f3 false true false false) := by
  refine returnsInHanded_of_change (C := Tryz.checked) own_FnExactValidGadgets started (by kernel_rfl) Tryz.func3
    (ChangeSpec.witness6 (enc := enc) (C := Tryz.checked) false ⟨#[], #[.agg #[.int .i64 0, .slice none 0 0], .agg #[.int .i64 0, .slice none 0 0], .agg #[.slice none 0 0]], []⟩ 12 (by kernel_rfl) (by kernel_rfl) (by kernel_rfl) (by kernel_rfl)) ?_
  intro W base args ds gs before hval0 hW hcnd _
  have hval : ∀ (j : Nat) t v, Tryz.f3.params[j]? = some t → args[j]? = some v → Value.okWide Tryz.prog W .any base t v := hval0
  have hW' := hW
  obtain ⟨p, q, hA0, hV, rfl, hfz, hnd⟩ := hW
  have hA : DataW.TrodAll enc Tryz.prog W 0 (fun _ => true) true Tryz.f3.params.toList args.toList ds p := hA0
  rw [Tryz.params3] at hA hval
  obtain ⟨v0, vs0, d0, ds0, p0, q0, hargs, rfl, rfl, h0, r0⟩ := trodAll_cons hA
  obtain ⟨v1, vs1, d1, ds1, p1, q1, rfl, rfl, rfl, h1, r1⟩ := trodAll_cons r0
  obtain ⟨v2, vs2, d2, ds2, p2, q2, rfl, rfl, rfl, h2, r2⟩ := trodAll_cons r1
  obtain ⟨rfl, rfl, rfl⟩ := trodAll_nil r2
  obtain rfl : args = #[v0, v1, v2] := by cases args; simp_all
  obtain ⟨rfl, rfl⟩ := trodVars_none hV
  obtain ⟨x0, bs0, g0, m0⟩ := open_agg Tryz.underlying24 opens_Template (hval 0 24 v0 rfl rfl) h0
  obtain ⟨x1, bs1, g1, m1⟩ := open_agg Tryz.underlying24 opens_Template (hval 1 24 v1 rfl rfl) h1
  obtain ⟨x2, bs2, g2, m2⟩ := open_agg Tryz.underlying27 opens_Gadgets (hval 2 27 v2 rfl rfl) h2
  clear hval0
  have hlt0 : ∀ x ∈ p0, x.block < W.heap.size := fun x hx => hW'.lt x (by simp [hx])
  have hlt1 : ∀ x ∈ p1, x.block < W.heap.size := fun x hx => hW'.lt x (by simp [hx])
  have hlt2 : ∀ x ∈ p2, x.block < W.heap.size := fun x hx => hW'.lt x (by simp [hx])
  refine (walk_FnExactValidGadgets v0 x0 bs0 g0 m0 v1 x1 bs1 g1 m1 v2 x2 bs2 g2 m2).mono fun e W' ⟨he, hg⟩ => ?_
  subst he
  exact ⟨_, rfl, _, _, _, [], _, [], hW', trodAll_cons_mk (shut_bool Tryz.underlying4 true) trodAll_mk0, (trodAll_cons_mk (Below.trod Tryz.laidOut (by kernel_rfl) (of_decide_eq_true (by kernel_rfl)) h0 hg hlt0) (trodAll_cons_mk (Below.trod Tryz.laidOut (by kernel_rfl) (of_decide_eq_true (by kernel_rfl)) h1 hg hlt1) (trodAll_cons_mk (Below.trod Tryz.laidOut (by kernel_rfl) (of_decide_eq_true (by kernel_rfl)) h2 hg hlt2) trodAll_mk0))), rfl, hg.frame _, fun h => by cases h⟩
theorem jw_FnExactValidGadgets : Tryz.f3.isInstance Tryz.prog Rows.fnExactValidGadgetsRow.origin Rows.fnExactValidGadgetsRow.targs := of_decide_eq_true (by kernel_rfl)
theorem jx_FnExactValidGadgets : Tryz.f3.isWrapper Tryz.prog Rows.fnExactValidGadgetsRow.wrapper Rows.fnExactValidGadgetsRow.mainSum := by unfold Func.isWrapper; first | (rw [if_pos (by decide +kernel)]; kernel_rfl) | (rw [if_neg (by decide +kernel)]; exact ⟨rfl, rfl⟩)
theorem FnExactValidGadgets_holds : Rows.FnExactValidGadgetsSaid :=
  OpenClaim.holds_of_wide 3 Tryz.f3 rfl rfl rfl rfl rfl rfl rfl ⟨rfl, rfl, rfl, rfl, rfl⟩ rfl rfl rfl rfl rfl jn_FnExactValidGadgets Tryz.func3 jj_FnExactValidGadgets jw_FnExactValidGadgets jx_FnExactValidGadgets
    (fun os started H enc _ => lifted_FnExactValidGadgets os started H enc)
end Go.Proofs.YtmgdjaiaekhkgaaGreat
