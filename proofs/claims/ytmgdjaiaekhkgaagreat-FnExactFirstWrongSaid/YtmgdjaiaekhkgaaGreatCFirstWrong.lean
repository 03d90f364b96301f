/-
  The program's FirstWrong returns what the reference's returns, for all arguments. No condition.
-/
import Derived.Test.YtmgdjaiaekhkgaaGreatMG
import Derived.Test.YtmgdjaiaekhkgaaGreatLFirstWrong
import Derived.Test.YtmgdjaiaekhkgaaGreatP
import Derived.Test.YtmgdjaiaekhkgaaGreatJF
import Derived.Deep.CutRange
namespace Go.Proofs.YtmgdjaiaekhkgaaGreat
set_option linter.unusedVariables false
set_option linter.unusedSimpArgs false
open Go.ChangeShapes Go.WideShapes Go.ChangeAt Go.RowKit Go.Deep
set_option maxRecDepth 100000

theorem law_FirstWrong {N : Nat} (hN : 1100 ≤ N) (x y : Template) (g : Gadgets) : laws_FnExactFirstWrong N x y g = some true := by
  unfold laws_FnExactFirstWrong
  obtain ⟨z, h1, h2⟩ := szq_two (left := 1048576) (n := x.sz) (by decide) (by decide)
  rw [h1, bnd_s]
  rcases h2 with h2 | ⟨h2, h3, h4⟩
  · rw [h2]; rfl
  · obtain ⟨z', h1', h2'⟩ := szq_two (left := z) (n := y.sz) (by omega) (by omega)
    rw [h2, if_neg (by simp), h1', bnd_s]
    rcases h2' with h2' | ⟨h2', h3', h4'⟩
    · rw [h2']; rfl
    · obtain ⟨z2, h12, h22⟩ := szq_two (left := z') (n := g.sz) (by omega) (by omega)
      rw [h2', if_neg (by simp), h12, bnd_s]
      rcases h22 with h22 | ⟨h22, h32, h42⟩
      · rw [h22]; rfl
      · have hx : x.sz ≤ 1048576 := by omega
        have hy : y.sz ≤ 1048576 := by omega
        have hg : g.sz ≤ 1048576 := by omega
        obtain ⟨e1, e2⟩ := FirstWrong_two (g := g) (smallT_of hx) (smallT_of hy) hN
        have hc := cntT hx
        have hd := cntT hy
        have he := cntGa hg
        have hl := wrongR_len (g := g) (smallT_of hx) (smallT_of hy)
        generalize wrongR x y g = r at e1 e2 hl
        have hk : mkq 1 x.cnt = some (1 + (x.cnt : Nat)) := mkq_eq (by decide) (by omega)
        have hk2 : mkq (1 + (x.cnt : Int)) y.cnt = some (1 + (x.cnt : Int) + (y.cnt : Nat)) := mkq_eq (by omega) (by omega)
        have hk3 : mkq (1 + (x.cnt : Int) + (y.cnt : Int)) g.cnt = some (1 + (x.cnt : Int) + (y.cnt : Int) + (g.cnt : Nat)) := mkq_eq (by omega) (by omega)
        have hq : cntS cI r.2.1 ≤ 4 := by rw [cntI]; exact hl
        have hk4 : mkq 1 (cntS cI r.2.1) = some (1 + (cntS cI r.2.1 : Nat)) := mkq_eq (by decide) (by omega)
        have n1 : ¬ (1 + (x.cnt : Int) + (y.cnt : Int) + (g.cnt : Int) < 0) := by omega
        have n2 : ¬ (1 + (cntS cI r.2.1 : Int) < 0) := by omega
        rw [h22, if_neg (by simp), toq_eq hx, toq_eq hy, toq_eq hg, bnd_s, bnd_s, bnd_s, e1, e2]
        simp [eqq_eq, hk, hk2, hk3, hk4, n1, n2]
theorem walk_FnExactFirstWrong (v1 : Value) (x : Template) (bs1 : List Nat) {w : World} (h1 : Agg 2 RTemplate w v1 x bs1) (hm1 : InMem bs1 w) (v2 : Value) (y : Template) (bs2 : List Nat) (h2 : Agg 2 RTemplate w v2 y bs2) (hm2 : InMem bs2 w) (v3 : Value) (g : Gadgets) (bs3 : List Nat) (h3 : Agg 1 RGadgets w v3 g bs3) (hm3 : InMem bs3 w) :
    Calls Tryz.prog 4 #[v1, v2, v3] w (Says (.bool true) w) := by
  obtain ⟨N, hN⟩ : ∃ N, 1100 ≤ N := ⟨_, Nat.le_refl _⟩
  exact laws_FnExactFirstWrong_c (B := All w) true (law_FirstWrong hN x y g) w aA (Bo.of ⟨h1, hm1⟩) (Bo.of ⟨h2, hm2⟩) (Bo.of ⟨h3, hm3⟩)
theorem jn_FnExactFirstWrong : Tryz.prog.funcNamed Rows.fnExactFirstWrongRow.func = some 4 := by kernel_rfl
theorem ji_FnExactFirstWrong : Tryz.prog.inPlace 4 = Rows.fnExactFirstWrongRow.inPlace := by kernel_rfl
theorem ju_FnExactFirstWrong : Tryz.prog.unfollowed 4 = Rows.fnExactFirstWrongRow.unfollowed := by kernel_rfl
theorem jr_FnExactFirstWrong : Tryz.prog.recurses 4 = Rows.fnExactFirstWrongRow.recurses := by kernel_rfl
theorem jv_FnExactFirstWrong : Tryz.prog.varsNamed 4 = Rows.fnExactFirstWrongRow.named := by kernel_rfl
theorem jj_FnExactFirstWrong : joinedFacts Tryz.prog 4 Tryz.f4 Rows.fnExactFirstWrongSpec Rows.fnExactFirstWrongRow = true := by
  unfold joinedFacts
  rw [jf_laid, jf_maps, jf_keys, jf_heard, jf_enter, jf_lifts, ji_FnExactFirstWrong, ju_FnExactFirstWrong, jr_FnExactFirstWrong, jv_FnExactFirstWrong]
  kernel_rfl
/-- What the row asks. -/
theorem own_FnExactFirstWrong : ownKnob Tryz.prog.godebug = none := by kernel_rfl
set_option maxRecDepth 100000 in
theorem lifted_FnExactFirstWrong (os : Os) (started : os.Started) (H : Type) (enc : TypeId × Value → H) :
    ReturnsInHanded {} Tryz.checked os 4 .any (Rows.fnExactFirstWrongSpec.pre6 enc Tryz.prog Tryz.f4 Rows.fnExactFirstWrongRow.domain false) (Rows.fnExactFirstWrongSpec.post enc Tryz.prog Tryz.f4 false true false false) := by
  refine returnsInHanded_of_change (C := Tryz.checked) own_FnExactFirstWrong started (by kernel_rfl) Tryz.func4
    (ChangeSpec.witness6 (enc := enc) (C := Tryz.checked) false ⟨#[], #[.agg #[.int .i64 0, .slice none 0 0], .agg #[.int .i64 0, .slice none 0 0], .agg #[.slice none 0 0]], []⟩ 12 (by kernel_rfl) (by kernel_rfl) (by kernel_rfl) (by kernel_rfl)) ?_
  intro W base args ds gs before hval0 hW hcnd _
  have hval : ∀ (j : Nat) t v, Tryz.f4.params[j]? = some t → args[j]? = some v → Value.okWide Tryz.prog W .any base t v := hval0
  have hW' := hW
  obtain ⟨p, q, hA0, hV, rfl, hfz, hnd⟩ := hW
  have hA : DataW.TrodAll enc Tryz.prog W 0 (fun _ => true) true Tryz.f4.params.toList args.toList ds p := hA0
  rw [Tryz.params4] at hA hval
  obtain ⟨v0, vs0, d0, ds0, p0, q0, hargs, rfl, rfl, h0, r0⟩ := trodAll_cons hA
  obtain ⟨v1, vs1, d1, ds1, p1, q1, rfl, rfl, rfl, h1, r1⟩ := trodAll_cons r0
  obtain ⟨v2, vs2, d2, ds2, p2, q2, rfl, rfl, rfl, h2, r2⟩ := trodAll_cons r1
  obtain ⟨rfl, rfl, rfl⟩ := trodAll_nil r2
  obtain rfl : args = #[v0, v1, v2] := by cases args; simp_all
  obtain ⟨rfl, rfl⟩ := trodVars_none hV
  obtain ⟨x0, bs0, g0, m0⟩ := open_agg Tryz.underlying24 opens_Template (hval 0 24 v0 rfl rfl) h0
  obtain ⟨x1, bs1, g1, m1⟩ := open_agg Tryz.underlying24 opens_Template (hval 1 24 v1 rfl rfl) h1
  obtain ⟨x2, bs2, g2, m2⟩ := open_agg Tryz.underlying27 opens_Gadgets (hval 2 27 v2 rfl rfl) h2
  clear hval0
  have hlt0 : ∀ x ∈ p0, x.block < W.heap.size := fun x hx => hW'.lt x (by simp [hx])
  have hlt1 : ∀ x ∈ p1, x.block < W.heap.size := fun x hx => hW'.lt x (by simp [hx])
  have hlt2 : ∀ x ∈ p2, x.block < W.heap.size := fun x hx => hW'.lt x (by simp [hx])
  refine (walk_FnExactFirstWrong v0 x0 bs0 g0 m0 v1 x1 bs1 g1 m1 v2 x2 bs2 g2 m2).mono fun e W' ⟨he, hg⟩ => ?_
  subst he
  exact ⟨_, rfl, _, _, _, [], _, [], hW', trodAll_cons_mk (shut_bool Tryz.underlying4 true) trodAll_mk0, (trodAll_cons_mk (Below.trod Tryz.laidOut (by kernel_rfl) (of_decide_eq_true (by kernel_rfl)) h0 hg hlt0) (trodAll_cons_mk (Below.trod Tryz.laidOut (by kernel_rfl) (of_decide_eq_true (by kernel_rfl)) h1 hg hlt1) (trodAll_cons_mk (Below.trod Tryz.laidOut (by kernel_rfl) (of_decide_eq_true (by kernel_rfl)) h2 hg hlt2) trodAll_mk0))), rfl, hg.frame _, fun h => by cases h⟩
theorem jw_FnExactFirstWrong : Tryz.f4.isInstance Tryz.prog Rows.fnExactFirstWrongRow.origin Rows.fnExactFirstWrongRow.targs := of_decide_eq_true (by kernel_rfl)
theorem jx_FnExactFirstWrong : Tryz.f4.isWrapper Tryz.prog Rows.fnExactFirstWrongRow.wrapper Rows.fnExactFirstWrongRow.mainSum := by unfold Func.isWrapper; first | (rw [if_pos (by decide +kernel)]; kernel_rfl) | (rw [if_neg (by decide +kernel)]; exact ⟨rfl, rfl⟩)
theorem FnExactFirstWrong_holds : Rows.FnExactFirstWrongSaid :=
  OpenClaim.holds_of_wide 4 Tryz.f4 rfl rfl rfl rfl rfl rfl rfl ⟨rfl, rfl, rfl, rfl, rfl⟩ rfl rfl rfl rfl rfl jn_FnExactFirstWrong Tryz.func4 jj_FnExactFirstWrong jw_FnExactFirstWrong jx_FnExactFirstWrong
    (fun os started H enc _ => lifted_FnExactFirstWrong os started H enc)
end Go.Proofs.YtmgdjaiaekhkgaaGreat
