/-
  The program's ApplyGadgets returns what the reference's returns, for all arguments. No condition.
-/
import Derived.Test.YtmgdjaiaekhkgaaGreatM66
import Derived.Test.YtmgdjaiaekhkgaaGreatLApplyGadgets
import Derived.Test.YtmgdjaiaekhkgaaGreatP
import Derived.Test.YtmgdjaiaekhkgaaGreatJF
import Derived.Deep.CutRange
namespace Go.Proofs.YtmgdjaiaekhkgaaGreat
set_option linter.unusedVariables false
set_option linter.unusedSimpArgs false
open Go.ChangeShapes Go.WideShapes Go.ChangeAt Go.RowKit Go.Deep
set_option maxRecDepth 100000

theorem law_ApplyGadgets {N : Nat} (hN : 1100 ≤ N) (x y : Template) (g : Gadgets) (p : Instance) : laws_FnExactApplyGadgets N x y g p = some true := by
  unfold laws_FnExactApplyGadgets
  obtain ⟨z0, a0, b0⟩ := szq_two (left := 1048576) (n := x.sz) (by decide) (by decide)
  rw [a0, bnd_s]
  rcases b0 with b0 | ⟨b0, c0, d0⟩
  · rw [b0]; rfl
  · obtain ⟨z1, a1, b1⟩ := szq_two (left := z0) (n := y.sz) (by omega) (by omega)
    rw [b0, if_neg (by simp), a1, bnd_s]
    rcases b1 with b1 | ⟨b1, c1, d1⟩
    · rw [b1]; rfl
    · obtain ⟨z2, a2, b2⟩ := szq_two (left := z1) (n := g.sz) (by omega) (by omega)
      rw [b1, if_neg (by simp), a2, bnd_s]
      rcases b2 with b2 | ⟨b2, c2, d2⟩
      · rw [b2]; rfl
      · obtain ⟨z3, a3, b3⟩ := szq_two (left := z2) (n := p.sz) (by omega) (by omega)
        rw [b2, if_neg (by simp), a3, bnd_s]
        rcases b3 with b3 | ⟨b3, c3, d3⟩
        · rw [b3]; rfl
        · have hx : x.sz ≤ 1048576 := by omega
          have hy : y.sz ≤ 1048576 := by omega
          have hg : g.sz ≤ 1048576 := by omega
          have hp : p.sz ≤ 1048576 := by omega
          have kx := cntT hx
          have ky := cntT hy
          have kg := cntGa hg
          have kp := cntIn hp
          obtain ⟨e1, e2⟩ := ApplyGadgets_two (g := g) (x := p) (smallT_of hx) (smallT_of hy) hN
          obtain ⟨l1, l2⟩ := applyR_cnt (g := g) (x := p) (smallT_of hx) (smallT_of hy)
          generalize applyR x y g p = r at e1 e2 l1 l2
          have er : (Instance.mk r.1.vars r.1.cons) = r.1 := rfl
          have q1 : mkq 1 x.cnt = some (1 + (x.cnt : Nat)) := mkq_eq (by omega) (by omega)
          have q2 : mkq (1 + (x.cnt : Int)) y.cnt = some (1 + (x.cnt : Int) + (y.cnt : Nat)) := mkq_eq (by omega) (by omega)
          have q3 : mkq (1 + (x.cnt : Int) + (y.cnt : Int)) g.cnt = some (1 + (x.cnt : Int) + (y.cnt : Int) + (g.cnt : Nat)) := mkq_eq (by omega) (by omega)
          have q4 : mkq (1 + (x.cnt : Int) + (y.cnt : Int) + (g.cnt : Int)) p.cnt = some (1 + (x.cnt : Int) + (y.cnt : Int) + (g.cnt : Int) + (p.cnt : Nat)) := mkq_eq (by omega) (by omega)
          have hq : cntS cI r.2.1 ≤ 10 := by rw [cntI]; exact l2
          have q5 : mkq 1 r.1.cnt = some (1 + (r.1.cnt : Nat)) := mkq_eq (by decide) (by omega)
          have q6 : mkq (1 + (r.1.cnt : Int)) (cntS cI r.2.1) = some (1 + (r.1.cnt : Int) + (cntS cI r.2.1 : Nat)) := mkq_eq (by omega) (by omega)
          have n1 : ¬ (1 + (x.cnt : Int) + (y.cnt : Int) + (g.cnt : Int) + (p.cnt : Int) < 0) := by omega
          have n2 : ¬ (1 + (r.1.cnt : Int) < 0) := by omega
          have n3 : ¬ (1 + (r.1.cnt : Int) + (cntS cI r.2.1 : Int) < 0) := by omega
          rw [b3, if_neg (by simp), toq_eq hx, toq_eq hy, toq_eq hg, toq_eq hp, bnd_s, bnd_s, bnd_s, bnd_s, e1, e2]
          simp [er, eqq_eq, q1, q2, q3, q4, q5, q6, n1, n2, n3]
theorem walk_FnExactApplyGadgets (u0 : Value) (x : Template) (bs0 : List Nat) {w : World} (i0 : Agg 2 RTemplate w u0 x bs0) (j0 : InMem bs0 w) (u1 : Value) (y : Template) (bs1 : List Nat) (i1 : Agg 2 RTemplate w u1 y bs1) (j1 : InMem bs1 w) (u2 : Value) (g : Gadgets) (bs2 : List Nat) (i2 : Agg 1 RGadgets w u2 g bs2) (j2 : InMem bs2 w) (u3 : Value) (p : Instance) (bs3 : List Nat) (i3 : Agg 2 RInstance w u3 p bs3) (j3 : InMem bs3 w) :
    Calls Tryz.prog 6 #[u0, u1, u2, u3] w (Says (.bool true) w) := by
  obtain ⟨N, hN⟩ : ∃ N, 1100 ≤ N := ⟨_, Nat.le_refl _⟩
  exact laws_FnExactApplyGadgets_c (B := All w) true (law_ApplyGadgets hN x y g p) w aA (Bo.of ⟨i0, j0⟩) (Bo.of ⟨i1, j1⟩) (Bo.of ⟨i2, j2⟩) (Bo.of ⟨i3, j3⟩)
theorem jn_FnExactApplyGadgets : Tryz.prog.funcNamed Rows.fnExactApplyGadgetsRow.func = some 6 := by kernel_rfl
theorem ji_FnExactApplyGadgets : Tryz.prog.inPlace 6 = Rows.fnExactApplyGadgetsRow.inPlace := by kernel_rfl
theorem ju_FnExactApplyGadgets : Tryz.prog.unfollowed 6 = Rows.fnExactApplyGadgetsRow.unfollowed := by kernel_rfl
theorem jr_FnExactApplyGadgets : Tryz.prog.recurses 6 = Rows.fnExactApplyGadgetsRow.recurses := by kernel_rfl
theorem jv_FnExactApplyGadgets : Tryz.prog.varsNamed 6 = Rows.fnExactApplyGadgetsRow.named := by kernel_rfl
theorem jj_FnExactApplyGadgets : joinedFacts Tryz.prog 6 Tryz.f6 Rows.fnExactApplyGadgetsSpec Rows.fnExactApplyGadgetsRow = true := by
  unfold joinedFacts
  rw [jf_laid, jf_maps, jf_keys, jf_heard, jf_enter, jf_lifts, ji_FnExactApplyGadgets, ju_FnExactApplyGadgets, jr_FnExactApplyGadgets, jv_FnExactApplyGadgets]
  kernel_rfl
/-- What the row asks. -/
theorem own_FnExactApplyGadgets : ownKnob Tryz.prog.godebug = none := by kernel_rfl
set_option maxRecDepth 100000 in
theorem lifted_FnExactApplyGadgets (os : Os) (started : os.Started) (H : Type) (enc : TypeId × Value → H) :
    ReturnsInHanded {} Tryz.checked os 6 .any (Rows.fnExactApplyGadgetsSpec.pre6 enc Tryz.prog Tryz.f6 Rows.fnExactApplyGadgetsRow.domain false) (Rows.fnExactApplyGadgetsSpec.post enc Tryz.prog Tryz.f6 false true false false) := by
  refine returnsInHanded_of_change (C := Tryz.checked) own_FnExactApplyGadgets started (by kernel_rfl) Tryz.func6
    (ChangeSpec.witness6 (enc := enc) (C := Tryz.checked) false ⟨#[], #[.agg #[.int .i64 0, .slice none 0 0], .agg #[.int .i64 0, .slice none 0 0], .agg #[.slice none 0 0], .agg #[.int .i64 0, .slice none 0 0]], []⟩ 12 (by kernel_rfl) (by kernel_rfl) (by kernel_rfl) (by kernel_rfl)) ?_
  intro W base args ds gs before hval0 hW hcnd _
  have hval : ∀ (j : Nat) t v, Tryz.f6.params[j]? = some t → args[j]? = some v → Value.okWide Tryz.prog W .any base t v := hval0
  have hW' := hW
  obtain ⟨p, q, hA0, hV, rfl, hfz, hnd⟩ := hW
  have hA : DataW.TrodAll enc Tryz.prog W 0 (fun _ => true) true Tryz.f6.params.toList args.toList ds p := hA0
  rw [Tryz.params6] at hA hval
  obtain ⟨v0, vs0, d0, ds0, p0, q0, hargs, rfl, rfl, h0, r0⟩ := trodAll_cons hA
  obtain ⟨v1, vs1, d1, ds1, p1, q1, rfl, rfl, rfl, h1, r1⟩ := trodAll_cons r0
  obtain ⟨v2, vs2, d2, ds2, p2, q2, rfl, rfl, rfl, h2, r2⟩ := trodAll_cons r1
  obtain ⟨v3, vs3, d3, ds3, p3, q3, rfl, rfl, rfl, h3, r3⟩ := trodAll_cons r2
  obtain ⟨rfl, rfl, rfl⟩ := trodAll_nil r3
  obtain rfl : args = #[v0, v1, v2, v3] := by cases args; simp_all
  obtain ⟨rfl, rfl⟩ := trodVars_none hV
  obtain ⟨x0, bs0, g0, m0⟩ := open_agg Tryz.underlying24 opens_Template (hval 0 24 v0 rfl rfl) h0
  obtain ⟨x1, bs1, g1, m1⟩ := open_agg Tryz.underlying24 opens_Template (hval 1 24 v1 rfl rfl) h1
  obtain ⟨x2, bs2, g2, m2⟩ := open_agg Tryz.underlying27 opens_Gadgets (hval 2 27 v2 rfl rfl) h2
  obtain ⟨x3, bs3, g3, m3⟩ := open_agg Tryz.underlying54 opens_Instance (hval 3 54 v3 rfl rfl) h3
  clear hval0
  have hlt0 : ∀ x ∈ p0, x.block < W.heap.size := fun x hx => hW'.lt x (by simp [hx])
  have hlt1 : ∀ x ∈ p1, x.block < W.heap.size := fun x hx => hW'.lt x (by simp [hx])
  have hlt2 : ∀ x ∈ p2, x.block < W.heap.size := fun x hx => hW'.lt x (by simp [hx])
  have hlt3 : ∀ x ∈ p3, x.block < W.heap.size := fun x hx => hW'.lt x (by simp [hx])
  refine (walk_FnExactApplyGadgets v0 x0 bs0 g0 m0 v1 x1 bs1 g1 m1 v2 x2 bs2 g2 m2 v3 x3 bs3 g3 m3).mono fun e W' ⟨he, hg⟩ => ?_
  subst he
  exact ⟨_, rfl, _, _, _, [], _, [], hW', trodAll_cons_mk (shut_bool Tryz.underlying4 true) trodAll_mk0, (trodAll_cons_mk (Below.trod Tryz.laidOut (by kernel_rfl) (of_decide_eq_true (by kernel_rfl)) h0 hg hlt0) (trodAll_cons_mk (Below.trod Tryz.laidOut (by kernel_rfl) (of_decide_eq_true (by kernel_rfl)) h1 hg hlt1) (trodAll_cons_mk (Below.trod Tryz.laidOut (by kernel_rfl) (of_decide_eq_true (by kernel_rfl)) h2 hg hlt2) (trodAll_cons_mk (Below.trod Tryz.laidOut (by kernel_rfl) (of_decide_eq_true (by kernel_rfl)) h3 hg hlt3) trodAll_mk0)))), rfl, hg.frame _, fun h => by cases h⟩
theorem jw_FnExactApplyGadgets : Tryz.f6.isInstance Tryz.prog Rows.fnExactApplyGadgetsRow.origin Rows.fnExactApplyGadgetsRow.targs := of_decide_eq_true (by kernel_rfl)
theorem jx_FnExactApplyGadgets : Tryz.f6.isWrapper Tryz.prog Rows.fnExactApplyGadgetsRow.wrapper Rows.fnExactApplyGadgetsRow.mainSum := by unfold Func.isWrapper; first | (rw [if_pos (by decide +kernel)]; kernel_rfl) | (rw [if_neg (by decide +kernel)]; exact ⟨rfl, rfl⟩)
theorem FnExactApplyGadgets_holds : Rows.FnExactApplyGadgetsSaid :=
  OpenClaim.holds_of_wide 6 Tryz.f6 rfl rfl rfl rfl rfl rfl rfl ⟨rfl, rfl, rfl, rfl, rfl⟩ rfl rfl rfl rfl rfl jn_FnExactApplyGadgets Tryz.func6 jj_FnExactApplyGadgets jw_FnExactApplyGadgets jx_FnExactApplyGadgets
    (fun os started H enc _ => lifted_FnExactApplyGadgets os started H enc)
end Go.Proofs.YtmgdjaiaekhkgaaGreat
