/-
  The program's IsNoGood returns what the reference's returns, for all arguments. No condition.
-/
import Derived.Test.YtfepllddlmhjiaaGreatM14
import Derived.Test.YtfepllddlmhjiaaGreatMC
import Derived.Test.YtfepllddlmhjiaaGreatLIsNoGood
import Derived.Test.YtfepllddlmhjiaaGreatP
import Derived.Test.YtfepllddlmhjiaaGreatJF
import Derived.Deep.CutRange
namespace Go.Proofs.YtfepllddlmhjiaaGreat
set_option linter.unusedVariables false
set_option linter.unusedSimpArgs false
open Go.ChangeShapes Go.WideShapes Go.ChangeAt Go.RowKit Go.Deep
set_option maxRecDepth 100000

theorem law_IsNoGood {N : Nat} (hN : 5100 ≤ N) (x : Template) (y : Instance) (q : List Literal) (b : Int) : laws_FnExactIsNoGood N x y q b = some true := by
  unfold laws_FnExactIsNoGood
  obtain ⟨z, h1, h2⟩ := szq_two (left := 1048576) (n := x.sz) (by decide) (by decide)
  rw [h1, bnd_s]
  rcases h2 with h2 | ⟨h2, h3, h4⟩
  · rw [h2]; rfl
  · obtain ⟨z', h1', h2'⟩ := szq_two (left := z) (n := y.sz) (by omega) (by omega)
    rw [h2, if_neg (by simp), h1', bnd_s]
    rcases h2' with h2' | ⟨h2', h3', h4'⟩
    · rw [h2']; rfl
    · obtain ⟨z2, k1, k2⟩ := szq_two (left := z') (n := q.length) (by omega) (by omega)
      rw [h2', if_neg (by simp), k1, bnd_s]
      rcases k2 with k2 | ⟨k2, k3, k4⟩
      · rw [k2]; rfl
      · have hx : x.sz ≤ 1048576 := by omega
        have hy : y.sz ≤ 1048576 := by omega
        have hq : q.length ≤ 1048576 := by omega
        obtain ⟨r, c, e1, e2, _⟩ := IsNoGood_two hN (y := y) q b (smallT_of hx)
        rw [k2, if_neg (by simp), toq_eq hx, toq_eq hy, toq_eq hq, bnd_s, bnd_s, bnd_s, e1, e2]
        simp [eqq_eq]
theorem walk_FnExactIsNoGood (v1 : Value) (x : Template) (bs1 : List Nat) {w : World} (h1 : Agg 2 RTemplate w v1 x bs1) (hm1 : InMem bs1 w) (v2 : Value) (y : Instance) (bs2 : List Nat) (h2 : Agg 2 RInstance w v2 y bs2) (hm2 : InMem bs2 w) (v3 : Value) (q : List Literal) (bs3 : List Nat) (h3 : Sl 2 RLiteral w v3 q bs3) (hm3 : InMem bs3 w) (k : Int) (hk : I64 k) :
    Calls Tryz.prog 5 #[v1, v2, v3, .int .i64 k] w (Says (.bool true) w) := by
  obtain ⟨N, hN⟩ : ∃ N, 5100 ≤ N := ⟨_, Nat.le_refl _⟩
  exact laws_FnExactIsNoGood_c true (law_IsNoGood hN x y q k) w ⟨h1, hm1⟩ ⟨h2, hm2⟩ ⟨h3, hm3⟩ hk
theorem jn_FnExactIsNoGood : Tryz.prog.funcNamed Rows.fnExactIsNoGoodRow.func = some 5 := by kernel_rfl
theorem ji_FnExactIsNoGood : Tryz.prog.inPlace 5 = Rows.fnExactIsNoGoodRow.inPlace := by kernel_rfl
theorem ju_FnExactIsNoGood : Tryz.prog.unfollowed 5 = Rows.fnExactIsNoGoodRow.unfollowed := by kernel_rfl
theorem jr_FnExactIsNoGood : Tryz.prog.recurses 5 = Rows.fnExactIsNoGoodRow.recurses := by kernel_rfl
theorem jv_FnExactIsNoGood : Tryz.prog.varsNamed 5 = Rows.fnExactIsNoGoodRow.named := by kernel_rfl
theorem jj_FnExactIsNoGood : joinedFacts Tryz.prog 5 Tryz.f5 Rows.fnExactIsNoGoodSpec Rows.fnExactIsNoGoodRow = true := by
  unfold joinedFacts
  rw [jf_laid, jf_maps, jf_keys, jf_heard, jf_enter, jf_lifts, ji_FnExactIsNoGood, ju_FnExactIsNoGood, jr_FnExactIsNoGood, jv_FnExactIsNoGood]
  kernel_rfl
/-- What the row asks. -/
theorem own_FnExactIsNoGood : ownKnob Tryz.prog.godebug = none := by kernel_rfl
set_option maxRecDepth 100000 in
theorem lifted_FnExactIsNoGood (os : Os) (started : os.Started) (H : Type) (enc : TypeId × Value → H) :
    ReturnsInHanded {} Tryz.checked os 5 .any (Rows.fnExactIsNoGoodSpec.pre6 enc Tryz.prog Tryz.f5 Rows.fnExactIsNoGoodRow.domain false) (Rows.fnExactIsNoGoodSpec.post enc Tryz.prog Tryz.f5 false true false false) := by
  refine returnsInHanded_of_change (C := Tryz.checked) own_FnExactIsNoGood started (by kernel_rfl) Tryz.func5
    (ChangeSpec.witness6 (enc := enc) (C := Tryz.checked) false ⟨#[], #[.agg #[.int .i64 0, .slice none 0 0], .agg #[.int .i64 0, .slice none 0 0], .slice none 0 0, .int .i64 0], []⟩ 12 (by kernel_rfl) (by kernel_rfl) (by kernel_rfl) (by kernel_rfl)) ?_
  intro W base args ds gs before hval0 hW hcnd _
  have hval : ∀ (j : Nat) t v, Tryz.f5.params[j]? = some t → args[j]? = some v → Value.okWide Tryz.prog W .any base t v := hval0
  have hW' := hW
  obtain ⟨p, q, hA0, hV, rfl, hfz, hnd⟩ := hW
  have hA : DataW.TrodAll enc Tryz.prog W 0 (fun _ => true) true Tryz.f5.params.toList args.toList ds p := hA0
  rw [Tryz.params5] at hA hval
  obtain ⟨v0, vs0, d0, ds0, p0, q0, hargs, rfl, rfl, h0, r0⟩ := trodAll_cons hA
  obtain ⟨v1, vs1, d1, ds1, p1, q1, rfl, rfl, rfl, h1, r1⟩ := trodAll_cons r0
  obtain ⟨v2, vs2, d2, ds2, p2, q2, rfl, rfl, rfl, h2, r2⟩ := trodAll_cons r1
  obtain ⟨v3, vs3, d3, ds3, p3, q3, rfl, rfl, rfl, h3, r3⟩ := trodAll_cons r2
  obtain ⟨rfl, rfl, rfl⟩ := trodAll_nil r3
  obtain rfl : args = #[v0, v1, v2, v3] := by cases args; simp_all
  obtain ⟨rfl, rfl⟩ := trodVars_none hV
  obtain ⟨x0, bs0, g0, m0⟩ := open_agg Tryz.underlying24 opens_Template (hval 0 24 v0 rfl rfl) h0
  obtain ⟨x1, bs1, g1, m1⟩ := open_agg Tryz.underlying44 opens_Instance (hval 1 44 v1 rfl rfl) h1
  obtain ⟨x2, bs2, g2, m2⟩ := open_sl Tryz.underlying59 opens_SLiteral (hval 2 59 v2 rfl rfl) h2
  obtain ⟨a3, rfl, rfl, rfl, w3⟩ := open_int Tryz.underlying2 (hval 3 2 v3 rfl rfl) h3
  have b3 : I64 a3 := bounds_i64 w3
  clear hval0
  have hlt0 : ∀ x ∈ p0, x.block < W.heap.size := fun x hx => hW'.lt x (by simp [hx])
  have hlt1 : ∀ x ∈ p1, x.block < W.heap.size := fun x hx => hW'.lt x (by simp [hx])
  have hlt2 : ∀ x ∈ p2, x.block < W.heap.size := fun x hx => hW'.lt x (by simp [hx])
  refine (walk_FnExactIsNoGood v0 x0 bs0 g0 m0 v1 x1 bs1 g1 m1 v2 x2 bs2 g2 m2 a3 b3).mono fun e W' ⟨he, hg⟩ => ?_
  subst he
  exact ⟨_, rfl, _, _, _, [], _, [], hW', trodAll_cons_mk (shut_bool Tryz.underlying4 true) trodAll_mk0, (trodAll_cons_mk (Below.trod Tryz.laidOut (by kernel_rfl) (of_decide_eq_true (by kernel_rfl)) h0 hg hlt0) (trodAll_cons_mk (Below.trod Tryz.laidOut (by kernel_rfl) (of_decide_eq_true (by kernel_rfl)) h1 hg hlt1) (trodAll_cons_mk (Below.trod Tryz.laidOut (by kernel_rfl) (of_decide_eq_true (by kernel_rfl)) h2 hg hlt2) (trodAll_cons_mk (shut_int Tryz.underlying2 w3) trodAll_mk0)))), rfl, hg.frame _, fun h => by cases h⟩
theorem jw_FnExactIsNoGood : Tryz.f5.isInstance Tryz.prog Rows.fnExactIsNoGoodRow.origin Rows.fnExactIsNoGoodRow.targs := of_decide_eq_true (by kernel_rfl)
theorem jx_FnExactIsNoGood : Tryz.f5.isWrapper Tryz.prog Rows.fnExactIsNoGoodRow.wrapper Rows.fnExactIsNoGoodRow.mainSum := by unfold Func.isWrapper; first | (rw [if_pos (by decide +kernel)]; kernel_rfl) | (rw [if_neg (by decide +kernel)]; exact ⟨rfl, rfl⟩)
theorem FnExactIsNoGood_holds : Rows.FnExactIsNoGoodSaid :=
  OpenClaim.holds_of_wide 5 Tryz.f5 rfl rfl rfl rfl rfl rfl rfl ⟨rfl, rfl, rfl, rfl, rfl⟩ rfl rfl rfl rfl rfl jn_FnExactIsNoGood Tryz.func5 jj_FnExactIsNoGood jw_FnExactIsNoGood jx_FnExactIsNoGood
    (fun os started H enc _ => lifted_FnExactIsNoGood os started H enc)
end Go.Proofs.YtfepllddlmhjiaaGreat
