/-
  The program's ShrinkNoGood returns what the reference's returns, for all arguments. No condition.
-/
import Derived.Test.YtfepllddlmhjiaaGreatM17
import Derived.Test.YtfepllddlmhjiaaGreatMC
import Derived.Test.YtfepllddlmhjiaaGreatLShrinkNoGood
import Derived.Test.YtfepllddlmhjiaaGreatP
import Derived.Test.YtfepllddlmhjiaaGreatJF
import Derived.Deep.CutRange
namespace Go.Proofs.YtfepllddlmhjiaaGreat
set_option linter.unusedVariables false
set_option linter.unusedSimpArgs false
open Go.ChangeShapes Go.WideShapes Go.ChangeAt Go.RowKit Go.Deep
set_option maxRecDepth 100000

theorem law_ShrinkNoGood {N : Nat} (hN : 1100000 ≤ N) (x : Template) (y : Instance) (q : List Literal) (b : Int) : laws_FnExactShrinkNoGood N x y q b = some true := by
  unfold laws_FnExactShrinkNoGood
  obtain ⟨z, h1, h2⟩ := szq_two (left := 1048576) (n := x.sz) (by decide) (by decide)
  rw [h1, bnd_s]
  rcases h2 with h2 | ⟨h2, h3, h4⟩
  · rw [h2]; rfl
  · obtain ⟨z', h1', h2'⟩ := szq_two (left := z) (n := y.sz) (by omega) (by omega)
    rw [h2, if_neg (by simp), h1', bnd_s]
    rcases h2' with h2' | ⟨h2', h3', h4'⟩
    · rw [h2']; rfl
    · obtain ⟨z2, k1, k2⟩ := szq_two (left := z') (n := q.length) (by omega) (by omega)
      rw [h2', if_neg (by simp), k1, bnd_s]
      rcases k2 with k2 | ⟨k2, k3, k4⟩
      · rw [k2]; rfl
      · have hx : x.sz ≤ 1048576 := by omega
        have hy : y.sz ≤ 1048576 := by omega
        have hq : q.length ≤ 1048576 := by omega
        obtain ⟨r, c, e1, e2, e3⟩ := ShrinkNoGood_two (y := y) q b (smallT_of hx) hq hN
        have hc := cntT hx
        have hd := cntN hy
        have hcq : cntS Literal.ecnt q ≤ 2097152 := by rw [cntLit]; omega
        have hk : mkq 1 x.cnt = some (1 + (x.cnt : Nat)) := mkq_eq (by decide) (by omega)
        have hk2 : mkq (1 + (x.cnt : Int)) y.cnt = some (1 + (x.cnt : Int) + (y.cnt : Nat)) := mkq_eq (by omega) (by omega)
        have hk3 : mkq (1 + (x.cnt : Int) + (y.cnt : Int)) (cntS Literal.ecnt q) = some (1 + (x.cnt : Int) + (y.cnt : Int) + (cntS Literal.ecnt q : Nat)) := mkq_eq (by omega) (by omega)
        have hg : cntS Literal.ecnt r ≤ 2097152 := by rw [cntLit]; omega
        have hl : mkq 1 (cntS Literal.ecnt r) = some (1 + (cntS Literal.ecnt r : Nat)) := mkq_eq (by decide) (by omega)
        have n1 : ¬ (1 + (x.cnt : Int) + (y.cnt : Int) + (cntS Literal.ecnt q : Int) < 0) := by omega
        have n2 : ¬ (1 + (cntS Literal.ecnt r : Int) < 0) := by omega
        rw [k2, if_neg (by simp), toq_eq hx, toq_eq hy, toq_eq hq, bnd_s, bnd_s, bnd_s, e1, e2]
        simp [eqq_eq, hk, hk2, hk3, hl, n1, n2]
theorem walk_FnExactShrinkNoGood (v1 : Value) (x : Template) (bs1 : List Nat) {w : World} (h1 : Agg 2 RTemplate w v1 x bs1) (hm1 : InMem bs1 w) (v2 : Value) (y : Instance) (bs2 : List Nat) (h2 : Agg 2 RInstance w v2 y bs2) (hm2 : InMem bs2 w) (v3 : Value) (q : List Literal) (bs3 : List Nat) (h3 : Sl 2 RLiteral w v3 q bs3) (hm3 : InMem bs3 w) (k : Int) (hk : I64 k) :
    Calls Tryz.prog 11 #[v1, v2, v3, .int .i64 k] w (Says (.bool true) w) := by
  obtain ⟨N, hN⟩ : ∃ N, 1100000 ≤ N := ⟨_, Nat.le_refl _⟩
  exact laws_FnExactShrinkNoGood_c true (law_ShrinkNoGood hN x y q k) w ⟨h1, hm1⟩ ⟨h2, hm2⟩ ⟨h3, hm3⟩ hk
theorem jn_FnExactShrinkNoGood : Tryz.prog.funcNamed Rows.fnExactShrinkNoGoodRow.func = some 11 := by kernel_rfl
theorem ji_FnExactShrinkNoGood : Tryz.prog.inPlace 11 = Rows.fnExactShrinkNoGoodRow.inPlace := by kernel_rfl
theorem ju_FnExactShrinkNoGood : Tryz.prog.unfollowed 11 = Rows.fnExactShrinkNoGoodRow.unfollowed := by kernel_rfl
theorem jr_FnExactShrinkNoGood : Tryz.prog.recurses 11 = Rows.fnExactShrinkNoGoodRow.recurses := by kernel_rfl
theorem jv_FnExactShrinkNoGood : Tryz.prog.varsNamed 11 = Rows.fnExactShrinkNoGoodRow.named := by kernel_rfl
theorem jj_FnExactShrinkNoGood : joinedFacts Tryz.prog 11 Tryz.f11 Rows.fnExactShrinkNoGoodSpec Rows.fnExactShrinkNoGoodRow = true := by
  unfold joinedFacts
  rw [jf_laid, jf_maps, jf_keys, jf_heard, jf_enter, jf_lifts, ji_FnExactShrinkNoGood, ju_FnExactShrinkNoGood, jr_FnExactShrinkNoGood, jv_FnExactShrinkNoGood]
  kernel_rfl
/-- What the row asks. -/
theorem own_FnExactShrinkNoGood : ownKnob Tryz.prog.godebug = none := by kernel_rfl
set_option maxRecDepth 100000 in
theorem lifted_FnExactShrinkNoGood (os : Os) (started : os.Started) (H : Type) (enc : TypeId × Value → H) :
    ReturnsInHanded {} Tryz.checked os 11 .any (Rows.fnExactShrinkNoGoodSpec.pre6 enc Tryz.prog Tryz.f11 Rows.fnExactShrinkNoGoodRow.domain false) (Rows.fnExactShrinkNoGoodSpec.post enc Tryz.prog Tryz.f11 false true false false) := by
  refine returnsInHanded_of_change (C := Tryz.checked) own_FnExactShrinkNoGood started (by kernel_rfl) Tryz.func11
    (ChangeSpec.witness6 (enc := enc) (C := Tryz.checked) false ⟨#[], #[.agg #[.int .i64 0, .slice none 0 0], .agg #[.int .i64 0, .slice none 0 0], .slice none 0 0, .int .i64 0], []⟩ 12 (by kernel_rfl) (by kernel_rfl) (by kernel_rfl) (by kernel_rfl)) ?_
  intro W base args ds gs before hval0 hW hcnd _
  have hval : ∀ (j : Nat) t v, Tryz.f11.params[j]? = some t → args[j]? = some v → Value.okWide Tryz.prog W .any base t v := hval0
  have hW' := hW
  obtain ⟨p, q, hA0, hV, rfl, hfz, hnd⟩ := hW
  have hA : DataW.TrodAll enc Tryz.prog W 0 (fun _ => true) true Tryz.f11.params.toList args.toList ds p := hA0
  rw [Tryz.params11] at hA hval
  obtain ⟨v0, vs0, d0, ds0, p0, q0, hargs, rfl, rfl, h0, r0⟩ := trodAll_cons hA
  obtain ⟨v1, vs1, d1, ds1, p1, q1, rfl, rfl, rfl, h1, r1⟩ := trodAll_cons r0
  obtain ⟨v2, vs2, d2, ds2, p2, q2, rfl, rfl, rfl, h2, r2⟩ := trodAll_cons r1
  obtain ⟨v3, vs3, d3, ds3, p3, q3, rfl, rfl, rfl, h3, r3⟩ := trodAll_cons r2
  obtain ⟨rfl, rfl, rfl⟩ := trodAll_nil r3
  obtain rfl : args = #[v0, v1, v2, v3] := by cases args; simp_all
  obtain ⟨rfl, rfl⟩ := trodVars_none hV
  obtain ⟨x0, bs0, g0, m0⟩ := open_agg Tryz.underlying24 opens_Template (hval 0 24 v0 rfl rfl) h0
  obtain ⟨x1, bs1, g1, m1⟩ := open_agg Tryz.underlying44 opens_Instance (hval 1 44 v1 rfl rfl) h1
  obtain ⟨x2, bs2, g2, m2⟩ := open_sl Tryz.underlying59 opens_SLiteral (hval 2 59 v2 rfl rfl) h2
  obtain ⟨a3, rfl, rfl, rfl, w3⟩ := open_int Tryz.underlying2 (hval 3 2 v3 rfl rfl) h3
  have b3 : I64 a3 := bounds_i64 w3
  clear hval0
  have hlt0 : ∀ x ∈ p0, x.block < W.heap.size := fun x hx => hW'.lt x (by simp [hx])
  have hlt1 : ∀ x ∈ p1, x.block < W.heap.size := fun x hx => hW'.lt x (by simp [hx])
  have hlt2 : ∀ x ∈ p2, x.block < W.heap.size := fun x hx => hW'.lt x (by simp [hx])
  refine (walk_FnExactShrinkNoGood v0 x0 bs0 g0 m0 v1 x1 bs1 g1 m1 v2 x2 bs2 g2 m2 a3 b3).mono fun e W' ⟨he, hg⟩ => ?_
  subst he
  exact ⟨_, rfl, _, _, _, [], _, [], hW', trodAll_cons_mk (shut_bool Tryz.underlying4 true) trodAll_mk0, (trodAll_cons_mk (Below.trod Tryz.laidOut (by kernel_rfl) (of_decide_eq_true (by kernel_rfl)) h0 hg hlt0) (trodAll_cons_mk (Below.trod Tryz.laidOut (by kernel_rfl) (of_decide_eq_true (by kernel_rfl)) h1 hg hlt1) (trodAll_cons_mk (Below.trod Tryz.laidOut (by kernel_rfl) (of_decide_eq_true (by kernel_rfl)) h2 hg hlt2) (trodAll_cons_mk (shut_int Tryz.underlying2 w3) trodAll_mk0)))), rfl, hg.frame _, fun h => by cases h⟩
theorem jw_FnExactShrinkNoGood : Tryz.f11.isInstance Tryz.prog Rows.fnExactShrinkNoGoodRow.origin Rows.fnExactShrinkNoGoodRow.targs := of_decide_eq_true (by kernel_rfl)
theorem jx_FnExactShrinkNoGood : Tryz.f11.isWrapper Tryz.prog Rows.fnExactShrinkNoGoodRow.wrapper Rows.fnExactShrinkNoGoodRow.mainSum := by unfold Func.isWrapper; first | (rw [if_pos (by decide +kernel)]; kernel_rfl) | (rw [if_neg (by decide +kernel)]; exact ⟨rfl, rfl⟩)
theorem FnExactShrinkNoGood_holds : Rows.FnExactShrinkNoGoodSaid :=
  OpenClaim.holds_of_wide 11 Tryz.f11 rfl rfl rfl rfl rfl rfl rfl ⟨rfl, rfl, rfl, rfl, rfl⟩ rfl rfl rfl rfl rfl jn_FnExactShrinkNoGood Tryz.func11 jj_FnExactShrinkNoGood jw_FnExactShrinkNoGood jx_FnExactShrinkNoGood
    (fun os started H enc _ => lifted_FnExactShrinkNoGood os started H enc)
end Go.Proofs.YtfepllddlmhjiaaGreat
