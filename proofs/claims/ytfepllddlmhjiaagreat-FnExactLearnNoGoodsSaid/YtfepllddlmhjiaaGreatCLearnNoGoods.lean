/-
  The program's LearnNoGoods returns what the reference's returns, for all arguments. No condition.
-/
import Derived.Test.YtfepllddlmhjiaaGreatM16
import Derived.Test.YtfepllddlmhjiaaGreatMC
import Derived.Test.YtfepllddlmhjiaaGreatLLearnNoGoods
import Derived.Test.YtfepllddlmhjiaaGreatP
import Derived.Test.YtfepllddlmhjiaaGreatJF
import Derived.Deep.CutRange
namespace Go.Proofs.YtfepllddlmhjiaaGreat
set_option linter.unusedVariables false
set_option linter.unusedSimpArgs false
open Go.ChangeShapes Go.WideShapes Go.ChangeAt Go.RowKit Go.Deep
set_option maxRecDepth 100000

theorem law_LearnNoGoods {N : Nat} (hN : 5100 ≤ N) (x : Template) (y : Instance) (b : Int) : laws_FnExactLearnNoGoods N x y b = some true := by
  unfold laws_FnExactLearnNoGoods
  obtain ⟨z, h1, h2⟩ := szq_two (left := 1048576) (n := x.sz) (by decide) (by decide)
  rw [h1, bnd_s]
  rcases h2 with h2 | ⟨h2, h3, h4⟩
  · rw [h2]; rfl
  · obtain ⟨z', h1', h2'⟩ := szq_two (left := z) (n := y.sz) (by omega) (by omega)
    rw [h2, if_neg (by simp), h1', bnd_s]
    rcases h2' with h2' | ⟨h2', h3', h4'⟩
    · rw [h2']; rfl
    · have hx : x.sz ≤ 1048576 := by omega
      have hy : y.sz ≤ 1048576 := by omega
      obtain ⟨l, c, e1, e2, e3, e4⟩ := LearnNoGoods_two hN (y := y) b (smallT_of hx)
      have hc := cntT hx
      have hd := cntN hy
      have hk : mkq 1 x.cnt = some (1 + (x.cnt : Nat)) := mkq_eq (by decide) (by omega)
      have hk2 : mkq (1 + (x.cnt : Int)) y.cnt = some (1 + (x.cnt : Int) + (y.cnt : Nat)) := mkq_eq (by omega) (by omega)
      have hg : cntS (cntS Literal.ecnt) l ≤ 1600000 := by
        have key : ∀ l : List (List Literal), (∀ q ∈ l, q.length ≤ 4000) → cntS (cntS Literal.ecnt) l ≤ l.length * 8000 := by
          intro l
          induction l with
          | nil => intro _; simp [cntS]
          | cons d l ih =>
            intro h
            rw [cntS_cons, cntLit]
            have := ih (fun u hu => h u (by simp [hu]))
            have := h d (by simp)
            rw [List.length_cons]
            omega
        have := key l e4
        omega
      have hl : mkq 1 (cntS (cntS Literal.ecnt) l) = some (1 + (cntS (cntS Literal.ecnt) l : Nat)) := mkq_eq (by decide) (by omega)
      have n1 : ¬ (1 + (x.cnt : Int) + (y.cnt : Int) < 0) := by omega
      have n2 : ¬ (1 + (cntS (cntS Literal.ecnt) l : Int) < 0) := by omega
      rw [h2', if_neg (by simp), toq_eq hx, toq_eq hy, bnd_s, bnd_s, e1, e2]
      simp [eqq_eq, hk, hk2, hl, n1, n2]
theorem walk_FnExactLearnNoGoods (v1 : Value) (x : Template) (bs1 : List Nat) {w : World} (h1 : Agg 2 RTemplate w v1 x bs1) (hm1 : InMem bs1 w) (v2 : Value) (y : Instance) (bs2 : List Nat) (h2 : Agg 2 RInstance w v2 y bs2) (hm2 : InMem bs2 w) (k : Int) (hk : I64 k) :
    Calls Tryz.prog 10 #[v1, v2, .int .i64 k] w (Says (.bool true) w) := by
  obtain ⟨N, hN⟩ : ∃ N, 5100 ≤ N := ⟨_, Nat.le_refl _⟩
  exact laws_FnExactLearnNoGoods_c true (law_LearnNoGoods hN x y k) w ⟨h1, hm1⟩ ⟨h2, hm2⟩ hk
theorem jn_FnExactLearnNoGoods : Tryz.prog.funcNamed Rows.fnExactLearnNoGoodsRow.func = some 10 := by kernel_rfl
theorem ji_FnExactLearnNoGoods : Tryz.prog.inPlace 10 = Rows.fnExactLearnNoGoodsRow.inPlace := by kernel_rfl
theorem ju_FnExactLearnNoGoods : Tryz.prog.unfollowed 10 = Rows.fnExactLearnNoGoodsRow.unfollowed := by kernel_rfl
theorem jr_FnExactLearnNoGoods : Tryz.prog.recurses 10 = Rows.fnExactLearnNoGoodsRow.recurses := by kernel_rfl
theorem jv_FnExactLearnNoGoods : Tryz.prog.varsNamed 10 = Rows.fnExactLearnNoGoodsRow.named := by kernel_rfl
theorem jj_FnExactLearnNoGoods : joinedFacts Tryz.prog 10 Tryz.f10 Rows.fnExactLearnNoGoodsSpec Rows.fnExactLearnNoGoodsRow = true := by
  unfold joinedFacts
  rw [jf_laid, jf_maps, jf_keys, jf_heard, jf_enter, jf_lifts, ji_FnExactLearnNoGoods, ju_FnExactLearnNoGoods, jr_FnExactLearnNoGoods, jv_FnExactLearnNoGoods]
  kernel_rfl
/-- What the row asks. -/
theorem own_FnExactLearnNoGoods : ownKnob Tryz.prog.godebug = none := by kernel_rfl
set_option maxRecDepth 100000 in
theorem lifted_FnExactLearnNoGoods (os : Os) (started : os.Started) (H : Type) (enc : TypeId × Value → H) :
    ReturnsInHanded {} Tryz.checked os 10 .any (Rows.fnExactLearnNoGoodsSpec.pre6 enc Tryz.prog Tryz.f10 Rows.fnExactLearnNoGoodsRow.domain false) (Rows.fnExactLearnNoGoodsSpec.post enc Tryz.prog Tryz.f10 false true false false) := by
  refine returnsInHanded_of_change (C := Tryz.checked) own_FnExactLearnNoGoods started (by kernel_rfl) Tryz.func10
    (ChangeSpec.witness6 (enc := enc) (C := Tryz.checked) false ⟨#[], #[.agg #[.int .i64 0, .slice none 0 0], .agg #[.int .i64 0, .slice none 0 0], .int .i64 0], []⟩ 12 (by kernel_rfl) (by kernel_rfl) (by kernel_rfl) (by kernel_rfl)) ?_
  intro W base args ds gs before hval0 hW hcnd _
  have hval : ∀ (j : Nat) t v, Tryz.f10.params[j]? = some t → args[j]? = some v → Value.okWide Tryz.prog W .any base t v := hval0
  have hW' := hW
  obtain ⟨p, q, hA0, hV, rfl, hfz, hnd⟩ := hW
  have hA : DataW.TrodAll enc Tryz.prog W 0 (fun _ => true) true Tryz.f10.params.toList args.toList ds p := hA0
  rw [Tryz.params10] at hA hval
  obtain ⟨v0, vs0, d0, ds0, p0, q0, hargs, rfl, rfl, h0, r0⟩ := trodAll_cons hA
  obtain ⟨v1, vs1, d1, ds1, p1, q1, rfl, rfl, rfl, h1, r1⟩ := trodAll_cons r0
  obtain ⟨v2, vs2, d2, ds2, p2, q2, rfl, rfl, rfl, h2, r2⟩ := trodAll_cons r1
  obtain ⟨rfl, rfl, rfl⟩ := trodAll_nil r2
  obtain rfl : args = #[v0, v1, v2] := by cases args; simp_all
  obtain ⟨rfl, rfl⟩ := trodVars_none hV
  obtain ⟨x0, bs0, g0, m0⟩ := open_agg Tryz.underlying24 opens_Template (hval 0 24 v0 rfl rfl) h0
  obtain ⟨x1, bs1, g1, m1⟩ := open_agg Tryz.underlying44 opens_Instance (hval 1 44 v1 rfl rfl) h1
  obtain ⟨a2, rfl, rfl, rfl, w2⟩ := open_int Tryz.underlying2 (hval 2 2 v2 rfl rfl) h2
  have b2 : I64 a2 := bounds_i64 w2
  clear hval0
  have hlt0 : ∀ x ∈ p0, x.block < W.heap.size := fun x hx => hW'.lt x (by simp [hx])
  have hlt1 : ∀ x ∈ p1, x.block < W.heap.size := fun x hx => hW'.lt x (by simp [hx])
  refine (walk_FnExactLearnNoGoods v0 x0 bs0 g0 m0 v1 x1 bs1 g1 m1 a2 b2).mono fun e W' ⟨he, hg⟩ => ?_
  subst he
  exact ⟨_, rfl, _, _, _, [], _, [], hW', trodAll_cons_mk (shut_bool Tryz.underlying4 true) trodAll_mk0, (trodAll_cons_mk (Below.trod Tryz.laidOut (by kernel_rfl) (of_decide_eq_true (by kernel_rfl)) h0 hg hlt0) (trodAll_cons_mk (Below.trod Tryz.laidOut (by kernel_rfl) (of_decide_eq_true (by kernel_rfl)) h1 hg hlt1) (trodAll_cons_mk (shut_int Tryz.underlying2 w2) trodAll_mk0))), rfl, hg.frame _, fun h => by cases h⟩
theorem jw_FnExactLearnNoGoods : Tryz.f10.isInstance Tryz.prog Rows.fnExactLearnNoGoodsRow.origin Rows.fnExactLearnNoGoodsRow.targs := of_decide_eq_true (by kernel_rfl)
theorem jx_FnExactLearnNoGoods : Tryz.f10.isWrapper Tryz.prog Rows.fnExactLearnNoGoodsRow.wrapper Rows.fnExactLearnNoGoodsRow.mainSum := by unfold Func.isWrapper; first | (rw [if_pos (by decide +kernel)]; kernel_rfl) | (rw [if_neg (by decide +kernel)]; exact ⟨rfl, rfl⟩)
theorem FnExactLearnNoGoods_holds : Rows.FnExactLearnNoGoodsSaid :=
  OpenClaim.holds_of_wide 10 Tryz.f10 rfl rfl rfl rfl rfl rfl rfl ⟨rfl, rfl, rfl, rfl, rfl⟩ rfl rfl rfl rfl rfl jn_FnExactLearnNoGoods Tryz.func10 jj_FnExactLearnNoGoods jw_FnExactLearnNoGoods jx_FnExactLearnNoGoods
    (fun os started H enc _ => lifted_FnExactLearnNoGoods os started H enc)
end Go.Proofs.YtfepllddlmhjiaaGreat
