/-
  The program's AddNoGoods returns what the reference's returns, for all arguments. No condition.
-/
import Derived.Test.YtfggmelojaicfaaGreatM20
import Derived.Test.YtfggmelojaicfaaGreatMC
import Derived.Test.YtfggmelojaicfaaGreatLAddNoGoods
import Derived.Test.YtfggmelojaicfaaGreatP
import Derived.Test.YtfggmelojaicfaaGreatJF
import Derived.Deep.CutRange
namespace Go.Proofs.YtfggmelojaicfaaGreat
set_option linter.unusedVariables false
set_option linter.unusedSimpArgs false
open Go.ChangeShapes Go.WideShapes Go.ChangeAt Go.RowKit Go.Deep
set_option maxRecDepth 100000

theorem law_AddNoGoods {N : Nat} (hN : 1100000 ≤ N) (x : Template) (y : Instance) (q : List (List Literal)) : laws_FnExactAddNoGoods N x y q = some true := by
  unfold laws_FnExactAddNoGoods
  obtain ⟨z, h1, h2⟩ := szq_two (left := 1048576) (n := x.sz) (by decide) (by decide)
  rw [h1, bnd_s]
  rcases h2 with h2 | ⟨h2, h3, h4⟩
  · rw [h2]; rfl
  · obtain ⟨z', h1', h2'⟩ := szq_two (left := z) (n := y.sz) (by omega) (by omega)
    rw [h2, if_neg (by simp), h1', bnd_s]
    rcases h2' with h2' | ⟨h2', h3', h4'⟩
    · rw [h2']; rfl
    · obtain ⟨z2, k1, k2⟩ := szq_two (left := z') (n := szS List.length q) (by omega) (by omega)
      rw [h2', if_neg (by simp), k1, bnd_s]
      rcases k2 with k2 | ⟨k2, k3, k4⟩
      · rw [k2]; rfl
      · have hx : x.sz ≤ 1048576 := by omega
        have hy : y.sz ≤ 1048576 := by omega
        have hq : szS List.length q ≤ 1048576 := by omega
        have hq1 : ∀ l ∈ q, l.length ≤ 1048576 := fun l hl => by
          obtain ⟨i, hi, rfl⟩ := List.mem_iff_getElem.1 hl
          have := le_szS (c := List.length) (List.getElem?_eq_getElem hi)
          omega
        have hq2 : q.length ≤ 1048576 := by unfold szS at hq; omega
        obtain ⟨t, i, c, e1, e2, e3, e4⟩ := AddNoGoods_two (y := y) hN q (smallT_of hx) hq1 hq2
        have hc := cntT hx
        have hd := cntN hy
        have hcq : cntS (cntS Literal.ecnt) q ≤ 2097152 := by
          have : ∀ l : List (List Literal), cntS (cntS Literal.ecnt) l ≤ 2 * szS List.length l := by
            intro l
            induction l with
            | nil => simp [cntS]
            | cons a l ih =>
              rw [cntS_cons, cntLit]
              unfold szS at ih ⊢
              simp only [List.length_cons, List.map_cons, List.sum_cons]
              omega
          have := this q
          omega
        have hk : mkq 1 x.cnt = some (1 + (x.cnt : Nat)) := mkq_eq (by decide) (by omega)
        have hk2 : mkq (1 + (x.cnt : Int)) y.cnt = some (1 + (x.cnt : Int) + (y.cnt : Nat)) := mkq_eq (by omega) (by omega)
        have hk3 : mkq (1 + (x.cnt : Int) + (y.cnt : Int)) (cntS (cntS Literal.ecnt) q) = some (1 + (x.cnt : Int) + (y.cnt : Int) + (cntS (cntS Literal.ecnt) q : Nat)) := mkq_eq (by omega) (by omega)
        have hl : mkq 1 t.cnt = some (1 + (t.cnt : Nat)) := mkq_eq (by decide) (by omega)
        have hl2 : mkq (1 + (t.cnt : Int)) i.cnt = some (1 + (t.cnt : Int) + (i.cnt : Nat)) := mkq_eq (by omega) (by omega)
        have n1 : ¬ (1 + (x.cnt : Int) + (y.cnt : Int) + (cntS (cntS Literal.ecnt) q : Int) < 0) := by omega
        have n2 : ¬ (1 + (t.cnt : Int) < 0) := by omega
        have n3 : ¬ (1 + (t.cnt : Int) + (i.cnt : Int) < 0) := by omega
        rw [k2, if_neg (by simp), toq_eq hx, toq_eq hy, toq_eq hq, bnd_s, bnd_s, bnd_s, e1, e2]
        simp [eqq_eq, hk, hk2, hk3, hl, hl2, n1, n2, n3]
theorem walk_FnExactAddNoGoods (v1 : Value) (x : Template) (bs1 : List Nat) {w : World} (h1 : Agg 2 RTemplate w v1 x bs1) (hm1 : InMem bs1 w) (v2 : Value) (y : Instance) (bs2 : List Nat) (h2 : Agg 2 RInstance w v2 y bs2) (hm2 : InMem bs2 w) (v3 : Value) (q : List (List Literal)) (bs3 : List Nat) (h3 : Sl 1 RLits w v3 q bs3) (hm3 : InMem bs3 w) :
    Calls Tryz.prog 6 #[v1, v2, v3] w (Says (.bool true) w) := by
  obtain ⟨N, hN⟩ : ∃ N, 1100000 ≤ N := ⟨_, Nat.le_refl _⟩
  exact laws_FnExactAddNoGoods_c true (law_AddNoGoods hN x y q) w ⟨h1, hm1⟩ ⟨h2, hm2⟩ ⟨h3, hm3⟩
theorem jn_FnExactAddNoGoods : Tryz.prog.funcNamed Rows.fnExactAddNoGoodsRow.func = some 6 := by kernel_rfl
theorem ji_FnExactAddNoGoods : Tryz.prog.inPlace 6 = Rows.fnExactAddNoGoodsRow.inPlace := by kernel_rfl
theorem ju_FnExactAddNoGoods : Tryz.prog.unfollowed 6 = Rows.fnExactAddNoGoodsRow.unfollowed := by kernel_rfl
theorem jr_FnExactAddNoGoods : Tryz.prog.recurses 6 = Rows.fnExactAddNoGoodsRow.recurses := by kernel_rfl
theorem jv_FnExactAddNoGoods : Tryz.prog.varsNamed 6 = Rows.fnExactAddNoGoodsRow.named := by kernel_rfl
theorem jj_FnExactAddNoGoods : joinedFacts Tryz.prog 6 Tryz.f6 Rows.fnExactAddNoGoodsSpec Rows.fnExactAddNoGoodsRow = true := by
  unfold joinedFacts
  rw [jf_laid, jf_maps, jf_keys, jf_heard, jf_enter, jf_lifts, ji_FnExactAddNoGoods, ju_FnExactAddNoGoods, jr_FnExactAddNoGoods, jv_FnExactAddNoGoods]
  kernel_rfl
/-- What the row asks. -/
theorem own_FnExactAddNoGoods : ownKnob Tryz.prog.godebug = none := by kernel_rfl
set_option maxRecDepth 100000 in
theorem lifted_FnExactAddNoGoods (os : Os) (started : os.Started) (H : Type) (enc : TypeId × Value → H) :
    ReturnsInHanded {} Tryz.checked os 6 .any (Rows.fnExactAddNoGoodsSpec.pre6 enc Tryz.prog Tryz.f6 Rows.fnExactAddNoGoodsRow.domain false) (Rows.fnExactAddNoGoodsSpec.post enc Tryz.prog Tryz.f6 false true false false) := by
  refine returnsInHanded_of_change (C := Tryz.checked) own_FnExactAddNoGoods started (by kernel_rfl) Tryz.func6
    (ChangeSpec.witness6 (enc := enc) (C := Tryz.checked) false ⟨#[], #[.agg #[.int .i64 0, .slice none 0 0], .agg #[.int .i64 0, .slice none 0 0], .slice none 0 0], []⟩ 12 (by kernel_rfl) (by kernel_rfl) (by kernel_rfl) (by kernel_rfl)) ?_
  intro W base args ds gs before hval0 hW hcnd _
  have hval : ∀ (j : Nat) t v, Tryz.f6.params[j]? = some t → args[j]? = some v → Value.okWide Tryz.prog W .any base t v := hval0
  have hW' := hW
  obtain ⟨p, q, hA0, hV, rfl, hfz, hnd⟩ := hW
  have hA : DataW.TrodAll enc Tryz.prog W 0 (fun _ => true) true Tryz.f6.params.toList args.toList ds p := hA0
  rw [Tryz.params6] at hA hval
  obtain ⟨v0, vs0, d0, ds0, p0, q0, hargs, rfl, rfl, h0, r0⟩ := trodAll_cons hA
  obtain ⟨v1, vs1, d1, ds1, p1, q1, rfl, rfl, rfl, h1, r1⟩ := trodAll_cons r0
  obtain ⟨v2, vs2, d2, ds2, p2, q2, rfl, rfl, rfl, h2, r2⟩ := trodAll_cons r1
  obtain ⟨rfl, rfl, rfl⟩ := trodAll_nil r2
  obtain rfl : args = #[v0, v1, v2] := by cases args; simp_all
  obtain ⟨rfl, rfl⟩ := trodVars_none hV
  obtain ⟨x0, bs0, g0, m0⟩ := open_agg Tryz.underlying24 opens_Template (hval 0 24 v0 rfl rfl) h0
  obtain ⟨x1, bs1, g1, m1⟩ := open_agg Tryz.underlying54 opens_Instance (hval 1 54 v1 rfl rfl) h1
  obtain ⟨x2, bs2, g2, m2⟩ := open_sl Tryz.underlying55 opens_SP (hval 2 55 v2 rfl rfl) h2
  clear hval0
  have hlt0 : ∀ x ∈ p0, x.block < W.heap.size := fun x hx => hW'.lt x (by simp [hx])
  have hlt1 : ∀ x ∈ p1, x.block < W.heap.size := fun x hx => hW'.lt x (by simp [hx])
  have hlt2 : ∀ x ∈ p2, x.block < W.heap.size := fun x hx => hW'.lt x (by simp [hx])
  refine (walk_FnExactAddNoGoods v0 x0 bs0 g0 m0 v1 x1 bs1 g1 m1 v2 x2 bs2 g2 m2).mono fun e W' ⟨he, hg⟩ => ?_
  subst he
  exact ⟨_, rfl, _, _, _, [], _, [], hW', trodAll_cons_mk (shut_bool Tryz.underlying4 true) trodAll_mk0, (trodAll_cons_mk (Below.trod Tryz.laidOut (by kernel_rfl) (of_decide_eq_true (by kernel_rfl)) h0 hg hlt0) (trodAll_cons_mk (Below.trod Tryz.laidOut (by kernel_rfl) (of_decide_eq_true (by kernel_rfl)) h1 hg hlt1) (trodAll_cons_mk (Below.trod Tryz.laidOut (by kernel_rfl) (of_decide_eq_true (by kernel_rfl)) h2 hg hlt2) trodAll_mk0))), rfl, hg.frame _, fun h => by cases h⟩
theorem jw_FnExactAddNoGoods : Tryz.f6.isInstance Tryz.prog Rows.fnExactAddNoGoodsRow.origin Rows.fnExactAddNoGoodsRow.targs := of_decide_eq_true (by kernel_rfl)
theorem jx_FnExactAddNoGoods : Tryz.f6.isWrapper Tryz.prog Rows.fnExactAddNoGoodsRow.wrapper Rows.fnExactAddNoGoodsRow.mainSum := by unfold Func.isWrapper; first | (rw [if_pos (by decide +kernel)]; kernel_rfl) | (rw [if_neg (by decide +kernel)]; exact ⟨rfl, rfl⟩)
theorem FnExactAddNoGoods_holds : Rows.FnExactAddNoGoodsSaid :=
  OpenClaim.holds_of_wide 6 Tryz.f6 rfl rfl rfl rfl rfl rfl rfl ⟨rfl, rfl, rfl, rfl, rfl⟩ rfl rfl rfl rfl rfl jn_FnExactAddNoGoods Tryz.func6 jj_FnExactAddNoGoods jw_FnExactAddNoGoods jx_FnExactAddNoGoods
    (fun os started H enc _ => lifted_FnExactAddNoGoods os started H enc)
end Go.Proofs.YtfggmelojaicfaaGreat
