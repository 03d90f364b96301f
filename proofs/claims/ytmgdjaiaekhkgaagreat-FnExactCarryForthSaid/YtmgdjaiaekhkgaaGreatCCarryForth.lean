/-
  The program's CarryForth returns what the reference's returns, for all arguments. No condition.
-/
import Derived.Test.YtmgdjaiaekhkgaaGreatM70
import Derived.Test.YtmgdjaiaekhkgaaGreatLCarryForth
import Derived.Test.YtmgdjaiaekhkgaaGreatP
import Derived.Test.YtmgdjaiaekhkgaaGreatJF
import Derived.Deep.CutRange
namespace Go.Proofs.YtmgdjaiaekhkgaaGreat
set_option linter.unusedVariables false
set_option linter.unusedSimpArgs false
open Go.ChangeShapes Go.WideShapes Go.ChangeAt Go.RowKit Go.Deep
set_option maxRecDepth 100000

theorem law_CarryForth {N : Nat} (hN : 1100 ≤ N) (x y : Template) (g : Gadgets) (p : Instance) (vs : List Int) : laws_FnExactCarryForth N x y g p vs = some true := by
  unfold laws_FnExactCarryForth
  by_cases hv : decide ((1048576 : Int) < (vs.length : Int)) = true
  · rw [if_pos hv]
  · rw [if_neg hv]
    have hv' : vs.length ≤ 1048576 := by simp at hv; omega
    obtain ⟨z0, a0, b0⟩ := szq_two (left := 1048576) (n := x.sz) (by decide) (by decide)
    rw [a0, bnd_s]
    rcases b0 with b0 | ⟨b0, c0, d0⟩
    · rw [b0]; rfl
    · obtain ⟨z1, a1, b1⟩ := szq_two (left := z0) (n := y.sz) (by omega) (by omega)
      rw [b0, if_neg (by simp), a1, bnd_s]
      rcases b1 with b1 | ⟨b1, c1, d1⟩
      · rw [b1]; rfl
      · obtain ⟨z2, a2, b2⟩ := szq_two (left := z1) (n := g.sz) (by omega) (by omega)
        rw [b1, if_neg (by simp), a2, bnd_s]
        rcases b2 with b2 | ⟨b2, c2, d2⟩
        · rw [b2]; rfl
        · obtain ⟨z3, a3, b3⟩ := szq_two (left := z2) (n := p.sz) (by omega) (by omega)
          rw [b2, if_neg (by simp), a3, bnd_s]
          rcases b3 with b3 | ⟨b3, c3, d3⟩
          · rw [b3]; rfl
          · have hx : x.sz ≤ 1048576 := by omega
            have hy : y.sz ≤ 1048576 := by omega
            have hg : g.sz ≤ 1048576 := by omega
            have hp : p.sz ≤ 1048576 := by omega
            have kx := cntT hx
            have ky := cntT hy
            have kg := cntGa hg
            have kp := cntIn hp
            obtain ⟨r, e1, e2, l1⟩ := CarryForth_two (g := g) (x := p) (vs := vs) (smallT_of hx) (smallT_of hy) hN
            have q1 : mkq 1 x.cnt = some (1 + (x.cnt : Nat)) := mkq_eq (by omega) (by omega)
            have q2 : mkq (1 + (x.cnt : Int)) y.cnt = some (1 + (x.cnt : Int) + (y.cnt : Nat)) := mkq_eq (by omega) (by omega)
            have q3 : mkq (1 + (x.cnt : Int) + (y.cnt : Int)) g.cnt = some (1 + (x.cnt : Int) + (y.cnt : Int) + (g.cnt : Nat)) := mkq_eq (by omega) (by omega)
            have q4 : mkq (1 + (x.cnt : Int) + (y.cnt : Int) + (g.cnt : Int)) p.cnt = some (1 + (x.cnt : Int) + (y.cnt : Int) + (g.cnt : Int) + (p.cnt : Nat)) := mkq_eq (by omega) (by omega)
            have hs : qM cI vs ≤ 1048576 := by rw [cntI]; exact hv'
            have q7 : mkq (1 + (x.cnt : Int) + (y.cnt : Int) + (g.cnt : Int) + (p.cnt : Int)) (qM cI vs) = some (1 + (x.cnt : Int) + (y.cnt : Int) + (g.cnt : Int) + (p.cnt : Int) + (qM cI vs : Nat)) := mkq_eq (by omega) (by omega)
            have hq : qM cI r.1 ≤ 10 := by rw [cntI]; exact l1
            have q5 : mkq 1 (qM cI r.1) = some (1 + (qM cI r.1 : Nat)) := mkq_eq (by decide) (by omega)
            have n1 : ¬ (1 + (x.cnt : Int) + (y.cnt : Int) + (g.cnt : Int) + (p.cnt : Int) + (qM cI vs : Int) < 0) := by omega
            have n2 : ¬ (1 + (qM cI r.1 : Int) < 0) := by omega
            rw [b3, if_neg (by simp), toq_eq hx, toq_eq hy, toq_eq hg, toq_eq hp, toq_eq hv', bnd_s, bnd_s, bnd_s, bnd_s, bnd_s, e1, e2]
            simp [eqq_eq, q1, q2, q3, q4, q5, q7, n1, n2]
theorem walk_FnExactCarryForth (u0 : Value) (x : Template) (bs0 : List Nat) {w : World} (i0 : qH 2 xJ w u0 x bs0) (j0 : xX bs0 w) (u1 : Value) (y : Template) (bs1 : List Nat) (i1 : qH 2 xJ w u1 y bs1) (j1 : xX bs1 w) (u2 : Value) (g : Gadgets) (bs2 : List Nat) (i2 : qH 1 xV w u2 g bs2) (j2 : xX bs2 w) (u3 : Value) (p : Instance) (bs3 : List Nat) (i3 : qH 2 xM w u3 p bs3) (j3 : xX bs3 w) (u4 : Value) (vs : List Int) (bs4 : List Nat) (i4 : Sl 1 xK w u4 vs bs4) (j4 : xX bs4 w) :
    Calls Tryz.prog 9 #[u0, u1, u2, u3, u4] w (vR (.bool true) w) := by
  obtain ⟨N, hN⟩ : ∃ N, 1100 ≤ N := ⟨_, Nat.le_refl _⟩
  exact laws_FnExactCarryForth_c (B := All w) true (law_CarryForth hN x y g p vs) w aA (Bo.of ⟨i0, j0⟩) (Bo.of ⟨i1, j1⟩) (Bo.of ⟨i2, j2⟩) (Bo.of ⟨i3, j3⟩) (Bo.of ⟨i4, j4⟩)
theorem jn_FnExactCarryForth : Tryz.prog.funcNamed Rows.fnExactCarryForthRow.func = some 9 := by kernel_rfl
theorem ji_FnExactCarryForth : Tryz.prog.inPlace 9 = Rows.fnExactCarryForthRow.inPlace := by kernel_rfl
theorem ju_FnExactCarryForth : Tryz.prog.unfollowed 9 = Rows.fnExactCarryForthRow.unfollowed := by kernel_rfl
theorem jr_FnExactCarryForth : Tryz.prog.recurses 9 = Rows.fnExactCarryForthRow.recurses := by kernel_rfl
theorem jv_FnExactCarryForth : Tryz.prog.varsNamed 9 = Rows.fnExactCarryForthRow.named := by kernel_rfl
theorem jj_FnExactCarryForth : joinedFacts Tryz.prog 9 Tryz.f9 Rows.fnExactCarryForthSpec Rows.fnExactCarryForthRow = true := by
  unfold joinedFacts
  rw [jf_laid, jf_maps, jf_keys, jf_heard, jf_enter, jf_lifts, ji_FnExactCarryForth, ju_FnExactCarryForth, jr_FnExactCarryForth, jv_FnExactCarryForth]
  kernel_rfl
/-- What the row asks. -/
theorem own_FnExactCarryForth : ownKnob Tryz.prog.godebug = none := by kernel_rfl
set_option maxRecDepth 100000 in
theorem lifted_FnExactCarryForth (os : Os) (started : os.Started) (H : Type) (enc : TypeId × Value → H) :
    ReturnsInHanded {} Tryz.checked os 9 .any (Rows.fnExactCarryForthSpec.pre6 enc Tryz.prog Tryz.f9 Rows.fnExactCarryForthRow.domain false) (Rows.fnExactCarryForthSpec.post enc Tryz.prog Tryz.f9 false true false false) := by
  refine returnsInHanded_of_change (C := Tryz.checked) own_FnExactCarryForth started (by kernel_rfl) Tryz.func9
    (ChangeSpec.witness6 (enc := enc) (C := Tryz.checked) false ⟨#[], #[.agg #[.int .i64 0, .slice none 0 0], .agg #[.int .i64 0, .slice none 0 0], .agg #[.slice none 0 0], .agg #[.int .i64 0, .slice none 0 0], .slice none 0 0], []⟩ 12 (by kernel_rfl) (by kernel_rfl) (by kernel_rfl) (by kernel_rfl)) ?_
  intro W base args ds gs before hval0 hW hcnd _
  have hval : ∀ (j : Nat) t v, Tryz.f9.params[j]? = some t → args[j]? = some v → Value.okWide Tryz.prog W .any base t v := hval0
  have hW' := hW
  obtain ⟨p, q, hA0, hV, rfl, hfz, hnd⟩ := hW
  have hA : DataW.TrodAll enc Tryz.prog W 0 (fun _ => true) true Tryz.f9.params.toList args.toList ds p := hA0
  rw [Tryz.params9] at hA hval
  obtain ⟨v0, vs0, d0, ds0, p0, q0, hargs, rfl, rfl, h0, r0⟩ := trodAll_cons hA
  obtain ⟨v1, vs1, d1, ds1, p1, q1, rfl, rfl, rfl, h1, r1⟩ := trodAll_cons r0
  obtain ⟨v2, vs2, d2, ds2, p2, q2, rfl, rfl, rfl, h2, r2⟩ := trodAll_cons r1
  obtain ⟨v3, vs3, d3, ds3, p3, q3, rfl, rfl, rfl, h3, r3⟩ := trodAll_cons r2
  obtain ⟨v4, vs4, d4, ds4, p4, q4, rfl, rfl, rfl, h4, r4⟩ := trodAll_cons r3
  obtain ⟨rfl, rfl, rfl⟩ := trodAll_nil r4
  obtain rfl : args = #[v0, v1, v2, v3, v4] := by cases args; simp_all
  obtain ⟨rfl, rfl⟩ := trodVars_none hV
  obtain ⟨x0, bs0, g0, m0⟩ := open_agg Tryz.underlying24 opens_Template (hval 0 24 v0 rfl rfl) h0
  obtain ⟨x1, bs1, g1, m1⟩ := open_agg Tryz.underlying24 opens_Template (hval 1 24 v1 rfl rfl) h1
  obtain ⟨x2, bs2, g2, m2⟩ := open_agg Tryz.underlying27 opens_Gadgets (hval 2 27 v2 rfl rfl) h2
  obtain ⟨x3, bs3, g3, m3⟩ := open_agg Tryz.underlying54 opens_Instance (hval 3 54 v3 rfl rfl) h3
  obtain ⟨x4, bs4, g4, m4⟩ := open_sl Tryz.underlying42 opens_SI (hval 4 42 v4 rfl rfl) h4
  clear hval0
  have hlt0 : ∀ x ∈ p0, x.block < W.heap.size := fun x hx => hW'.lt x (by simp [hx])
  have hlt1 : ∀ x ∈ p1, x.block < W.heap.size := fun x hx => hW'.lt x (by simp [hx])
  have hlt2 : ∀ x ∈ p2, x.block < W.heap.size := fun x hx => hW'.lt x (by simp [hx])
  have hlt3 : ∀ x ∈ p3, x.block < W.heap.size := fun x hx => hW'.lt x (by simp [hx])
  have hlt4 : ∀ x ∈ p4, x.block < W.heap.size := fun x hx => hW'.lt x (by simp [hx])
  refine (walk_FnExactCarryForth v0 x0 bs0 g0 m0 v1 x1 bs1 g1 m1 v2 x2 bs2 g2 m2 v3 x3 bs3 g3 m3 v4 x4 bs4 g4 m4).mono fun e W' ⟨he, hg⟩ => ?_
  subst he
  exact ⟨_, rfl, _, _, _, [], _, [], hW', trodAll_cons_mk (shut_bool Tryz.underlying4 true) trodAll_mk0, (trodAll_cons_mk (Below.trod Tryz.laidOut (by kernel_rfl) (of_decide_eq_true (by kernel_rfl)) h0 hg hlt0) (trodAll_cons_mk (Below.trod Tryz.laidOut (by kernel_rfl) (of_decide_eq_true (by kernel_rfl)) h1 hg hlt1) (trodAll_cons_mk (Below.trod Tryz.laidOut (by kernel_rfl) (of_decide_eq_true (by kernel_rfl)) h2 hg hlt2) (trodAll_cons_mk (Below.trod Tryz.laidOut (by kernel_rfl) (of_decide_eq_true (by kernel_rfl)) h3 hg hlt3) (trodAll_cons_mk (Below.trod Tryz.laidOut (by kernel_rfl) (of_decide_eq_true (by kernel_rfl)) h4 hg hlt4) trodAll_mk0))))), rfl, hg.frame _, fun h => by cases h⟩
theorem jw_FnExactCarryForth : Tryz.f9.isInstance Tryz.prog Rows.fnExactCarryForthRow.origin Rows.fnExactCarryForthRow.targs := of_decide_eq_true (by kernel_rfl)
theorem jx_FnExactCarryForth : Tryz.f9.isWrapper Tryz.prog Rows.fnExactCarryForthRow.wrapper Rows.fnExactCarryForthRow.mainSum := by unfold Func.isWrapper; first | (rw [if_pos (by decide +kernel)]; kernel_rfl) | (rw [if_neg (by decide +kernel)]; exact ⟨rfl, rfl⟩)
theorem FnExactCarryForth_holds : Rows.FnExactCarryForthSaid :=
  OpenClaim.holds_of_wide 9 Tryz.f9 rfl rfl rfl rfl rfl rfl rfl ⟨rfl, rfl, rfl, rfl, rfl⟩ rfl rfl rfl rfl rfl jn_FnExactCarryForth Tryz.func9 jj_FnExactCarryForth jw_FnExactCarryForth jx_FnExactCarryForth
    (fun os started H enc _ => lifted_FnExactCarryForth os started H enc)
end Go.Proofs.YtmgdjaiaekhkgaaGreat
