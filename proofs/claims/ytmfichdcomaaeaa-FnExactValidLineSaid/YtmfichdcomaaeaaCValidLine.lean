/-
  The program's ValidLine returns what the reference's returns, for all arguments. No condition.
-/
import Derived.Test.YtmfichdcomaaeaaW3
import Derived.Test.YtmfichdcomaaeaaP
namespace Go.Proofs.Ytmfichdcomaaeaa
set_option linter.unusedVariables false
set_option linter.unusedSimpArgs false
open Go.ChangeShapes Go.WideShapes Go.ChangeAt Go.RowKit Go.Deep
set_option maxRecDepth 100000

set_option maxHeartbeats 1000000 in
theorem walk_FnExactValidLine (v : Value) (x : Line) (bs : List Nat) {w : World} (h : Agg 4 RLine w v x bs) (hm : InMem bs w) :
    Calls Try.prog 4 #[v] w (Says (.bool true) w) := by
  obtain ⟨rfl, g0, g1, g2, g3, hbs⟩ := RLine.open h
  clear h hbs hm
  go_enter Try.func4, Try.ntmps4
  go_wp2_with fail
  (with_reducible refine (toLine_any _ x [] _ (RLine.mk' g0 g1 g2 g3) (InMem.nil _)).mono ?_)
  rintro e p0 ⟨v0, bs0, rfl, hv0, -, l0⟩
  obtain ⟨rfl, -, -, -, -, -⟩ := RLine.open hv0
  have KD : Blk p0 w.heap.size #[.int .i64 x.kind, .int .i64 x.var, .int .i64 x.value, .int .i64 x.con] 29 := Blk.thru (Blk.new rfl) l0
  have B0 : Below w.heap.size w p0 := Below.through l0 (by repeat (first | exact Below.refl _ _ | refine Below.alloc ?_ (by simp) _))
  clear hv0 l0
  go_wp2_with fail
  (with_reducible refine (specValidLine_any _ _ _ _ _).mono ?_)
  rintro e p1 ⟨rfl, l1⟩
  have KD1 := Blk.thru KD l1
  have B1 := Below.through l1 B0
  have C1 := KD1.cell
  clear l1 KD
  generalize hr : lineB x.kind x.var x.value x.con = r
  have hr' := hd hr
  clear hr
  go_wp2_with fail
  (with_reducible refine (toLine_any _ x [] _ (RLine.mk' g0 g1 g2 g3) (InMem.nil _)).mono ?_)
  rintro e p2 ⟨v0, bs2, rfl, hv0, -, l2⟩
  obtain ⟨rfl, -, -, -, -, -⟩ := RLine.open hv0
  have B2 := Below.through l2 B1
  clear hv0 l2 C1
  go_wp2_with fail
  (with_reducible refine (implValidLine_any _ _ _ _ _ g1 g2 g3).mono ?_)
  rintro e p3 ⟨rfl, l3⟩
  have B3 := Below.through l3 B2
  rw [hr'.out]
  clear l3
  have hrr : (r != r) = false := by simp
  go_wp2
  go_ret
  exact ⟨rfl, B3⟩
/-- What the row asks. -/
theorem own_FnExactValidLine : ownKnob Try.prog.godebug = none := by kernel_rfl
set_option maxRecDepth 100000 in
theorem lifted_FnExactValidLine (os : Os) (started : os.Started) (H : Type) (enc : TypeId × Value → H) :
    ReturnsInHanded {} Try.checked os 4 .any (Rows.fnExactValidLineSpec.pre6 enc Try.prog Try.f4 Rows.fnExactValidLineRow.domain false) (Rows.fnExactValidLineSpec.post enc Try.prog Try.f4 false true false false) := by
  refine returnsInHanded_of_change (C := Try.checked) own_FnExactValidLine started (by kernel_rfl) Try.func4
    (ChangeSpec.witness6 (enc := enc) (C := Try.checked) false ⟨#[], #[.agg #[.int .i64 0, .int .i64 0, .int .i64 0, .int .i64 0]], []⟩ 12 (by kernel_rfl) (by kernel_rfl) (by kernel_rfl) (by kernel_rfl)) ?_
  intro W base args ds gs before hval0 hW hcnd _
  have hval : ∀ (j : Nat) t v, Try.f4.params[j]? = some t → args[j]? = some v → Value.okWide Try.prog W .any base t v := hval0
  have hW' := hW
  obtain ⟨p, q, hA0, hV, rfl, hfz, hnd⟩ := hW
  have hA : DataW.TrodAll enc Try.prog W 0 (fun _ => true) true Try.f4.params.toList args.toList ds p := hA0
  rw [Try.params4] at hA hval
  obtain ⟨v0, vs0, d0, ds0, p0, q0, hargs, rfl, rfl, h0, r0⟩ := trodAll_cons hA
  obtain ⟨rfl, rfl, rfl⟩ := trodAll_nil r0
  obtain rfl : args = #[v0] := by cases args; simp_all
  obtain ⟨rfl, rfl⟩ := trodVars_none hV
  obtain ⟨x0, bs0, g0, m0⟩ := open_agg Try.underlying29 opens_Line (hval 0 29 v0 rfl rfl) h0
  clear hval0
  have hlt0 : ∀ x ∈ p0, x.block < W.heap.size := fun x hx => hW'.lt x (by simp [hx])
  refine (walk_FnExactValidLine v0 x0 bs0 g0 m0).mono fun e W' ⟨he, hg⟩ => ?_
  subst he
  exact ⟨_, rfl, _, _, _, [], _, [], hW', trodAll_cons_mk (shut_bool Try.underlying4 true) trodAll_mk0, (trodAll_cons_mk (Below.trod Try.laidOut (by kernel_rfl) (of_decide_eq_true (by kernel_rfl)) h0 hg hlt0) trodAll_mk0), rfl, hg.frame _, fun h => by cases h⟩
theorem FnExactValidLine_holds : Rows.FnExactValidLineSaid :=
  OpenClaim.holds_of_wide 4 Try.f4 rfl rfl rfl rfl rfl rfl rfl ⟨rfl, rfl, rfl, rfl, rfl⟩ rfl rfl rfl rfl rfl (by kernel_rfl) Try.func4 (by kernel_rfl)
    (of_decide_eq_true (by kernel_rfl)) (by unfold Func.isWrapper; first | (rw [if_pos (by decide +kernel)]; kernel_rfl) | (rw [if_neg (by decide +kernel)]; exact ⟨rfl, rfl⟩))
    (fun os started H enc _ => lifted_FnExactValidLine os started H enc)
end Go.Proofs.Ytmfichdcomaaeaa
