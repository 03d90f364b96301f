/-
  Laws of the program as plain functions, and that they compute them. Printed by lawfx.py.
-/
import Derived.Test.YtjjdbdlbjdoebaaDoorS1
import Derived.Test.YtjjdbdlbjdoebaaDoorY
import Derived.Test.YtjjdbdlbjdoebaaDoorL5
namespace Go.Proofs.YtjjdbdlbjdoebaaDoor
set_option linter.unusedVariables false
set_option linter.unusedSimpArgs false
set_option maxRecDepth 100000
open Go.RowKit
noncomputable section
def laws_FnExactLineText (N : Nat) (x0 : Line) : Option Bool :=
 bnd (spec_LineText N x0) fun z23 =>
 bnd (impl_LineText x0) fun z31 =>
 if (!sEq z31 z23) then
  some false
 else
  some true
set_option maxHeartbeats 1000000 in
theorem laws_FnExactLineText_c {N : Nat} {x0 : Line} (r : Bool) (hR : laws_FnExactLineText N x0 = some r) {v0 : Value} {b0 : List Nat} (w0 : World) (hG : Glo w0) (A0 : Rd (Agg 4 RLine) w0 v0 x0 b0) : Calls Tryd.prog 3 #[v0] w0 (Says (.bool r) w0) := by
 unfold laws_FnExactLineText at hR
 refine x_enter (L := [(0, v0)]) Tryd.func3 rfl rfl rfl (sc rfl sn) (fun a F => ?_)
 have hB := Below.refl w0.heap.size w0
 refine x_seq ?_
 refine x_reg ?_
 obtain ⟨e17, i13, i14, i15, i16, _⟩ := RLine.rd (A0.go hB)
 subst e17
 refine o_box F rfl rfl rfl (fun a w b11 K12 l BK12 F => ?_)
 have CK12 := Nat.le_trans hB.size BK12
 replace hB := Below.through l hB
 refine o_assign F rfl rfl (fun a F => ?_)
 refine x_end ?_
 refine x_tn ?_
 refine x_seq ?_
 refine x_reg ?_
 refine o_bloadA (cs := [.int .i64 x0.kind, .int .i64 x0.var, .int .i64 x0.value, .int .i64 x0.con]) Tryd.isAgg23 Tryd.sizeOf23 F rfl rfl K12 rfl (fun j hj => by match j, hj with | 0, _ => rfl | 1, _ => rfl | 2, _ => rfl | 3, _ => rfl) (fun a F => ?_)
 refine o_toA F rfl Tryd.call10 rfl (toLine_any _ _ _ _ (A0.go hB).r (A0.go hB).m) (fun a v18 b19 w l h20 o21 F => ?_)
 have d22 := Dj.new (inm1 K12) o21 (Nat.le_refl _)
 replace o21 := o21.mono hB.size
 replace hB := Below.through l hB
 replace K12 := K12.thru l
 obtain ⟨z23, c24, hR⟩ := bnd_some hR
 refine o_gives F rfl Tryd.call9 rfl (spec_LineText_c z23 c24 _ h20) (fun a vv w l ⟨hv26, i25⟩ F => ?_)
 subst vv
 replace hB := Below.through l hB
 replace K12 := K12.thru l
 refine o_assign F rfl rfl (fun a F => ?_)
 refine x_end ?_
 refine x_tn ?_
 refine x_seq ?_
 refine x_reg ?_
 refine o_bloadA (cs := [.int .i64 x0.kind, .int .i64 x0.var, .int .i64 x0.value, .int .i64 x0.con]) Tryd.isAgg23 Tryd.sizeOf23 F rfl rfl K12 rfl (fun j hj => by match j, hj with | 0, _ => rfl | 1, _ => rfl | 2, _ => rfl | 3, _ => rfl) (fun a F => ?_)
 refine o_toA F rfl Tryd.call10 rfl (toLine_any _ _ _ _ (A0.go hB).r (A0.go hB).m) (fun a v27 b28 w l h29 o30 F => ?_)
 replace o30 := o30.mono hB.size
 replace hB := Below.through l hB
 obtain ⟨z31, c32, hR⟩ := bnd_some hR
 refine o_gives F rfl Tryd.call11 rfl (impl_LineText_c z31 c32 _ (hG.go hB) h29) (fun a vv w l ⟨hv34, i33⟩ F => ?_)
 subst vv
 replace hB := Below.through l hB
 refine o_assign F rfl rfl (fun a F => ?_)
 refine x_end ?_
 refine x_tn ?_
 refine x_seq ?_
 refine x_seq ?_
 refine x_reg ?_
 refine o_move F rfl rfl (fun a F => ?_)
 refine o_move F rfl rfl (fun a F => ?_)
 refine o_sneq F rfl rfl rfl (fun a F => ?_)
 refine x_end ?_
 refine x_tn ?_
 refine x_if F rfl (fun hb35 => ?_) (fun hb35 => ?_)
 ·
  replace hR := ifT hb35 hR
  refine x_seq ?_
  refine x_reg ?_
  refine o_assign F rfl rfl (fun a F => ?_)
  refine x_end ?_
  refine x_tn ?_
  refine x_ret ?_
  refine x_tr ?_
  refine x_res1 F rfl (rv_t F rfl) ?_
  obtain rfl := Option.some.inj hR
  exact ⟨rfl, hB⟩
 replace hR := ifF hb35 hR
 refine x_skip ?_
 refine x_tn ?_
 refine x_seq ?_
 refine x_reg ?_
 refine o_assign F rfl rfl (fun a F => ?_)
 refine x_end ?_
 refine x_tn ?_
 refine x_ret ?_
 refine x_res1 F rfl (rv_t F rfl) ?_
 obtain rfl := Option.some.inj hR
 exact ⟨rfl, hB⟩
end
end Go.Proofs.YtjjdbdlbjdoebaaDoor
