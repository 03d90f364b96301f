/-
  Laws of the program as plain functions, and that they compute them. Printed by lawfx.py.
-/
import Derived.Test.YtjjdbdlbjdoebaaDoorS3
import Derived.Test.YtjjdbdlbjdoebaaDoorY
import Derived.Test.YtjjdbdlbjdoebaaDoorL5
namespace Go.Proofs.YtjjdbdlbjdoebaaDoor
set_option linter.unusedVariables false
set_option linter.unusedSimpArgs false
set_option maxRecDepth 100000
open Go.RowKit
noncomputable section
def laws_FnExactDeedText (N : Nat) (x0 : Deed) : Option Bool :=
 bnd (spec_DeedText N x0) fun z22 =>
 bnd (impl_DeedText x0) fun z30 =>
 if (!sEq z30 z22) then
  some false
 else
  some true
set_option maxHeartbeats 1000000 in
theorem laws_FnExactDeedText_c {N : Nat} {x0 : Deed} (r : Bool) (hR : laws_FnExactDeedText N x0 = some r) {v0 : Value} {b0 : List Nat} (w0 : World) (hG : Glo w0) (A0 : Rd (Agg 3 RDeed) w0 v0 x0 b0) : Calls Tryd.prog 5 #[v0] w0 (Says (.bool r) w0) := by
 unfold laws_FnExactDeedText at hR
 refine x_enter (L := [(0, v0)]) Tryd.func5 rfl rfl rfl (sc rfl sn) (fun a F => ?_)
 have hB := Below.refl w0.heap.size w0
 refine x_seq ?_
 refine x_reg ?_
 obtain ⟨e16, i13, i14, i15, _⟩ := RDeed.rd (A0.go hB)
 subst e16
 refine o_box F rfl rfl rfl (fun a w b11 K12 l BK12 F => ?_)
 have CK12 := Nat.le_trans hB.size BK12
 replace hB := Below.through l hB
 refine o_assign F rfl rfl (fun a F => ?_)
 refine x_end ?_
 refine x_tn ?_
 refine x_seq ?_
 refine x_reg ?_
 refine o_bloadA (cs := [.int .i64 x0.kind, .int .i64 x0.a, .int .i64 x0.b]) Tryd.isAgg36 Tryd.sizeOf36 F rfl rfl K12 rfl (fun j hj => by match j, hj with | 0, _ => rfl | 1, _ => rfl | 2, _ => rfl) (fun a F => ?_)
 refine o_toA F rfl Tryd.call18 rfl (toDeed_any _ _ _ _ (A0.go hB).r (A0.go hB).m) (fun a v17 b18 w l h19 o20 F => ?_)
 have d21 := Dj.new (inm1 K12) o20 (Nat.le_refl _)
 replace o20 := o20.mono hB.size
 replace hB := Below.through l hB
 replace K12 := K12.thru l
 obtain ⟨z22, c23, hR⟩ := bnd_some hR
 refine o_gives F rfl Tryd.call17 rfl (spec_DeedText_c z22 c23 _ h19) (fun a vv w l ⟨hv25, i24⟩ F => ?_)
 subst vv
 replace hB := Below.through l hB
 replace K12 := K12.thru l
 refine o_assign F rfl rfl (fun a F => ?_)
 refine x_end ?_
 refine x_tn ?_
 refine x_seq ?_
 refine x_reg ?_
 refine o_bloadA (cs := [.int .i64 x0.kind, .int .i64 x0.a, .int .i64 x0.b]) Tryd.isAgg36 Tryd.sizeOf36 F rfl rfl K12 rfl (fun j hj => by match j, hj with | 0, _ => rfl | 1, _ => rfl | 2, _ => rfl) (fun a F => ?_)
 refine o_toA F rfl Tryd.call18 rfl (toDeed_any _ _ _ _ (A0.go hB).r (A0.go hB).m) (fun a v26 b27 w l h28 o29 F => ?_)
 replace o29 := o29.mono hB.size
 replace hB := Below.through l hB
 obtain ⟨z30, c31, hR⟩ := bnd_some hR
 refine o_gives F rfl Tryd.call19 rfl (impl_DeedText_c z30 c31 _ (hG.go hB) h28) (fun a vv w l ⟨hv33, i32⟩ F => ?_)
 subst vv
 replace hB := Below.through l hB
 refine o_assign F rfl rfl (fun a F => ?_)
 refine x_end ?_
 refine x_tn ?_
 refine x_seq ?_
 refine x_seq ?_
 refine x_reg ?_
 refine o_move F rfl rfl (fun a F => ?_)
 refine o_move F rfl rfl (fun a F => ?_)
 refine o_sneq F rfl rfl rfl (fun a F => ?_)
 refine x_end ?_
 refine x_tn ?_
 refine x_if F rfl (fun hb34 => ?_) (fun hb34 => ?_)
 ·
  replace hR := ifT hb34 hR
  refine x_seq ?_
  refine x_reg ?_
  refine o_assign F rfl rfl (fun a F => ?_)
  refine x_end ?_
  refine x_tn ?_
  refine x_ret ?_
  refine x_tr ?_
  refine x_res1 F rfl (rv_t F rfl) ?_
  obtain rfl := Option.some.inj hR
  exact ⟨rfl, hB⟩
 replace hR := ifF hb34 hR
 refine x_skip ?_
 refine x_tn ?_
 refine x_seq ?_
 refine x_reg ?_
 refine o_assign F rfl rfl (fun a F => ?_)
 refine x_end ?_
 refine x_tn ?_
 refine x_ret ?_
 refine x_res1 F rfl (rv_t F rfl) ?_
 obtain rfl := Option.some.inj hR
 exact ⟨rfl, hB⟩
end
end Go.Proofs.YtjjdbdlbjdoebaaDoor
