/-
  Laws of the program as plain functions, and that they compute them. Printed by lawfx.py.
-/
import Derived.Test.YtjjdbdlbjdoebaaDoorS4
import Derived.Test.YtjjdbdlbjdoebaaDoorY
import Derived.Test.YtjjdbdlbjdoebaaDoorL5
namespace Go.Proofs.YtjjdbdlbjdoebaaDoor
set_option linter.unusedVariables false
set_option linter.unusedSimpArgs false
set_option maxRecDepth 100000
open Go.RowKit
noncomputable section
def laws_FnExactRefutationText (N : Nat) (x0 : List Line) : Option Bool :=
 bnd (szq 1048576 ((x0.length))) fun z11 =>
 if (decide (z11 < 0)) then
  some true
 else
  bnd (toq (x0.length)) fun z14 =>
  bnd (spec_RefutationText N x0) fun z20 =>
  bnd (impl_RefutationText x0) fun z28 =>
  if (!sEq z28 z20) then
   some false
  else
   bnd (eqq x0 x0) fun z38 =>
   if (!z38) then
    some false
   else
    some true
set_option maxHeartbeats 1000000 in
theorem laws_FnExactRefutationText_c {N : Nat} {x0 : List Line} (r : Bool) (hR : laws_FnExactRefutationText N x0 = some r) {v0 : Value} {b0 : List Nat} (w0 : World) (hG : Glo w0) (A0 : Rd (Sl 4 RLine) w0 v0 x0 b0) : Calls Tryd.prog 4 #[v0] w0 (Says (.bool r) w0) := by
 unfold laws_FnExactRefutationText at hR
 refine x_enter (L := [(0, v0)]) Tryd.func4 rfl rfl rfl (sc rfl sn) (fun a F => ?_)
 have hB := Below.refl w0.heap.size w0
 refine x_seq ?_
 refine x_reg ?_
 refine o_assign F rfl rfl (fun a F => ?_)
 refine x_end ?_
 refine x_tn ?_
 refine x_seq ?_
 refine x_reg ?_
 refine o_assign F rfl rfl (fun a F => ?_)
 refine x_end ?_
 refine x_tn ?_
 refine x_seq ?_
 refine x_reg ?_
 refine o_move F rfl rfl (fun a F => ?_)
 refine o_move F rfl rfl (fun a F => ?_)
 obtain ⟨z11, c12, hR⟩ := bnd_some hR
 refine o_saysI F rfl Tryd.call12 rfl (szq_says c12 (fun h0 h1 => szLineS_any _ _ _ _ _ (A0.go hB).r (A0.go hB).m h0 h1)) (fun a w l iz11 F => ?_)
 replace hB := Below.through l hB
 refine o_assign F rfl rfl (fun a F => ?_)
 refine x_end ?_
 refine x_tn ?_
 refine x_seq ?_
 refine x_seq ?_
 refine x_reg ?_
 refine o_move F rfl rfl (fun a F => ?_)
 refine o_lss F rfl rfl rfl (fun a F => ?_)
 refine x_end ?_
 refine x_tn ?_
 refine x_if F rfl (fun hb13 => ?_) (fun hb13 => ?_)
 ·
  replace hR := ifT hb13 hR
  refine x_seq ?_
  refine x_reg ?_
  refine o_assign F rfl rfl (fun a F => ?_)
  refine x_end ?_
  refine x_tn ?_
  refine x_ret ?_
  refine x_tr ?_
  refine x_res1 F rfl (rv_t F rfl) ?_
  obtain rfl := Option.some.inj hR
  exact ⟨rfl, hB⟩
 replace hR := ifF hb13 hR
 refine x_skip ?_
 refine x_tn ?_
 refine x_seq ?_
 refine x_reg ?_
 refine o_move F rfl rfl (fun a F => ?_)
 obtain ⟨z14, c15, hR⟩ := bnd_some hR
 refine o_toS F rfl Tryd.call14 rfl (toLineS_any _ _ _ _ (A0.go hB).r (A0.go hB).m (toq_some c15)) (fun a v16 b17 w l h18 o19 F => ?_)
 replace o19 := o19.mono hB.size
 replace hB := Below.through l hB
 obtain ⟨z20, c21, hR⟩ := bnd_some hR
 refine o_gives F rfl Tryd.call13 rfl (spec_RefutationText_c z20 c21 _ h18) (fun a vv w l ⟨hv23, i22⟩ F => ?_)
 subst vv
 replace hB := Below.through l hB
 refine o_assign F rfl rfl (fun a F => ?_)
 refine x_end ?_
 refine x_tn ?_
 refine x_seq ?_
 refine x_reg ?_
 refine o_move F rfl rfl (fun a F => ?_)
 refine o_toS F rfl Tryd.call14 rfl (toLineS_any _ _ _ _ (A0.go hB).r (A0.go hB).m (toq_some c15)) (fun a v24 b25 w l h26 o27 F => ?_)
 replace o27 := o27.mono hB.size
 replace hB := Below.through l hB
 refine o_assign F rfl rfl (fun a F => ?_)
 refine x_end ?_
 refine x_tn ?_
 refine x_seq ?_
 refine x_reg ?_
 refine o_move F rfl rfl (fun a F => ?_)
 obtain ⟨z28, c29, hR⟩ := bnd_some hR
 refine o_gives F rfl Tryd.call15 rfl (impl_RefutationText_c z28 c29 _ (hG.go hB) h26) (fun a vv w l ⟨hv31, i30⟩ F => ?_)
 subst vv
 replace hB := Below.through l hB
 replace h26 := h26.go l
 replace o27 := o27.go l
 refine o_assign F rfl rfl (fun a F => ?_)
 refine x_end ?_
 refine x_tn ?_
 refine x_seq ?_
 refine x_seq ?_
 refine x_reg ?_
 refine o_move F rfl rfl (fun a F => ?_)
 refine o_move F rfl rfl (fun a F => ?_)
 refine o_sneq F rfl rfl rfl (fun a F => ?_)
 refine x_end ?_
 refine x_tn ?_
 refine x_if F rfl (fun hb32 => ?_) (fun hb32 => ?_)
 ·
  replace hR := ifT hb32 hR
  refine x_seq ?_
  refine x_reg ?_
  refine o_assign F rfl rfl (fun a F => ?_)
  refine x_end ?_
  refine x_tn ?_
  refine x_ret ?_
  refine x_tr ?_
  refine x_res1 F rfl (rv_t F rfl) ?_
  obtain rfl := Option.some.inj hR
  exact ⟨rfl, hB⟩
 replace hR := ifF hb32 hR
 refine x_skip ?_
 refine x_tn ?_
 refine x_seq ?_
 refine x_seq ?_
 refine x_reg ?_
 refine o_move F rfl rfl (fun a F => ?_)
 refine o_move F rfl rfl (fun a F => ?_)
 refine o_toS F rfl Tryd.call14 rfl (toLineS_any _ _ _ _ (A0.go hB).r (A0.go hB).m (toq_some c15)) (fun a v33 b34 w l h35 o36 F => ?_)
 have d37 := Dj.new h26.m o36 (Nat.le_refl _)
 replace o36 := o36.mono hB.size
 replace hB := Below.through l hB
 replace h26 := h26.go l
 replace o27 := o27.go l
 obtain ⟨z38, c39, hR⟩ := bnd_some hR
 refine o_says F rfl Tryd.call16 rfl (eqq_says (fun y => Rd (Sl 4 RLine) _ _ y _) c39 h35 (fun hy => eqLineS_any _ _ _ _ _ _ h26.r hy.r h26.m hy.m)) (fun a w l F => ?_)
 replace hB := Below.through l hB
 refine o_not F rfl rfl (fun a F => ?_)
 refine x_end ?_
 refine x_tn ?_
 refine x_if F rfl (fun hb40 => ?_) (fun hb40 => ?_)
 ·
  replace hR := ifT hb40 hR
  refine x_seq ?_
  refine x_reg ?_
  refine o_assign F rfl rfl (fun a F => ?_)
  refine x_end ?_
  refine x_tn ?_
  refine x_ret ?_
  refine x_tr ?_
  refine x_res1 F rfl (rv_t F rfl) ?_
  obtain rfl := Option.some.inj hR
  exact ⟨rfl, hB⟩
 replace hR := ifF hb40 hR
 refine x_skip ?_
 refine x_tn ?_
 refine x_seq ?_
 refine x_reg ?_
 refine o_assign F rfl rfl (fun a F => ?_)
 refine x_end ?_
 refine x_tn ?_
 refine x_ret ?_
 refine x_res1 F rfl (rv_t F rfl) ?_
 obtain rfl := Option.some.inj hR
 exact ⟨rfl, hB⟩
end
end Go.Proofs.YtjjdbdlbjdoebaaDoor
