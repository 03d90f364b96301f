/-
  Laws of the program as plain functions, and that they compute them. Printed by lawfx.py.
-/
import Derived.Test.YtjjdbdlbjdoebaaDoorS2
import Derived.Test.YtjjdbdlbjdoebaaDoorY
import Derived.Test.YtjjdbdlbjdoebaaDoorL3
namespace Go.Proofs.YtjjdbdlbjdoebaaDoor
set_option linter.unusedVariables false
set_option linter.unusedSimpArgs false
set_option maxRecDepth 100000
open Go.RowKit
noncomputable section
def laws_FnExactGadgetsText (N : Nat) (x0 : Gadgets) : Option Bool :=
 bnd (szq 1048576 (x0.sz)) fun z17 =>
 if (decide (z17 < 0)) then
  some true
 else
  bnd (toq (x0.sz)) fun z20 =>
  bnd (spec_GadgetsText N x0) fun z27 =>
  bnd (impl_GadgetsText x0) fun z44 =>
  if (!sEq z44 z27) then
   some false
  else
   bnd (eqq x0 x0) fun z54 =>
   if (!z54) then
    some false
   else
    some true
set_option maxHeartbeats 1000000 in
theorem laws_FnExactGadgetsText_c {N : Nat} {x0 : Gadgets} (r : Bool) (hR : laws_FnExactGadgetsText N x0 = some r) {v0 : Value} {b0 : List Nat} (w0 : World) (hG : Glo w0) (A0 : Rd (Agg 1 RGadgets) w0 v0 x0 b0) : Calls Tryd.prog 6 #[v0] w0 (Says (.bool r) w0) := by
 unfold laws_FnExactGadgetsText at hR
 refine x_enter (L := [(0, v0)]) Tryd.func6 rfl rfl rfl (sc rfl sn) (fun a F => ?_)
 have hB := Below.refl w0.heap.size w0
 refine x_seq ?_
 refine x_reg ?_
 obtain ⟨v13, b14, e16, h15, _⟩ := RGadgets.rd (A0.go hB)
 subst e16
 refine o_box F rfl rfl rfl (fun a w b11 K12 l BK12 F => ?_)
 have CK12 := Nat.le_trans hB.size BK12
 replace hB := Below.through l hB
 refine o_assign F rfl rfl (fun a F => ?_)
 refine x_end ?_
 refine x_tn ?_
 refine x_seq ?_
 refine x_reg ?_
 refine o_assign F rfl rfl (fun a F => ?_)
 refine x_end ?_
 refine x_tn ?_
 refine x_seq ?_
 refine x_reg ?_
 refine o_bloadA (cs := [v13]) Tryd.isAgg43 Tryd.sizeOf43 F rfl rfl K12 rfl (fun j hj => by match j, hj with | 0, _ => rfl) (fun a F => ?_)
 refine o_move F rfl rfl (fun a F => ?_)
 obtain ⟨z17, c18, hR⟩ := bnd_some hR
 refine o_saysI F rfl Tryd.call20 rfl (szq_says c18 (fun h0 h1 => szGadgets_any _ _ _ _ _ (A0.go hB).r (A0.go hB).m h0 h1)) (fun a w l iz17 F => ?_)
 replace hB := Below.through l hB
 replace K12 := K12.thru l
 refine o_assign F rfl rfl (fun a F => ?_)
 refine x_end ?_
 refine x_tn ?_
 refine x_seq ?_
 refine x_seq ?_
 refine x_reg ?_
 refine o_move F rfl rfl (fun a F => ?_)
 refine o_lss F rfl rfl rfl (fun a F => ?_)
 refine x_end ?_
 refine x_tn ?_
 refine x_if F rfl (fun hb19 => ?_) (fun hb19 => ?_)
 ·
  replace hR := ifT hb19 hR
  refine x_seq ?_
  refine x_reg ?_
  refine o_assign F rfl rfl (fun a F => ?_)
  refine x_end ?_
  refine x_tn ?_
  refine x_ret ?_
  refine x_tr ?_
  refine x_res1 F rfl (rv_t F rfl) ?_
  obtain rfl := Option.some.inj hR
  exact ⟨rfl, hB⟩
 replace hR := ifF hb19 hR
 refine x_skip ?_
 refine x_tn ?_
 refine x_seq ?_
 refine x_reg ?_
 refine o_bloadA (cs := [v13]) Tryd.isAgg43 Tryd.sizeOf43 F rfl rfl K12 rfl (fun j hj => by match j, hj with | 0, _ => rfl) (fun a F => ?_)
 obtain ⟨z20, c21, hR⟩ := bnd_some hR
 refine o_toA F rfl Tryd.call22 rfl (toGadgets_any _ _ _ _ (A0.go hB).r (A0.go hB).m (toq_some c21)) (fun a v22 b23 w l h24 o25 F => ?_)
 have d26 := Dj.new (inm1 K12) o25 (Nat.le_refl _)
 replace o25 := o25.mono hB.size
 replace hB := Below.through l hB
 replace K12 := K12.thru l
 obtain ⟨z27, c28, hR⟩ := bnd_some hR
 refine o_gives F rfl Tryd.call21 rfl (spec_GadgetsText_c z27 c28 _ h24) (fun a vv w l ⟨hv30, i29⟩ F => ?_)
 subst vv
 replace hB := Below.through l hB
 replace K12 := K12.thru l
 refine o_assign F rfl rfl (fun a F => ?_)
 refine x_end ?_
 refine x_tn ?_
 refine x_seq ?_
 refine x_reg ?_
 refine o_bloadA (cs := [v13]) Tryd.isAgg43 Tryd.sizeOf43 F rfl rfl K12 rfl (fun j hj => by match j, hj with | 0, _ => rfl) (fun a F => ?_)
 refine o_toA F rfl Tryd.call22 rfl (toGadgets_any _ _ _ _ (A0.go hB).r (A0.go hB).m (toq_some c21)) (fun a v31 b32 w l h33 o34 F => ?_)
 have d35 := Dj.new (inm1 K12) o34 (Nat.le_refl _)
 replace o34 := o34.mono hB.size
 replace hB := Below.through l hB
 replace K12 := K12.thru l
 refine o_alloc Tryd.zeroValue48 F rfl rfl (fun a w b36 K37 l BK37 F => ?_)
 have nb38 := Dj.bb K12 BK37
 have d39 := (dj1 h33.m BK37).symm
 have CK37 := Nat.le_trans hB.size BK37
 replace hB := Below.through l hB
 replace h33 := h33.go l
 replace o34 := o34.go l
 replace K12 := K12.thru l
 obtain ⟨v40, b41, e43, h42, _⟩ := RGadgets.rd h33
 subst e43
 refine o_bstoreA (vs := [v40]) Tryd.sizeOf48 F rfl rfl rfl K37 (oc h42.r.one on) (Nat.le_of_ble_eq_true rfl) rfl (fun w K37 l => ?_)
 replace hB := hB.o l (fun c hc => by rw [List.mem_singleton] at hc; rw [hc]; exact CK37) hB.size
 replace h33 := h33.goO l d39
 replace o34 := o34.goO l d39
 replace K12 := K12.only l (by simpa using nb38)
 refine x_end ?_
 refine x_tn ?_
 refine x_seq ?_
 refine x_reg ?_
 refine o_bloadA (cs := [v40]) Tryd.isAgg48 Tryd.sizeOf48 F rfl rfl K37 rfl (fun j hj => by match j, hj with | 0, _ => rfl) (fun a F => ?_)
 obtain ⟨z44, c45, hR⟩ := bnd_some hR
 refine o_gives F rfl Tryd.call23 rfl (impl_GadgetsText_c z44 c45 _ (hG.go hB) h33) (fun a vv w l ⟨hv47, i46⟩ F => ?_)
 subst vv
 replace hB := Below.through l hB
 replace h33 := h33.go l
 replace o34 := o34.go l
 replace K12 := K12.thru l
 replace K37 := K37.thru l
 refine o_assign F rfl rfl (fun a F => ?_)
 refine x_end ?_
 refine x_tn ?_
 refine x_seq ?_
 refine x_seq ?_
 refine x_reg ?_
 refine o_move F rfl rfl (fun a F => ?_)
 refine o_move F rfl rfl (fun a F => ?_)
 refine o_sneq F rfl rfl rfl (fun a F => ?_)
 refine x_end ?_
 refine x_tn ?_
 refine x_if F rfl (fun hb48 => ?_) (fun hb48 => ?_)
 ·
  replace hR := ifT hb48 hR
  refine x_seq ?_
  refine x_reg ?_
  refine o_assign F rfl rfl (fun a F => ?_)
  refine x_end ?_
  refine x_tn ?_
  refine x_ret ?_
  refine x_tr ?_
  refine x_res1 F rfl (rv_t F rfl) ?_
  obtain rfl := Option.some.inj hR
  exact ⟨rfl, hB⟩
 replace hR := ifF hb48 hR
 refine x_skip ?_
 refine x_tn ?_
 refine x_seq ?_
 refine x_seq ?_
 refine x_drawn (by kernel_rfl) (fun w l => ?_)
 replace hB := Below.through l hB
 replace h33 := h33.go l
 replace o34 := o34.go l
 replace K12 := K12.thru l
 replace K37 := K37.thru l
 refine b_q 0 (by kernel_rfl) rfl (by kernel_rfl) (by kernel_rfl) (by kernel_rfl) (by kernel_rfl) ?_
 refine v_val F rfl (fun w l => r_bloadA (cs := [v40]) Tryd.isAgg48 Tryd.sizeOf48 F rfl (K37.thru l) rfl (fun j hj => by match j, hj with | 0, _ => rfl)) (fun a F => ?_)
 refine b_q 1 (by kernel_rfl) rfl (by kernel_rfl) (by kernel_rfl) (by kernel_rfl) (by kernel_rfl) ?_
 refine v_val F rfl (fun w l => r_bloadA (cs := [v13]) Tryd.isAgg43 Tryd.sizeOf43 F rfl (K12.thru l) rfl (fun j hj => by match j, hj with | 0, _ => rfl)) (fun a F => ?_)
 refine b_e 2 rfl (by kernel_rfl) ?_
 refine o_toA F rfl Tryd.call22 rfl (toGadgets_any _ _ _ _ (A0.go hB).r (A0.go hB).m (toq_some c21)) (fun a v49 b50 w l h51 o52 F => ?_)
 have d53 := Dj.new h33.m o52 (Nat.le_refl _)
 replace o52 := o52.mono hB.size
 replace hB := Below.through l hB
 replace h33 := h33.go l
 replace o34 := o34.go l
 refine x_end ?_
 refine x_tn ?_
 refine ⟨.inl l, ?_⟩
 refine b_e 3 rfl (by kernel_rfl) ?_
 obtain ⟨z54, c55, hR⟩ := bnd_some hR
 refine o_says F rfl Tryd.call24 rfl (eqq_says (fun y => Rd (Agg 1 RGadgets) _ _ y _) c55 h51 (fun hy => eqGadgets_any _ _ _ _ _ _ h33.r hy.r h33.m hy.m)) (fun a w l F => ?_)
 replace hB := Below.through l hB
 refine x_end ?_
 refine x_tn ?_
 refine ⟨.inl l, ?_⟩
 refine b_q0 4 rfl (by kernel_rfl) (by kernel_rfl) (by kernel_rfl) ?_
 refine v_val F rfl (fun w l => r_not F rfl) (fun a F => ?_)
 refine b_end (by kernel_rfl) ?_
 refine x_tn ?_
 refine x_if F rfl (fun hb56 => ?_) (fun hb56 => ?_)
 ·
  replace hR := ifT hb56 hR
  refine x_seq ?_
  refine x_reg ?_
  refine o_assign F rfl rfl (fun a F => ?_)
  refine x_end ?_
  refine x_tn ?_
  refine x_ret ?_
  refine x_tr ?_
  refine x_res1 F rfl (rv_t F rfl) ?_
  obtain rfl := Option.some.inj hR
  exact ⟨rfl, hB⟩
 replace hR := ifF hb56 hR
 refine x_skip ?_
 refine x_tn ?_
 refine x_seq ?_
 refine x_reg ?_
 refine o_assign F rfl rfl (fun a F => ?_)
 refine x_end ?_
 refine x_tn ?_
 refine x_ret ?_
 refine x_res1 F rfl (rv_t F rfl) ?_
 obtain rfl := Option.some.inj hR
 exact ⟨rfl, hB⟩
end
end Go.Proofs.YtjjdbdlbjdoebaaDoor
