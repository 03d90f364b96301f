/-
  Laws of the program as plain functions, and that they compute them. Printed by lawfx.py.
-/
import Derived.Test.YtbgkhipclkhlcaaDoorS6
import Derived.Test.YtbgkhipclkhlcaaDoorY
import Derived.Test.YtbgkhipclkhlcaaDoorL5
namespace Go.Proofs.YtbgkhipclkhlcaaDoor
set_option linter.unusedVariables false
set_option linter.unusedSimpArgs false
set_option maxRecDepth 100000
open Go.RowKit
noncomputable section
def laws_FnExactReadLine (N : Nat) (x0 : ByteArray) : Option Bool :=
 if (decide (1048576 < (x0.size : Int))) then
  some true
 else
  bnd (spec_ReadLine N x0) fun z12 =>
  bnd (impl_ReadLine x0) fun z30 =>
  thn (σ := Bool) (
   bnd (eqq z30.1 z12.1) fun z57 =>
   if (!z57) then  some (.nx true) else  some (.nx (z30.2 != z12.2))) fun s56 =>
  if s56 then
   some false
  else
   some true
set_option maxHeartbeats 1000000 in
theorem laws_FnExactReadLine_c {N : Nat} {x0 : ByteArray} (r : Bool) (hR : laws_FnExactReadLine N x0 = some r)  (w0 : World) (hG : GloE w0) (hx0 : x0.size ≤ maxLen) : Calls Tryd.prog 3 #[.string x0] w0 (Says (.bool r) w0) := by
 unfold laws_FnExactReadLine at hR
 refine x_enter (L := [(0, .string x0)]) Tryd.func3 rfl rfl rfl (sc rfl sn) (fun a F => ?_)
 have hB := Below.refl w0.heap.size w0
 refine x_seq ?_
 refine x_reg ?_
 refine o_assign F rfl rfl (fun a F => ?_)
 refine x_end ?_
 refine x_tn ?_
 refine x_seq ?_
 refine x_seq ?_
 refine x_reg ?_
 refine o_move F rfl rfl (fun a F => ?_)
 refine o_lenStr Tryd.underlying9 F rfl rfl (fun a F => ?_)
 refine o_gtr F rfl rfl rfl (fun a F => ?_)
 refine x_end ?_
 refine x_tn ?_
 refine x_if F rfl (fun hb11 => ?_) (fun hb11 => ?_)
 ·
  replace hR := ifT hb11 hR
  refine x_seq ?_
  refine x_reg ?_
  refine o_assign F rfl rfl (fun a F => ?_)
  refine x_end ?_
  refine x_tn ?_
  refine x_ret ?_
  refine x_tr ?_
  refine x_res1 F rfl (rv_t F rfl) ?_
  obtain rfl := Option.some.inj hR
  exact ⟨rfl, hB⟩
 replace hR := ifF hb11 hR
 refine x_skip ?_
 refine x_tn ?_
 refine x_seq ?_
 refine x_reg ?_
 refine o_move F rfl rfl (fun a F => ?_)
 obtain ⟨z12, c13, hR⟩ := bnd_some hR
 refine o_gives F rfl Tryd.call4 rfl (spec_ReadLine_c z12 c13 _ hx0) (fun a vv w l ⟨hv19, i14, i15, i16, i17, i18⟩ F => ?_)
 subst vv
 have h20 := RLine.mk2 (w := w) i14 i15 i16 i17
 have o21 := (fun (B : Nat) => Own.nil B w)
 replace o21 := o21 w0.heap.size
 replace hB := Below.through l hB
 refine o_move F rfl rfl (fun a F => ?_)
 refine o_extract F rfl rfl rfl (fun a F => ?_)
 refine o_extract F rfl rfl rfl (fun a F => ?_)
 refine o_alloc Tryd.zeroValue23 F rfl rfl (fun a w b22 K23 l BK23 F => ?_)
 have d24 := (dj1 h20.m BK23).symm
 have CK23 := Nat.le_trans hB.size BK23
 replace hB := Below.through l hB
 replace h20 := h20.go l
 replace o21 := o21.go l
 refine o_bstoreA (vs := [.int .i64 z12.1.kind, .int .i64 z12.1.var, .int .i64 z12.1.value, .int .i64 z12.1.con]) Tryd.sizeOf23 F rfl rfl rfl K23 (oc rfl (oc rfl (oc rfl (oc rfl on)))) (Nat.le_of_ble_eq_true rfl) rfl (fun w K23 l => ?_)
 replace hB := hB.o l (fun c hc => by rw [List.mem_singleton] at hc; rw [hc]; exact CK23) hB.size
 replace h20 := h20.goO l d24
 replace o21 := o21.goO l d24
 refine o_assign F rfl rfl (fun a F => ?_)
 refine x_end ?_
 refine x_tn ?_
 refine x_seq ?_
 refine x_reg ?_
 refine o_move F rfl rfl (fun a F => ?_)
 obtain ⟨z30, c31, hR⟩ := bnd_some hR
 refine o_gives F rfl Tryd.call5 rfl (impl_ReadLine_c z30 c31 _ (hG.go hB) hx0) (fun a vv w l ⟨hv37, i32, i33, i34, i35, i36⟩ F => ?_)
 subst vv
 have h38 := RLine.mk2 (w := w) i32 i33 i34 i35
 have o39 := (fun (B : Nat) => Own.nil B w)
 replace o39 := o39 w0.heap.size
 replace hB := Below.through l hB
 replace h20 := h20.go l
 replace o21 := o21.go l
 replace K23 := K23.thru l
 refine o_move F rfl rfl (fun a F => ?_)
 refine o_extract F rfl rfl rfl (fun a F => ?_)
 refine o_extract F rfl rfl rfl (fun a F => ?_)
 refine o_alloc Tryd.zeroValue23 F rfl rfl (fun a w b40 K41 l BK41 F => ?_)
 have nb42 := Dj.bb K23 BK41
 have d43 := (dj1 h20.m BK41).symm
 have d44 := (dj1 h38.m BK41).symm
 have CK41 := Nat.le_trans hB.size BK41
 replace hB := Below.through l hB
 replace h20 := h20.go l
 replace o21 := o21.go l
 replace h38 := h38.go l
 replace o39 := o39.go l
 replace K23 := K23.thru l
 refine o_bstoreA (vs := [.int .i64 z30.1.kind, .int .i64 z30.1.var, .int .i64 z30.1.value, .int .i64 z30.1.con]) Tryd.sizeOf23 F rfl rfl rfl K41 (oc rfl (oc rfl (oc rfl (oc rfl on)))) (Nat.le_of_ble_eq_true rfl) rfl (fun w K41 l => ?_)
 replace hB := hB.o l (fun c hc => by rw [List.mem_singleton] at hc; rw [hc]; exact CK41) hB.size
 replace h20 := h20.goO l d43
 replace o21 := o21.goO l d43
 replace h38 := h38.goO l d44
 replace o39 := o39.goO l d44
 replace K23 := K23.only l (by simpa using nb42)
 refine o_assign F rfl rfl (fun a F => ?_)
 refine x_end ?_
 refine x_tn ?_
 refine x_seq ?_
 refine x_seq ?_
 obtain ⟨o53, hR, hk54⟩ := thn_some hR
 refine x_cutQ (fun a w => ∃ (s56 : Bool), o53 = .nx s56 ∧ Sk a 29 [(28, .bool s56)] ∧ Below w0.heap.size w0 w) ?_ ?_
 ·
  refine x_reg ?_
  refine o_bloadA (cs := [.int .i64 z30.1.kind, .int .i64 z30.1.var, .int .i64 z30.1.value, .int .i64 z30.1.con]) Tryd.isAgg23 Tryd.sizeOf23 F rfl rfl K41 rfl (fun j hj => by match j, hj with | 0, _ => rfl | 1, _ => rfl | 2, _ => rfl | 3, _ => rfl) (fun a F => ?_)
  refine o_bloadA (cs := [.int .i64 z12.1.kind, .int .i64 z12.1.var, .int .i64 z12.1.value, .int .i64 z12.1.con]) Tryd.isAgg23 Tryd.sizeOf23 F rfl rfl K23 rfl (fun j hj => by match j, hj with | 0, _ => rfl | 1, _ => rfl | 2, _ => rfl | 3, _ => rfl) (fun a F => ?_)
  obtain ⟨z57, c58, hR⟩ := bnd_some hR
  refine o_says F rfl Tryd.call6 rfl (eqq_says (fun y => Rd (Agg 4 RLine) _ _ y _) c58 h20 (fun hy => eqLine_any _ _ _ _ _ _ h38.r hy.r h38.m hy.m)) (fun a w l F => ?_)
  replace hB := Below.through l hB
  refine o_not F rfl rfl (fun a F => ?_)
  refine o_move F rfl rfl (fun a F => ?_)
  rcases bcases (!z57) with hb59 | hb59
  ·
   replace hR := ifT hb59 hR
   have F := F.eq (t := 24) rfl (congrArg Value.bool hb59)
   refine o_no F rfl rfl (fun a F => ?_)
   refine o_no F rfl rfl (fun a F => ?_)
   refine o_no F rfl rfl (fun a F => ?_)
   refine o_pickt F rfl rfl rfl (fun a F => ?_)
   refine x_end ?_
   refine x_tn ?_
   exact ⟨true, (Option.some.inj hR).symm, F.sub (sc rfl sn), hB⟩
  replace hR := ifF hb59 hR
  have F := F.eq (t := 24) rfl (congrArg Value.bool hb59)
  refine o_move F rfl rfl (fun a F => ?_)
  refine o_move F rfl rfl (fun a F => ?_)
  refine o_neq F rfl rfl rfl (fun a F => ?_)
  refine o_pickf F rfl rfl rfl (fun a F => ?_)
  refine x_end ?_
  refine x_tn ?_
  exact ⟨(z30.2 != z12.2), (Option.some.inj hR).symm, F.sub (sc rfl sn), hB⟩
 intro a w ⟨s56, ho55, F, hB⟩
 subst ho55
 have hR := then_nx hk54
 refine x_tn ?_
 refine x_if F rfl (fun hb60 => ?_) (fun hb60 => ?_)
 ·
  replace hR := ifT hb60 hR
  refine x_seq ?_
  refine x_reg ?_
  refine o_assign F rfl rfl (fun a F => ?_)
  refine x_end ?_
  refine x_tn ?_
  refine x_ret ?_
  refine x_tr ?_
  refine x_res1 F rfl (rv_t F rfl) ?_
  obtain rfl := Option.some.inj hR
  exact ⟨rfl, hB⟩
 replace hR := ifF hb60 hR
 refine x_skip ?_
 refine x_tn ?_
 refine x_seq ?_
 refine x_reg ?_
 refine o_assign F rfl rfl (fun a F => ?_)
 refine x_end ?_
 refine x_tn ?_
 refine x_ret ?_
 refine x_res1 F rfl (rv_t F rfl) ?_
 obtain rfl := Option.some.inj hR
 exact ⟨rfl, hB⟩
end
end Go.Proofs.YtbgkhipclkhlcaaDoor
