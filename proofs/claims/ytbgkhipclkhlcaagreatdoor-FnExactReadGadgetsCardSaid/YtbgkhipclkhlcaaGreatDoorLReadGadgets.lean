/-
  Laws of the program as plain functions, and that they compute them. Printed by slaw.py.
-/
import Derived.Test.YtbgkhipclkhlcaaGreatDoorS1
import Derived.Test.YtbgkhipclkhlcaaGreatDoorNY
import Derived.Test.YtbgkhipclkhlcaaGreatDoorL3
namespace Go.Proofs.YtbgkhipclkhlcaaGreatDoor
set_option linter.unusedVariables false
set_option linter.unusedSimpArgs false
set_option maxRecDepth 100000
open Go.RowKit
noncomputable section
def laws_FnExactReadGadgets (N : Nat) (x0 : ByteArray) : Option Bool :=
 if (decide (1048576 < (x0.size : Int))) then
  some true
 else
  bnd (spec_ReadGadgets N x0) fun z12 =>
  bnd (impl_ReadGadgets x0) fun z19 =>
  thn (σ := Bool) (
   bnd (eqq (Gadgets.mk z19.1.formulas) (Gadgets.mk z12.1.formulas)) fun z33 =>
   if (!z33) then  some (.nx true) else  some (.nx (z19.2 != z12.2))) fun s32 =>
  if s32 then
   some false
  else
   bnd (mkq 1 ((Gadgets.mk z19.1.formulas).cnt)) fun z38 =>
   if (decide (z38 < 0)) then
    some false
   else
    if (z38 != z38) then
     some false
    else
     thn (σ := Bool) (
      bnd (eqq (Gadgets.mk z19.1.formulas) (Gadgets.mk z12.1.formulas)) fun z54 =>
      if (!z54) then  some (.nx true) else  some (.nx (z19.2 != z12.2))) fun s53 =>
     if s53 then
      some false
     else
      if (decide (z38 < 0)) then
       some false
      else
       if (z38 != z38) then
        some false
       else
        some true
set_option maxHeartbeats 1000000 in
theorem laws_FnExactReadGadgets_c {B : Nat → Prop} {N : Nat} {x0 : ByteArray} (r : Bool) (hR : laws_FnExactReadGadgets N x0 = some r)  (w0 : World) (hN : ∀ c, B c → c < w0.heap.size) (hG : GloE w0) (hx0 : x0.size ≤ maxLen) : Calls Tryz.prog 3 #[.string x0] w0 (Says (.bool r) w0) := by
 unfold laws_FnExactReadGadgets at hR
 refine x_enter (L := [(0, .string x0)]) Tryz.func3 rfl rfl rfl (sc rfl sn) (fun a F => ?_)
 have H := Sep.start hN
 refine x_seq ?_
 refine x_reg ?_
 refine o_assign F rfl rfl (fun a F => ?_)
 refine x_end ?_
 refine x_tn ?_
 refine x_seq ?_
 refine x_seq ?_
 refine x_reg ?_
 refine o_move F rfl rfl (fun a F => ?_)
 refine o_lenStr Tryz.underlying9 F rfl rfl (fun a F => ?_)
 refine o_gtr F rfl rfl rfl (fun a F => ?_)
 refine x_end ?_
 refine x_tn ?_
 refine x_if F rfl (fun hb11 => ?_) (fun hb11 => ?_)
 ·
  replace hR := ifT hb11 hR
  refine x_seq ?_
  refine x_reg ?_
  refine o_assign F rfl rfl (fun a F => ?_)
  refine x_end ?_
  refine x_tn ?_
  refine x_ret ?_
  refine x_tr ?_
  refine x_res1 F rfl (rv_t F rfl) ?_
  obtain rfl := Option.some.inj hR
  exact ⟨rfl, H.bl⟩
 replace hR := ifF hb11 hR
 refine x_skip ?_
 refine x_tn ?_
 refine x_seq ?_
 refine x_reg ?_
 refine o_move F rfl rfl (fun a F => ?_)
 obtain ⟨z12, c13, hR⟩ := bnd_some hR
 refine oG F rfl Tryz.call4 rfl (spec_ReadGadgets_c z12 c13 _ aA hx0) (fun a vv w ⟨v14, hv17, S, i16⟩ F => ?_)
 subst vv
 have H := H.r1 S n0
 refine o_move F rfl rfl (fun a F => ?_)
 refine o_extract F rfl rfl rfl (fun a F => ?_)
 refine o_extract F rfl rfl rfl (fun a F => ?_)
 refine oA Tryz.zeroValue24 F rfl rfl H (fun a w b18 H F => ?_)
 refine oWA (vs := [v14]) Tryz.sizeOf24 F rfl rfl rfl H (oc (H.l 1 rfl).one on) rfl rfl (fun w H => ?_)
 refine o_assign F rfl rfl (fun a F => ?_)
 refine x_end ?_
 refine x_tn ?_
 refine x_seq ?_
 refine x_reg ?_
 refine o_move F rfl rfl (fun a F => ?_)
 obtain ⟨z19, c20, hR⟩ := bnd_some hR
 refine oG F rfl Tryz.call5 rfl (impl_ReadGadgets_c z19 c20 _ aA (hG.go H.bl) hx0) (fun a vv w ⟨v21, hv24, S, i23⟩ F => ?_)
 subst vv
 have H := H.r1 S n0
 refine o_move F rfl rfl (fun a F => ?_)
 refine o_extract F rfl rfl rfl (fun a F => ?_)
 refine o_extract F rfl rfl rfl (fun a F => ?_)
 refine oA Tryz.zeroValue24 F rfl rfl H (fun a w b25 H F => ?_)
 refine oWA (vs := [v21]) Tryz.sizeOf24 F rfl rfl rfl H (oc (H.l 1 rfl).one on) rfl rfl (fun w H => ?_)
 refine o_assign F rfl rfl (fun a F => ?_)
 refine x_end ?_
 refine x_tn ?_
 refine x_seq ?_
 refine x_seq ?_
 obtain ⟨o29, hR, hk30⟩ := thn_some hR
 refine x_cutQ (fun a w => ∃ (s32 : Bool), o29 = .nx s32 ∧ Sk a 66 [(0, .string x0), (3, .pointer (some ⟨b18, 0, none⟩)), (4, .int .i64 z12.2), (5, .pointer (some ⟨b25, 0, none⟩)), (32, .bool s32)] ∧ Sep [] B w0 w [bx b25 [v21] 24, rl 3 RFormula 34 v21 z19.1.formulas, bx b18 [v14] 24, rl 3 RFormula 34 v14 z12.1.formulas]) ?_ ?_
 ·
  refine x_reg ?_
  refine oBA Tryz.isAgg24 Tryz.sizeOf24 F rfl rfl (H.b 0 rfl) rfl rfl (fun a F => ?_)
  refine oBA Tryz.isAgg24 Tryz.sizeOf24 F rfl rfl (H.b 2 rfl) rfl rfl (fun a F => ?_)
  obtain ⟨z33, c34, hR⟩ := bnd_some hR
  refine nEq (V := Agg 1 RGadgets) F rfl Tryz.call6 rfl H (RGadgets.m (H.l 1 rfl)) (RGadgets.m (H.l 3 rfl)) c34 (fun h g => eqGadgets_any _ _ _ _ _ _ h.r g.r h.m g.m) (fun a w H F => ?_)
  refine o_not F rfl rfl (fun a F => ?_)
  refine o_move F rfl rfl (fun a F => ?_)
  rcases bcases (!z33) with hb35 | hb35
  ·
   replace hR := ifT hb35 hR
   have F := F.eq (t := 28) rfl (congrArg Value.bool hb35)
   refine o_no F rfl rfl (fun a F => ?_)
   refine o_no F rfl rfl (fun a F => ?_)
   refine o_no F rfl rfl (fun a F => ?_)
   refine o_pickt F rfl rfl rfl (fun a F => ?_)
   refine x_end ?_
   refine x_tn ?_
   exact ⟨true, (Option.some.inj hR).symm, F.sub (sc rfl (sc rfl (sc rfl (sc rfl (sc rfl sn))))), H⟩
  replace hR := ifF hb35 hR
  have F := F.eq (t := 28) rfl (congrArg Value.bool hb35)
  refine o_move F rfl rfl (fun a F => ?_)
  refine o_move F rfl rfl (fun a F => ?_)
  refine o_neq F rfl rfl rfl (fun a F => ?_)
  refine o_pickf F rfl rfl rfl (fun a F => ?_)
  refine x_end ?_
  refine x_tn ?_
  exact ⟨(z19.2 != z12.2), (Option.some.inj hR).symm, F.sub (sc rfl (sc rfl (sc rfl (sc rfl (sc rfl sn))))), H⟩
 intro a w ⟨s32, ho31, F, H⟩
 subst ho31
 have hR := then_nx hk30
 refine x_tn ?_
 refine x_if F rfl (fun hb36 => ?_) (fun hb36 => ?_)
 ·
  replace hR := ifT hb36 hR
  refine x_seq ?_
  refine x_reg ?_
  refine o_assign F rfl rfl (fun a F => ?_)
  refine x_end ?_
  refine x_tn ?_
  refine x_ret ?_
  refine x_tr ?_
  refine x_res1 F rfl (rv_t F rfl) ?_
  obtain rfl := Option.some.inj hR
  exact ⟨rfl, H.bl⟩
 replace hR := ifF hb36 hR
 refine x_skip ?_
 refine x_tn ?_
 refine x_seq ?_
 refine x_reg ?_
 refine o_assign F rfl rfl (fun a F => ?_)
 refine x_end ?_
 refine x_tn ?_
 refine x_seq ?_
 refine x_reg ?_
 refine oBA Tryz.isAgg24 Tryz.sizeOf24 F rfl rfl (H.b 0 rfl) rfl rfl (fun a F => ?_)
 refine o_move F rfl rfl (fun a F => ?_)
 have H := (RGadgets.w (H.s [1, 0, 2, 3] rfl rfl))
 obtain ⟨z38, c39, hR⟩ := bnd_some hR
 refine nMk (V := Agg 1 RGadgets) (x' := ((Gadgets.mk z19.1.formulas).mkv 1)) F rfl Tryz.call7 rfl H c39 (fun h o h0 h1 => markGadgets_any _ _ _ _ _ _ h.r o h0 h1) (fun a w H iz38 F => ?_)
 refine o_assign F rfl rfl (fun a F => ?_)
 refine x_end ?_
 refine x_tn ?_
 refine x_seq ?_
 refine x_reg ?_
 refine o_assign F rfl rfl (fun a F => ?_)
 refine x_end ?_
 refine x_tn ?_
 refine x_seq ?_
 refine x_reg ?_
 refine oBA Tryz.isAgg24 Tryz.sizeOf24 F rfl rfl (H.b 1 rfl) rfl rfl (fun a F => ?_)
 refine o_move F rfl rfl (fun a F => ?_)
 refine nHl (V := Agg 1 RGadgets) F rfl Tryz.call8 rfl H (H.o 0 rfl) c39 (fun h h0 h1 => heldGadgets_any _ _ _ _ _ h.r h.m h0 h1) (fun a w H iz38 F => ?_)
 refine o_assign F rfl rfl (fun a F => ?_)
 refine x_end ?_
 refine x_tn ?_
 refine x_seq ?_
 refine x_seq ?_
 refine x_reg ?_
 refine o_move F rfl rfl (fun a F => ?_)
 refine o_lss F rfl rfl rfl (fun a F => ?_)
 refine x_end ?_
 refine x_tn ?_
 refine x_if F rfl (fun hb40 => ?_) (fun hb40 => ?_)
 ·
  replace hR := ifT hb40 hR
  refine x_seq ?_
  refine x_reg ?_
  refine o_assign F rfl rfl (fun a F => ?_)
  refine x_end ?_
  refine x_tn ?_
  refine x_ret ?_
  refine x_tr ?_
  refine x_res1 F rfl (rv_t F rfl) ?_
  obtain rfl := Option.some.inj hR
  exact ⟨rfl, H.bl⟩
 replace hR := ifF hb40 hR
 refine x_skip ?_
 refine x_tn ?_
 refine x_seq ?_
 refine x_seq ?_
 refine x_reg ?_
 refine o_move F rfl rfl (fun a F => ?_)
 refine o_move F rfl rfl (fun a F => ?_)
 refine o_neq F rfl rfl rfl (fun a F => ?_)
 refine x_end ?_
 refine x_tn ?_
 refine x_if F rfl (fun hb41 => ?_) (fun hb41 => ?_)
 ·
  replace hR := ifT hb41 hR
  refine x_seq ?_
  refine x_reg ?_
  refine o_assign F rfl rfl (fun a F => ?_)
  refine x_end ?_
  refine x_tn ?_
  refine x_ret ?_
  refine x_tr ?_
  refine x_res1 F rfl (rv_t F rfl) ?_
  obtain rfl := Option.some.inj hR
  exact ⟨rfl, H.bl⟩
 replace hR := ifF hb41 hR
 refine x_skip ?_
 refine x_tn ?_
 refine x_seq ?_
 refine x_reg ?_
 refine o_move F rfl rfl (fun a F => ?_)
 refine oG F rfl Tryz.call5 rfl (impl_ReadGadgets_c z19 c20 _ aA (hG.go H.bl) hx0) (fun a vv w ⟨v42, hv45, S, i44⟩ F => ?_)
 subst vv
 have H := H.r1 S n0
 refine o_move F rfl rfl (fun a F => ?_)
 refine o_extract F rfl rfl rfl (fun a F => ?_)
 refine o_extract F rfl rfl rfl (fun a F => ?_)
 refine oA Tryz.zeroValue24 F rfl rfl H (fun a w b46 H F => ?_)
 refine oWA (vs := [v42]) Tryz.sizeOf24 F rfl rfl rfl H (oc (H.l 1 rfl).one on) rfl rfl (fun w H => ?_)
 refine o_assign F rfl rfl (fun a F => ?_)
 refine x_end ?_
 refine x_tn ?_
 refine x_seq ?_
 refine x_seq ?_
 obtain ⟨o50, hR, hk51⟩ := thn_some hR
 refine x_cutQ (fun a w => ∃ (s53 : Bool), o50 = .nx s53 ∧ Sk a 66 [(5, .pointer (some ⟨b25, 0, none⟩)), (7, .int .i64 z38), (57, .bool s53)] ∧ Sep [] B w0 w [ow (V := (Agg 1 RGadgets)) (.agg #[v21]) ((Gadgets.mk z19.1.formulas).mkv 1), bx b25 [v21] 24]) ?_ ?_
 ·
  refine x_reg ?_
  refine oBA Tryz.isAgg24 Tryz.sizeOf24 F rfl rfl (H.b 0 rfl) rfl rfl (fun a F => ?_)
  refine oBA Tryz.isAgg24 Tryz.sizeOf24 F rfl rfl (H.b 4 rfl) rfl rfl (fun a F => ?_)
  obtain ⟨z54, c55, hR⟩ := bnd_some hR
  refine nEq (V := Agg 1 RGadgets) F rfl Tryz.call6 rfl H (RGadgets.m (H.l 1 rfl)) (RGadgets.m (H.l 5 rfl)) c55 (fun h g => eqGadgets_any _ _ _ _ _ _ h.r g.r h.m g.m) (fun a w H F => ?_)
  refine o_not F rfl rfl (fun a F => ?_)
  refine o_move F rfl rfl (fun a F => ?_)
  rcases bcases (!z54) with hb56 | hb56
  ·
   replace hR := ifT hb56 hR
   have F := F.eq (t := 53) rfl (congrArg Value.bool hb56)
   refine o_no F rfl rfl (fun a F => ?_)
   refine o_no F rfl rfl (fun a F => ?_)
   refine o_no F rfl rfl (fun a F => ?_)
   refine o_pickt F rfl rfl rfl (fun a F => ?_)
   refine x_end ?_
   refine x_tn ?_
   exact ⟨true, (Option.some.inj hR).symm, F.sub (sc rfl (sc rfl (sc rfl sn))), (H.s [2, 3] rfl rfl)⟩
  replace hR := ifF hb56 hR
  have F := F.eq (t := 53) rfl (congrArg Value.bool hb56)
  refine o_move F rfl rfl (fun a F => ?_)
  refine o_move F rfl rfl (fun a F => ?_)
  refine o_neq F rfl rfl rfl (fun a F => ?_)
  refine o_pickf F rfl rfl rfl (fun a F => ?_)
  refine x_end ?_
  refine x_tn ?_
  exact ⟨(z19.2 != z12.2), (Option.some.inj hR).symm, F.sub (sc rfl (sc rfl (sc rfl sn))), (H.s [2, 3] rfl rfl)⟩
 intro a w ⟨s53, ho52, F, H⟩
 subst ho52
 have hR := then_nx hk51
 refine x_tn ?_
 refine x_if F rfl (fun hb57 => ?_) (fun hb57 => ?_)
 ·
  replace hR := ifT hb57 hR
  refine x_seq ?_
  refine x_reg ?_
  refine o_assign F rfl rfl (fun a F => ?_)
  refine x_end ?_
  refine x_tn ?_
  refine x_ret ?_
  refine x_tr ?_
  refine x_res1 F rfl (rv_t F rfl) ?_
  obtain rfl := Option.some.inj hR
  exact ⟨rfl, H.bl⟩
 replace hR := ifF hb57 hR
 refine x_skip ?_
 refine x_tn ?_
 refine x_seq ?_
 refine x_reg ?_
 refine o_assign F rfl rfl (fun a F => ?_)
 refine x_end ?_
 refine x_tn ?_
 refine x_seq ?_
 refine x_reg ?_
 refine oBA Tryz.isAgg24 Tryz.sizeOf24 F rfl rfl (H.b 1 rfl) rfl rfl (fun a F => ?_)
 refine o_move F rfl rfl (fun a F => ?_)
 refine nHl (V := Agg 1 RGadgets) F rfl Tryz.call8 rfl H (H.o 0 rfl) c39 (fun h h0 h1 => heldGadgets_any _ _ _ _ _ h.r h.m h0 h1) (fun a w H iz38 F => ?_)
 refine o_assign F rfl rfl (fun a F => ?_)
 refine x_end ?_
 refine x_tn ?_
 refine x_seq ?_
 refine x_seq ?_
 refine x_reg ?_
 refine o_move F rfl rfl (fun a F => ?_)
 refine o_lss F rfl rfl rfl (fun a F => ?_)
 refine x_end ?_
 refine x_tn ?_
 refine x_if F rfl (fun hb58 => ?_) (fun hb58 => ?_)
 ·
  replace hR := ifT hb58 hR
  refine x_seq ?_
  refine x_reg ?_
  refine o_assign F rfl rfl (fun a F => ?_)
  refine x_end ?_
  refine x_tn ?_
  refine x_ret ?_
  refine x_tr ?_
  refine x_res1 F rfl (rv_t F rfl) ?_
  obtain rfl := Option.some.inj hR
  exact ⟨rfl, H.bl⟩
 replace hR := ifF hb58 hR
 refine x_skip ?_
 refine x_tn ?_
 refine x_seq ?_
 refine x_seq ?_
 refine x_reg ?_
 refine o_move F rfl rfl (fun a F => ?_)
 refine o_move F rfl rfl (fun a F => ?_)
 refine o_neq F rfl rfl rfl (fun a F => ?_)
 refine x_end ?_
 refine x_tn ?_
 refine x_if F rfl (fun hb59 => ?_) (fun hb59 => ?_)
 ·
  replace hR := ifT hb59 hR
  refine x_seq ?_
  refine x_reg ?_
  refine o_assign F rfl rfl (fun a F => ?_)
  refine x_end ?_
  refine x_tn ?_
  refine x_ret ?_
  refine x_tr ?_
  refine x_res1 F rfl (rv_t F rfl) ?_
  obtain rfl := Option.some.inj hR
  exact ⟨rfl, H.bl⟩
 replace hR := ifF hb59 hR
 refine x_skip ?_
 refine x_tn ?_
 refine x_seq ?_
 refine x_reg ?_
 refine o_assign F rfl rfl (fun a F => ?_)
 refine x_end ?_
 refine x_tn ?_
 refine x_ret ?_
 refine x_res1 F rfl (rv_t F rfl) ?_
 obtain rfl := Option.some.inj hR
 exact ⟨rfl, H.bl⟩
end
end Go.Proofs.YtbgkhipclkhlcaaGreatDoor
