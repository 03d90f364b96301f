/-
  Laws of the program as plain functions, and that they compute them. Printed by slaw.py.
-/
import Derived.Test.YtmgdjaiaekhkgaaGreatS3
import Derived.Test.YtmgdjaiaekhkgaaGreatNY
import Derived.Test.YtmgdjaiaekhkgaaGreatL1
import Derived.Test.YtmgdjaiaekhkgaaGreatL2
import Derived.Test.YtmgdjaiaekhkgaaGreatL3
namespace Go.Proofs.YtmgdjaiaekhkgaaGreat
set_option linter.unusedVariables false
set_option linter.unusedSimpArgs false
set_option maxRecDepth 100000
open Go.RowKit
noncomputable section
def laws_FnExactFirstWrong (N : Nat) (x0 : Template) (x1 : Template) (x2 : Gadgets) : Option Bool :=
 bnd (szq 1048576 ((Template.mk x0.size x0.rels).sz)) fun z22 =>
 if (decide (z22 < 0)) then
  some true
 else
  bnd (szq z22 ((Template.mk x1.size x1.rels).sz)) fun z25 =>
  if (decide (z25 < 0)) then
   some true
  else
   bnd (szq z25 ((Gadgets.mk x2.formulas).sz)) fun z28 =>
   if (decide (z28 < 0)) then
    some true
   else
    bnd (toq ((Template.mk x0.size x0.rels).sz)) fun z31 =>
    bnd (toq ((Template.mk x1.size x1.rels).sz)) fun z35 =>
    bnd (toq ((Gadgets.mk x2.formulas).sz)) fun z39 =>
    bnd (spec_FirstWrong N (Template.mk x0.size x0.rels) (Template.mk x1.size x1.rels) (Gadgets.mk x2.formulas)) fun z43 =>
    bnd (impl_FirstWrong N (Template.mk x0.size x0.rels) (Template.mk x1.size x1.rels) (Gadgets.mk x2.formulas)) fun z87 =>
    thn (σ := Bool) (
     if (z87.1 != z43.1) then  some (.nx true) else  bnd (eqq z87.2.1 z43.2.1) fun z103 =>
      if (!z103) then  some (.nx true) else  some (.nx (z87.2.2 != z43.2.2))) fun s101 =>
    if s101 then
     some false
    else
     bnd (eqq (Template.mk x0.size x0.rels) (Template.mk x0.size x0.rels)) fun z109 =>
     if (!z109) then
      some false
     else
      bnd (eqq (Template.mk x1.size x1.rels) (Template.mk x1.size x1.rels)) fun z123 =>
      if (!z123) then
       some false
      else
       bnd (eqq (Gadgets.mk x2.formulas) (Gadgets.mk x2.formulas)) fun z137 =>
       if (!z137) then
        some false
       else
        bnd (mkq 1 ((Template.mk x0.size x0.rels).cnt)) fun z149 =>
        bnd (mkq z149 ((Template.mk x1.size x1.rels).cnt)) fun z151 =>
        bnd (mkq z151 ((Gadgets.mk x2.formulas).cnt)) fun z153 =>
        thn (σ := Bool) (
         if (decide (z153 < 0)) then  some (.nx true) else  if (z87.1 != z43.1) then  some (.nx true) else  bnd (eqq z87.2.1 z43.2.1) fun z166 =>
           if (!z166) then  some (.nx true) else  some (.nx (z87.2.2 != z43.2.2))) fun s163 =>
        if s163 then
         some false
        else
         bnd (mkq 1 (cntS cI z87.2.1)) fun z170 =>
         if (decide (z170 < 0)) then
          some false
         else
          if (z170 != z170) then
           some false
          else
           thn (σ := Bool) (
            if (z87.1 != z43.1) then  some (.nx true) else  bnd (eqq z87.2.1 z43.2.1) fun z205 =>
             if (!z205) then  some (.nx true) else  some (.nx (z87.2.2 != z43.2.2))) fun s203 =>
           if s203 then
            some false
           else
            if (decide (z170 < 0)) then
             some false
            else
             if (z170 != z170) then
              some false
             else
              some true
set_option maxHeartbeats 1000000 in
theorem laws_FnExactFirstWrong_c {B : Nat → Prop} {N : Nat} {x0 : Template} {x1 : Template} {x2 : Gadgets} (r : Bool) (hR : laws_FnExactFirstWrong N x0 x1 x2 = some r) {v0 : Value} {v1 : Value} {v2 : Value} (w0 : World) (hN : ∀ c, B c → c < w0.heap.size) (A0 : Bo B w0 (Agg 2 RTemplate) v0 x0) (A1 : Bo B w0 (Agg 2 RTemplate) v1 x1) (A2 : Bo B w0 (Agg 1 RGadgets) v2 x2) : Calls Tryz.prog 4 #[v0, v1, v2] w0 (Says (.bool r) w0) := by
 unfold laws_FnExactFirstWrong at hR
 refine x_enter (L := [(0, v0), (1, v1), (2, v2)]) Tryz.func4 rfl rfl rfl (sc rfl (sc rfl (sc rfl sn))) (fun a F => ?_)
 have H := Sep.start hN
 refine x_seq ?_
 refine x_reg ?_
 obtain ⟨v12, rfl, i11, h13⟩ := RTemplate.o A0
 refine oX F rfl rfl rfl H (fun a w b14 H F => ?_)
 obtain ⟨v16, rfl, i15, h17⟩ := RTemplate.o A1
 refine oX F rfl rfl rfl H (fun a w b18 H F => ?_)
 obtain ⟨v19, rfl, h20⟩ := RGadgets.o A2
 refine oX F rfl rfl rfl H (fun a w b21 H F => ?_)
 refine o_assign F rfl rfl (fun a F => ?_)
 refine x_end ?_
 refine x_tn ?_
 refine x_seq ?_
 refine x_reg ?_
 refine o_assign F rfl rfl (fun a F => ?_)
 refine x_end ?_
 refine x_tn ?_
 refine x_seq ?_
 refine x_reg ?_
 refine oBA Tryz.isAgg24 Tryz.sizeOf24 F rfl rfl (H.b 2 rfl) rfl rfl (fun a F => ?_)
 refine o_move F rfl rfl (fun a F => ?_)
 obtain ⟨z22, c23, hR⟩ := bnd_some hR
 refine nSz (V := Agg 2 RTemplate) F rfl Tryz.call10 rfl H (RTemplate.m i11 (H.a h13)) c23 (fun h h0 h1 => szTemplate_any _ _ _ _ _ h.r h.m h0 h1) (fun a w H iz22 F => ?_)
 refine o_assign F rfl rfl (fun a F => ?_)
 refine x_end ?_
 refine x_tn ?_
 refine x_seq ?_
 refine x_seq ?_
 refine x_reg ?_
 refine o_move F rfl rfl (fun a F => ?_)
 refine o_lss F rfl rfl rfl (fun a F => ?_)
 refine x_end ?_
 refine x_tn ?_
 refine x_if F rfl (fun hb24 => ?_) (fun hb24 => ?_)
 ·
  replace hR := ifT hb24 hR
  refine x_seq ?_
  refine x_reg ?_
  refine o_assign F rfl rfl (fun a F => ?_)
  refine x_end ?_
  refine x_tn ?_
  refine x_ret ?_
  refine x_tr ?_
  refine x_res1 F rfl (rv_t F rfl) ?_
  obtain rfl := Option.some.inj hR
  exact ⟨rfl, H.bl⟩
 replace hR := ifF hb24 hR
 refine x_skip ?_
 refine x_tn ?_
 refine x_seq ?_
 refine x_reg ?_
 refine oBA Tryz.isAgg24 Tryz.sizeOf24 F rfl rfl (H.b 1 rfl) rfl rfl (fun a F => ?_)
 refine o_move F rfl rfl (fun a F => ?_)
 obtain ⟨z25, c26, hR⟩ := bnd_some hR
 refine nSz (V := Agg 2 RTemplate) F rfl Tryz.call10 rfl H (RTemplate.m i15 (H.a h17)) c26 (fun h h0 h1 => szTemplate_any _ _ _ _ _ h.r h.m h0 h1) (fun a w H iz25 F => ?_)
 refine o_assign F rfl rfl (fun a F => ?_)
 refine x_end ?_
 refine x_tn ?_
 refine x_seq ?_
 refine x_seq ?_
 refine x_reg ?_
 refine o_move F rfl rfl (fun a F => ?_)
 refine o_lss F rfl rfl rfl (fun a F => ?_)
 refine x_end ?_
 refine x_tn ?_
 refine x_if F rfl (fun hb27 => ?_) (fun hb27 => ?_)
 ·
  replace hR := ifT hb27 hR
  refine x_seq ?_
  refine x_reg ?_
  refine o_assign F rfl rfl (fun a F => ?_)
  refine x_end ?_
  refine x_tn ?_
  refine x_ret ?_
  refine x_tr ?_
  refine x_res1 F rfl (rv_t F rfl) ?_
  obtain rfl := Option.some.inj hR
  exact ⟨rfl, H.bl⟩
 replace hR := ifF hb27 hR
 refine x_skip ?_
 refine x_tn ?_
 refine x_seq ?_
 refine x_reg ?_
 refine oBA Tryz.isAgg27 Tryz.sizeOf27 F rfl rfl (H.b 0 rfl) rfl rfl (fun a F => ?_)
 refine o_move F rfl rfl (fun a F => ?_)
 obtain ⟨z28, c29, hR⟩ := bnd_some hR
 refine nSz (V := Agg 1 RGadgets) F rfl Tryz.call11 rfl H (RGadgets.m (H.a h20)) c29 (fun h h0 h1 => szGadgets_any _ _ _ _ _ h.r h.m h0 h1) (fun a w H iz28 F => ?_)
 refine o_assign F rfl rfl (fun a F => ?_)
 refine x_end ?_
 refine x_tn ?_
 refine x_seq ?_
 refine x_seq ?_
 refine x_reg ?_
 refine o_move F rfl rfl (fun a F => ?_)
 refine o_lss F rfl rfl rfl (fun a F => ?_)
 refine x_end ?_
 refine x_tn ?_
 refine x_if F rfl (fun hb30 => ?_) (fun hb30 => ?_)
 ·
  replace hR := ifT hb30 hR
  refine x_seq ?_
  refine x_reg ?_
  refine o_assign F rfl rfl (fun a F => ?_)
  refine x_end ?_
  refine x_tn ?_
  refine x_ret ?_
  refine x_tr ?_
  refine x_res1 F rfl (rv_t F rfl) ?_
  obtain rfl := Option.some.inj hR
  exact ⟨rfl, H.bl⟩
 replace hR := ifF hb30 hR
 refine x_skip ?_
 refine x_tn ?_
 refine x_seq ?_
 obtain ⟨z31, c32, hR⟩ := bnd_some hR
 obtain ⟨z35, c36, hR⟩ := bnd_some hR
 obtain ⟨z39, c40, hR⟩ := bnd_some hR
 obtain ⟨z43, c44, hR⟩ := bnd_some hR
 obtain ⟨w55, rfl⟩ : ∃ x, x = w := ⟨_, rfl⟩
 obtain ⟨X50, N51, g52, e53, H, th54⟩ := H.mg.mg.fz
 have K56 := g52.l.l.bk
 have K57 := g52.l.r.bk
 have K58 := g52.r.bk
 refine xD H (by kernel_rfl) (fun w H => ?_)
 refine b_q 0 (by kernel_rfl) rfl (by kernel_rfl) (by kernel_rfl) (by kernel_rfl) (by kernel_rfl) ?_
 refine vBA Tryz.isAgg24 Tryz.sizeOf24 F rfl rfl (K58.v H.sm) rfl rfl (fun a F => ?_)
 refine b_q 2 (by kernel_rfl) rfl (by kernel_rfl) (by kernel_rfl) (by kernel_rfl) (by kernel_rfl) ?_
 refine vBA Tryz.isAgg24 Tryz.sizeOf24 F rfl rfl (K57.v H.sm) rfl rfl (fun a F => ?_)
 refine b_q 4 (by kernel_rfl) rfl (by kernel_rfl) (by kernel_rfl) (by kernel_rfl) (by kernel_rfl) ?_
 refine vBA Tryz.isAgg27 Tryz.sizeOf27 F rfl rfl (K56.v H.sm) rfl rfl (fun a F => ?_)
 refine xE H 1 rfl (by kernel_rfl) ?_
 refine nTo (V := Agg 2 RTemplate) F rfl Tryz.call13 rfl H (RTemplate.m i11 (H.a (e53 h13))) (fun h => toTemplate_any _ _ _ _ h.r h.m (toq_some c32)) (fun a w v59 H F => ?_)
 refine x_end ?_
 refine x_tn ?_
 refine ⟨⟨_, H⟩, ?_⟩
 refine xE H 3 rfl (by kernel_rfl) ?_
 refine nTo (V := Agg 2 RTemplate) F rfl Tryz.call13 rfl H (RTemplate.m i15 (H.a (e53 h17))) (fun h => toTemplate_any _ _ _ _ h.r h.m (toq_some c36)) (fun a w v61 H F => ?_)
 refine x_end ?_
 refine x_tn ?_
 refine ⟨⟨_, H⟩, ?_⟩
 refine xE H 5 rfl (by kernel_rfl) ?_
 refine nTo (V := Agg 1 RGadgets) F rfl Tryz.call14 rfl H (RGadgets.m (H.a (e53 h20))) (fun h => toGadgets_any _ _ _ _ h.r h.m (toq_some c40)) (fun a w v63 H F => ?_)
 refine x_end ?_
 refine x_tn ?_
 refine ⟨⟨_, H⟩, ?_⟩
 refine xE H 6 rfl (by kernel_rfl) ?_
 refine oG F rfl Tryz.call18 rfl (spec_FirstWrong_c z43 c44 _ aA (H.o 2 rfl) (H.o 1 rfl) (H.o 0 rfl)) (fun a vv w ⟨v66, hv69, S, i65, i68⟩ F => ?_)
 subst vv
 have H := H.r1 S n0
 refine x_end ?_
 refine x_tn ?_
 refine ⟨⟨_, H⟩, ?_⟩
 refine b_q0 7 rfl (by kernel_rfl) (by kernel_rfl) (by kernel_rfl) ?_
 refine v_val F rfl (fun w l => r_move F rfl) (fun a F => ?_)
 refine b_q0 8 rfl (by kernel_rfl) (by kernel_rfl) (by kernel_rfl) ?_
 refine v_val F rfl (fun w l => r_extract F rfl rfl) (fun a F => ?_)
 refine b_q0 9 rfl (by kernel_rfl) (by kernel_rfl) (by kernel_rfl) ?_
 refine v_val F rfl (fun w l => r_extract F rfl rfl) (fun a F => ?_)
 refine b_q0 10 rfl (by kernel_rfl) (by kernel_rfl) (by kernel_rfl) ?_
 refine v_val F rfl (fun w l => r_extract F rfl rfl) (fun a F => ?_)
 refine b_q0 11 rfl (by kernel_rfl) (by kernel_rfl) (by kernel_rfl) ?_
 refine v_val F rfl (fun w l => r_assign F rfl) (fun a F => ?_)
 refine b_q0 12 rfl (by kernel_rfl) (by kernel_rfl) (by kernel_rfl) ?_
 refine v_val F rfl (fun w l => r_assign F rfl) (fun a F => ?_)
 refine b_q0 13 rfl (by kernel_rfl) (by kernel_rfl) (by kernel_rfl) ?_
 refine v_val F rfl (fun w l => r_assign F rfl) (fun a F => ?_)
 refine b_end (by kernel_rfl) ?_
 refine x_tn ?_
 refine x_seq ?_
 refine x_reg ?_
 refine oBA Tryz.isAgg24 Tryz.sizeOf24 F rfl rfl (K58.o H.sm) rfl rfl (fun a F => ?_)
 refine nTo (V := Agg 2 RTemplate) F rfl Tryz.call13 rfl H (RTemplate.m i11 (H.a (e53 h13))) (fun h => toTemplate_any _ _ _ _ h.r h.m (toq_some c32)) (fun a w v70 H F => ?_)
 refine oA Tryz.zeroValue33 F rfl rfl H (fun a w b72 H F => ?_)
 obtain ⟨v74, rfl, i73, h75⟩ := RTemplate.o (H.o 1 rfl)
 refine oWA (vs := [.int .i64 ((Template.mk x0.size x0.rels).size), v74]) Tryz.sizeOf33 F rfl rfl rfl H (oc rfl (oc h75.one on)) rfl rfl (fun w H => ?_)
 refine x_end ?_
 refine x_tn ?_
 refine x_seq ?_
 refine x_reg ?_
 refine oBA Tryz.isAgg24 Tryz.sizeOf24 F rfl rfl (K57.o H.sm) rfl rfl (fun a F => ?_)
 refine nTo (V := Agg 2 RTemplate) F rfl Tryz.call13 rfl H (RTemplate.m i15 (H.a (e53 h17))) (fun h => toTemplate_any _ _ _ _ h.r h.m (toq_some c36)) (fun a w v76 H F => ?_)
 refine oA Tryz.zeroValue33 F rfl rfl H (fun a w b78 H F => ?_)
 obtain ⟨v80, rfl, i79, h81⟩ := RTemplate.o (H.o 1 rfl)
 refine oWA (vs := [.int .i64 ((Template.mk x1.size x1.rels).size), v80]) Tryz.sizeOf33 F rfl rfl rfl H (oc rfl (oc h81.one on)) rfl rfl (fun w H => ?_)
 refine x_end ?_
 refine x_tn ?_
 refine x_seq ?_
 refine x_reg ?_
 refine oBA Tryz.isAgg27 Tryz.sizeOf27 F rfl rfl (K56.o H.sm) rfl rfl (fun a F => ?_)
 refine nTo (V := Agg 1 RGadgets) F rfl Tryz.call14 rfl H (RGadgets.m (H.a (e53 h20))) (fun h => toGadgets_any _ _ _ _ h.r h.m (toq_some c40)) (fun a w v82 H F => ?_)
 refine oA Tryz.zeroValue37 F rfl rfl H (fun a w b84 H F => ?_)
 obtain ⟨v85, rfl, h86⟩ := RGadgets.o (H.o 1 rfl)
 refine oWA (vs := [v85]) Tryz.sizeOf37 F rfl rfl rfl H (oc h86.one on) rfl rfl (fun w H => ?_)
 refine x_end ?_
 refine x_tn ?_
 refine x_seq ?_
 refine x_reg ?_
 refine oBA Tryz.isAgg33 Tryz.sizeOf33 F rfl rfl (H.b 4 rfl) rfl rfl (fun a F => ?_)
 refine oBA Tryz.isAgg33 Tryz.sizeOf33 F rfl rfl (H.b 2 rfl) rfl rfl (fun a F => ?_)
 refine oBA Tryz.isAgg37 Tryz.sizeOf37 F rfl rfl (H.b 0 rfl) rfl rfl (fun a F => ?_)
 obtain ⟨z87, c88, hR⟩ := bnd_some hR
 refine oG F rfl Tryz.call19 rfl (impl_FirstWrong_c z87 c88 _ aA (H.o 5 rfl) (H.o 3 rfl) (H.o 1 rfl)) (fun a vv w ⟨v90, hv93, S, i89, i92⟩ F => ?_)
 subst vv
 have H := H.r1 S n0
 refine o_move F rfl rfl (fun a F => ?_)
 refine o_extract F rfl rfl rfl (fun a F => ?_)
 refine o_extract F rfl rfl rfl (fun a F => ?_)
 refine o_extract F rfl rfl rfl (fun a F => ?_)
 refine o_assign F rfl rfl (fun a F => ?_)
 refine o_assign F rfl rfl (fun a F => ?_)
 refine o_assign F rfl rfl (fun a F => ?_)
 refine x_end ?_
 refine x_tn ?_
 refine x_seq ?_
 refine x_seq ?_
 obtain ⟨o98, hR, hk99⟩ := thn_some hR
 refine x_cutQ (fun a w => ∃ (s101 : Bool), o98 = .nx s101 ∧ Sk a 163 [(3, .pointer (some ⟨b14, 0, none⟩)), (4, .pointer (some ⟨b18, 0, none⟩)), (5, .pointer (some ⟨b21, 0, none⟩)), (8, .int .i64 z43.1), (9, v66), (10, .int .i64 z43.2.2), (11, .pointer (some ⟨b72, 0, none⟩)), (12, .pointer (some ⟨b78, 0, none⟩)), (13, .pointer (some ⟨b84, 0, none⟩)), (14, .int .i64 z87.1), (15, v90), (16, .int .i64 z87.2.2), (76, .bool s101)] ∧ Sep X50 N51 w55 w [rl 1 RInt 2 v90 z87.2.1, bx b84 [v85] 37, ow (V := (Agg 1 RGadgets)) (.agg #[v85]) (Gadgets.mk x2.formulas), bx b78 [.int .i64 ((Template.mk x1.size x1.rels).size), v80] 33, ow (V := (Agg 2 RTemplate)) (.agg #[.int .i64 ((Template.mk x1.size x1.rels).size), v80]) (Template.mk x1.size x1.rels), bx b72 [.int .i64 ((Template.mk x0.size x0.rels).size), v74] 33, ow (V := (Agg 2 RTemplate)) (.agg #[.int .i64 ((Template.mk x0.size x0.rels).size), v74]) (Template.mk x0.size x0.rels), rl 1 RInt 2 v66 z43.2.1]) ?_ ?_
 ·
  refine x_reg ?_
  refine o_move F rfl rfl (fun a F => ?_)
  refine o_move F rfl rfl (fun a F => ?_)
  refine o_neq F rfl rfl rfl (fun a F => ?_)
  refine o_move F rfl rfl (fun a F => ?_)
  rcases bcases (z87.1 != z43.1) with hb102 | hb102
  ·
   replace hR := ifT hb102 hR
   have F := F.eq (t := 66) rfl (congrArg Value.bool hb102)
   refine o_no F rfl rfl (fun a F => ?_)
   refine o_no F rfl rfl (fun a F => ?_)
   refine o_no F rfl rfl (fun a F => ?_)
   refine o_no F rfl rfl (fun a F => ?_)
   refine o_pickt F rfl rfl rfl (fun a F => ?_)
   refine o_move F rfl rfl (fun a F => ?_)
   refine o_no F rfl rfl (fun a F => ?_)
   refine o_no F rfl rfl (fun a F => ?_)
   refine o_no F rfl rfl (fun a F => ?_)
   refine o_pickt F rfl rfl rfl (fun a F => ?_)
   refine x_end ?_
   refine x_tn ?_
   exact ⟨true, (Option.some.inj hR).symm, F.sub (sc rfl (sc rfl (sc rfl (sc rfl (sc rfl (sc rfl (sc rfl (sc rfl (sc rfl (sc rfl (sc rfl (sc rfl (sc rfl sn))))))))))))), (H.s [0, 1, 2, 3, 4, 5, 6, 7] rfl rfl)⟩
  replace hR := ifF hb102 hR
  have F := F.eq (t := 66) rfl (congrArg Value.bool hb102)
  refine o_move F rfl rfl (fun a F => ?_)
  refine o_move F rfl rfl (fun a F => ?_)
  obtain ⟨z103, c104, hR⟩ := bnd_some hR
  refine nEq (V := Sl 1 RInt) F rfl Tryz.call20 rfl H (H.l 0 rfl) (H.l 7 rfl) c104 (fun h g => eqInt64S_any _ _ _ _ _ _ h.r g.r h.m g.m) (fun a w H F => ?_)
  refine o_not F rfl rfl (fun a F => ?_)
  refine o_pickf F rfl rfl rfl (fun a F => ?_)
  refine o_move F rfl rfl (fun a F => ?_)
  rcases bcases (!z103) with hb105 | hb105
  ·
   replace hR := ifT hb105 hR
   have F := F.eq (t := 72) rfl (congrArg Value.bool hb105)
   refine o_no F rfl rfl (fun a F => ?_)
   refine o_no F rfl rfl (fun a F => ?_)
   refine o_no F rfl rfl (fun a F => ?_)
   refine o_pickt F rfl rfl rfl (fun a F => ?_)
   refine x_end ?_
   refine x_tn ?_
   exact ⟨true, (Option.some.inj hR).symm, F.sub (sc rfl (sc rfl (sc rfl (sc rfl (sc rfl (sc rfl (sc rfl (sc rfl (sc rfl (sc rfl (sc rfl (sc rfl (sc rfl sn))))))))))))), (H.s [0, 1, 2, 3, 4, 5, 6, 7] rfl rfl)⟩
  replace hR := ifF hb105 hR
  have F := F.eq (t := 72) rfl (congrArg Value.bool hb105)
  refine o_move F rfl rfl (fun a F => ?_)
  refine o_move F rfl rfl (fun a F => ?_)
  refine o_neq F rfl rfl rfl (fun a F => ?_)
  refine o_pickf F rfl rfl rfl (fun a F => ?_)
  refine x_end ?_
  refine x_tn ?_
  exact ⟨(z87.2.2 != z43.2.2), (Option.some.inj hR).symm, F.sub (sc rfl (sc rfl (sc rfl (sc rfl (sc rfl (sc rfl (sc rfl (sc rfl (sc rfl (sc rfl (sc rfl (sc rfl (sc rfl sn))))))))))))), (H.s [0, 1, 2, 3, 4, 5, 6, 7] rfl rfl)⟩
 intro a w ⟨s101, ho100, F, H⟩
 subst ho100
 have hR := then_nx hk99
 refine x_tn ?_
 refine x_if F rfl (fun hb106 => ?_) (fun hb106 => ?_)
 ·
  replace hR := ifT hb106 hR
  refine x_seq ?_
  refine x_reg ?_
  refine o_assign F rfl rfl (fun a F => ?_)
  refine x_end ?_
  refine x_tn ?_
  refine x_ret ?_
  refine x_tr ?_
  have H := (th54.1 H (Ns.all ⟨n0, ⟨n0, ⟨n0, ⟨n0, ⟨n0, ⟨n0, ⟨n0, ⟨n0, trivial⟩⟩⟩⟩⟩⟩⟩⟩)).um.um
  refine x_res1 F rfl (rv_t F rfl) ?_
  obtain rfl := Option.some.inj hR
  exact ⟨rfl, H.bl⟩
 replace hR := ifF hb106 hR
 refine x_skip ?_
 refine x_tn ?_
 refine x_seq ?_
 refine x_seq ?_
 obtain ⟨z109, c110, hR⟩ := bnd_some hR
 obtain ⟨w116, rfl⟩ : ∃ x, x = w := ⟨_, rfl⟩
 obtain ⟨X111, N112, g113, e114, H, th115⟩ := (H.s [5, 0, 1, 2, 3, 4, 6, 7] rfl rfl).fz
 have K117 := g113.bk
 refine xD H (by kernel_rfl) (fun w H => ?_)
 refine b_q 0 (by kernel_rfl) rfl (by kernel_rfl) (by kernel_rfl) (by kernel_rfl) (by kernel_rfl) ?_
 refine vBA Tryz.isAgg33 Tryz.sizeOf33 F rfl rfl (K117.v H.sm) rfl rfl (fun a F => ?_)
 refine b_q 1 (by kernel_rfl) rfl (by kernel_rfl) (by kernel_rfl) (by kernel_rfl) (by kernel_rfl) ?_
 refine vBA Tryz.isAgg24 Tryz.sizeOf24 F rfl rfl ((K58.lf e114).v H.sm) rfl rfl (fun a F => ?_)
 refine xE H 2 rfl (by kernel_rfl) ?_
 refine nTo (V := Agg 2 RTemplate) F rfl Tryz.call13 rfl H (RTemplate.m i11 (H.a (e114 (e53 h13)))) (fun h => toTemplate_any _ _ _ _ h.r h.m (toq_some c32)) (fun a w v118 H F => ?_)
 refine x_end ?_
 refine x_tn ?_
 refine ⟨⟨_, H⟩, ?_⟩
 refine xE H 3 rfl (by kernel_rfl) ?_
 refine nEq (V := Agg 2 RTemplate) F rfl Tryz.call16 rfl H (H.o 6 rfl) (H.o 0 rfl) c110 (fun h g => eqTemplate_any _ _ _ _ _ _ h.r g.r h.m g.m) (fun a w H F => ?_)
 refine x_end ?_
 refine x_tn ?_
 refine ⟨⟨_, H⟩, ?_⟩
 refine b_q0 4 rfl (by kernel_rfl) (by kernel_rfl) (by kernel_rfl) ?_
 refine v_val F rfl (fun w l => r_not F rfl) (fun a F => ?_)
 refine b_end (by kernel_rfl) ?_
 refine x_tn ?_
 refine x_if F rfl (fun hb120 => ?_) (fun hb120 => ?_)
 ·
  replace hR := ifT hb120 hR
  refine x_seq ?_
  refine x_reg ?_
  refine o_assign F rfl rfl (fun a F => ?_)
  refine x_end ?_
  refine x_tn ?_
  refine x_ret ?_
  refine x_tr ?_
  have H := (th54.1 (th115.1 H (Ns.all ⟨n0, ⟨n0, ⟨n0, ⟨n0, ⟨n0, ⟨n0, ⟨n0, ⟨n0, trivial⟩⟩⟩⟩⟩⟩⟩⟩)) (Ns.all ⟨n0, ⟨n0, ⟨n0, ⟨n0, ⟨n0, ⟨n0, ⟨n0, ⟨n0, ⟨n0, trivial⟩⟩⟩⟩⟩⟩⟩⟩⟩)).um.um
  refine x_res1 F rfl (rv_t F rfl) ?_
  obtain rfl := Option.some.inj hR
  exact ⟨rfl, H.bl⟩
 replace hR := ifF hb120 hR
 refine x_skip ?_
 refine x_tn ?_
 refine x_seq ?_
 refine x_seq ?_
 obtain ⟨z123, c124, hR⟩ := bnd_some hR
 obtain ⟨w130, rfl⟩ : ∃ x, x = w := ⟨_, rfl⟩
 obtain ⟨X125, N126, g127, e128, H, th129⟩ := (H.s [4, 0, 1, 2, 3, 5, 6, 7] rfl rfl).fz
 have K131 := g127.bk
 refine xD H (by kernel_rfl) (fun w H => ?_)
 refine b_q 0 (by kernel_rfl) rfl (by kernel_rfl) (by kernel_rfl) (by kernel_rfl) (by kernel_rfl) ?_
 refine vBA Tryz.isAgg33 Tryz.sizeOf33 F rfl rfl (K131.v H.sm) rfl rfl (fun a F => ?_)
 refine b_q 1 (by kernel_rfl) rfl (by kernel_rfl) (by kernel_rfl) (by kernel_rfl) (by kernel_rfl) ?_
 refine vBA Tryz.isAgg24 Tryz.sizeOf24 F rfl rfl (((K57.lf e114).lf e128).v H.sm) rfl rfl (fun a F => ?_)
 refine xE H 2 rfl (by kernel_rfl) ?_
 refine nTo (V := Agg 2 RTemplate) F rfl Tryz.call13 rfl H (RTemplate.m i15 (H.a (e128 (e114 (e53 h17))))) (fun h => toTemplate_any _ _ _ _ h.r h.m (toq_some c36)) (fun a w v132 H F => ?_)
 refine x_end ?_
 refine x_tn ?_
 refine ⟨⟨_, H⟩, ?_⟩
 refine xE H 3 rfl (by kernel_rfl) ?_
 refine nEq (V := Agg 2 RTemplate) F rfl Tryz.call16 rfl H (H.o 5 rfl) (H.o 0 rfl) c124 (fun h g => eqTemplate_any _ _ _ _ _ _ h.r g.r h.m g.m) (fun a w H F => ?_)
 refine x_end ?_
 refine x_tn ?_
 refine ⟨⟨_, H⟩, ?_⟩
 refine b_q0 4 rfl (by kernel_rfl) (by kernel_rfl) (by kernel_rfl) ?_
 refine v_val F rfl (fun w l => r_not F rfl) (fun a F => ?_)
 refine b_end (by kernel_rfl) ?_
 refine x_tn ?_
 refine x_if F rfl (fun hb134 => ?_) (fun hb134 => ?_)
 ·
  replace hR := ifT hb134 hR
  refine x_seq ?_
  refine x_reg ?_
  refine o_assign F rfl rfl (fun a F => ?_)
  refine x_end ?_
  refine x_tn ?_
  refine x_ret ?_
  refine x_tr ?_
  have H := (th54.1 (th115.1 (th129.1 H (Ns.all ⟨n0, ⟨n0, ⟨n0, ⟨n0, ⟨n0, ⟨n0, ⟨n0, ⟨n0, trivial⟩⟩⟩⟩⟩⟩⟩⟩)) (Ns.all ⟨n0, ⟨n0, ⟨n0, ⟨n0, ⟨n0, ⟨n0, ⟨n0, ⟨n0, ⟨n0, trivial⟩⟩⟩⟩⟩⟩⟩⟩⟩)) (Ns.all ⟨n0, ⟨n0, ⟨n0, ⟨n0, ⟨n0, ⟨n0, ⟨n0, ⟨n0, ⟨n0, ⟨n0, trivial⟩⟩⟩⟩⟩⟩⟩⟩⟩⟩)).um.um
  refine x_res1 F rfl (rv_t F rfl) ?_
  obtain rfl := Option.some.inj hR
  exact ⟨rfl, H.bl⟩
 replace hR := ifF hb134 hR
 refine x_skip ?_
 refine x_tn ?_
 refine x_seq ?_
 refine x_seq ?_
 obtain ⟨z137, c138, hR⟩ := bnd_some hR
 obtain ⟨w144, rfl⟩ : ∃ x, x = w := ⟨_, rfl⟩
 obtain ⟨X139, N140, g141, e142, H, th143⟩ := (H.s [3, 0, 1, 2, 4, 5, 6, 7] rfl rfl).fz
 have K145 := g141.bk
 refine xD H (by kernel_rfl) (fun w H => ?_)
 refine b_q 0 (by kernel_rfl) rfl (by kernel_rfl) (by kernel_rfl) (by kernel_rfl) (by kernel_rfl) ?_
 refine vBA Tryz.isAgg37 Tryz.sizeOf37 F rfl rfl (K145.v H.sm) rfl rfl (fun a F => ?_)
 refine b_q 1 (by kernel_rfl) rfl (by kernel_rfl) (by kernel_rfl) (by kernel_rfl) (by kernel_rfl) ?_
 refine vBA Tryz.isAgg27 Tryz.sizeOf27 F rfl rfl ((((K56.lf e114).lf e128).lf e142).v H.sm) rfl rfl (fun a F => ?_)
 refine xE H 2 rfl (by kernel_rfl) ?_
 refine nTo (V := Agg 1 RGadgets) F rfl Tryz.call14 rfl H (RGadgets.m (H.a (e142 (e128 (e114 (e53 h20)))))) (fun h => toGadgets_any _ _ _ _ h.r h.m (toq_some c40)) (fun a w v146 H F => ?_)
 refine x_end ?_
 refine x_tn ?_
 refine ⟨⟨_, H⟩, ?_⟩
 refine xE H 3 rfl (by kernel_rfl) ?_
 refine nEq (V := Agg 1 RGadgets) F rfl Tryz.call17 rfl H (H.o 4 rfl) (H.o 0 rfl) c138 (fun h g => eqGadgets_any _ _ _ _ _ _ h.r g.r h.m g.m) (fun a w H F => ?_)
 refine x_end ?_
 refine x_tn ?_
 refine ⟨⟨_, H⟩, ?_⟩
 refine b_q0 4 rfl (by kernel_rfl) (by kernel_rfl) (by kernel_rfl) ?_
 refine v_val F rfl (fun w l => r_not F rfl) (fun a F => ?_)
 refine b_end (by kernel_rfl) ?_
 refine x_tn ?_
 refine x_if F rfl (fun hb148 => ?_) (fun hb148 => ?_)
 ·
  replace hR := ifT hb148 hR
  refine x_seq ?_
  refine x_reg ?_
  refine o_assign F rfl rfl (fun a F => ?_)
  refine x_end ?_
  refine x_tn ?_
  refine x_ret ?_
  refine x_tr ?_
  have H := (th54.1 (th115.1 (th129.1 (th143.1 H (Ns.all ⟨n0, ⟨n0, ⟨n0, ⟨n0, ⟨n0, ⟨n0, ⟨n0, ⟨n0, trivial⟩⟩⟩⟩⟩⟩⟩⟩)) (Ns.all ⟨n0, ⟨n0, ⟨n0, ⟨n0, ⟨n0, ⟨n0, ⟨n0, ⟨n0, ⟨n0, trivial⟩⟩⟩⟩⟩⟩⟩⟩⟩)) (Ns.all ⟨n0, ⟨n0, ⟨n0, ⟨n0, ⟨n0, ⟨n0, ⟨n0, ⟨n0, ⟨n0, ⟨n0, trivial⟩⟩⟩⟩⟩⟩⟩⟩⟩⟩)) (Ns.all ⟨n0, ⟨n0, ⟨n0, ⟨n0, ⟨n0, ⟨n0, ⟨n0, ⟨n0, ⟨n0, ⟨n0, ⟨n0, trivial⟩⟩⟩⟩⟩⟩⟩⟩⟩⟩⟩)).um.um
  refine x_res1 F rfl (rv_t F rfl) ?_
  obtain rfl := Option.some.inj hR
  exact ⟨rfl, H.bl⟩
 replace hR := ifF hb148 hR
 refine x_skip ?_
 refine x_tn ?_
 refine x_seq ?_
 refine x_reg ?_
 refine o_assign F rfl rfl (fun a F => ?_)
 refine x_end ?_
 refine x_tn ?_
 refine x_seq ?_
 refine x_reg ?_
 refine oBA Tryz.isAgg33 Tryz.sizeOf33 F rfl rfl (((K117.lf e128).lf e142).o H.sm) rfl rfl (fun a F => ?_)
 refine o_move F rfl rfl (fun a F => ?_)
 obtain ⟨z149, c150, hR⟩ := bnd_some hR
 refine nMk (V := Agg 2 RTemplate) (x' := ((Template.mk x0.size x0.rels).mkv 1)) F rfl Tryz.call21 rfl (H.s [6, 0, 1, 2, 3, 4, 5, 7] rfl rfl) c150 (fun h o h0 h1 => markTemplate_any _ _ _ _ _ _ h.r o h0 h1) (fun a w H iz149 F => ?_)
 refine o_assign F rfl rfl (fun a F => ?_)
 refine x_end ?_
 refine x_tn ?_
 refine x_seq ?_
 refine x_reg ?_
 refine oBA Tryz.isAgg33 Tryz.sizeOf33 F rfl rfl ((K131.lf e142).o H.sm) rfl rfl (fun a F => ?_)
 refine o_move F rfl rfl (fun a F => ?_)
 obtain ⟨z151, c152, hR⟩ := bnd_some hR
 refine nMk (V := Agg 2 RTemplate) (x' := ((Template.mk x1.size x1.rels).mkv z149)) F rfl Tryz.call21 rfl (H.s [6, 0, 1, 2, 3, 4, 5, 7] rfl rfl) c152 (fun h o h0 h1 => markTemplate_any _ _ _ _ _ _ h.r o h0 h1) (fun a w H iz151 F => ?_)
 refine o_assign F rfl rfl (fun a F => ?_)
 refine x_end ?_
 refine x_tn ?_
 refine x_seq ?_
 refine x_reg ?_
 refine oBA Tryz.isAgg37 Tryz.sizeOf37 F rfl rfl (K145.o H.sm) rfl rfl (fun a F => ?_)
 refine o_move F rfl rfl (fun a F => ?_)
 obtain ⟨z153, c154, hR⟩ := bnd_some hR
 refine nMk (V := Agg 1 RGadgets) (x' := ((Gadgets.mk x2.formulas).mkv z151)) F rfl Tryz.call22 rfl (H.s [6, 0, 1, 2, 3, 4, 5, 7] rfl rfl) c154 (fun h o h0 h1 => markGadgets_any _ _ _ _ _ _ h.r o h0 h1) (fun a w H iz153 F => ?_)
 refine o_assign F rfl rfl (fun a F => ?_)
 refine x_end ?_
 refine x_tn ?_
 refine x_seq ?_
 refine x_seq ?_
 obtain ⟨o160, hR, hk161⟩ := thn_some hR
 refine x_cutQ (fun a w => ∃ (s163 : Bool), o160 = .nx s163 ∧ Sk a 163 [(3, .pointer (some ⟨b14, 0, none⟩)), (4, .pointer (some ⟨b18, 0, none⟩)), (5, .pointer (some ⟨b21, 0, none⟩)), (8, .int .i64 z43.1), (9, v66), (10, .int .i64 z43.2.2), (15, v90), (118, .bool s163)] ∧ Sep X139 N140 w144 w [rl 1 RInt 2 v90 z87.2.1, rl 1 RInt 2 v66 z43.2.1]) ?_ ?_
 ·
  refine x_reg ?_
  refine o_move F rfl rfl (fun a F => ?_)
  refine o_lss F rfl rfl rfl (fun a F => ?_)
  refine o_move F rfl rfl (fun a F => ?_)
  rcases bcases (decide (z153 < 0)) with hb164 | hb164
  ·
   replace hR := ifT hb164 hR
   have F := F.eq (t := 103) rfl (congrArg Value.bool hb164)
   refine o_no F rfl rfl (fun a F => ?_)
   refine o_no F rfl rfl (fun a F => ?_)
   refine o_no F rfl rfl (fun a F => ?_)
   refine o_pickt F rfl rfl rfl (fun a F => ?_)
   refine o_move F rfl rfl (fun a F => ?_)
   refine o_no F rfl rfl (fun a F => ?_)
   refine o_no F rfl rfl (fun a F => ?_)
   refine o_no F rfl rfl (fun a F => ?_)
   refine o_no F rfl rfl (fun a F => ?_)
   refine o_pickt F rfl rfl rfl (fun a F => ?_)
   refine o_move F rfl rfl (fun a F => ?_)
   refine o_no F rfl rfl (fun a F => ?_)
   refine o_no F rfl rfl (fun a F => ?_)
   refine o_no F rfl rfl (fun a F => ?_)
   refine o_pickt F rfl rfl rfl (fun a F => ?_)
   refine x_end ?_
   refine x_tn ?_
   exact ⟨true, (Option.some.inj hR).symm, F.sub (sc rfl (sc rfl (sc rfl (sc rfl (sc rfl (sc rfl (sc rfl (sc rfl sn)))))))), (H.s [6, 7] rfl rfl)⟩
  replace hR := ifF hb164 hR
  have F := F.eq (t := 103) rfl (congrArg Value.bool hb164)
  refine o_move F rfl rfl (fun a F => ?_)
  refine o_move F rfl rfl (fun a F => ?_)
  refine o_neq F rfl rfl rfl (fun a F => ?_)
  refine o_pickf F rfl rfl rfl (fun a F => ?_)
  refine o_move F rfl rfl (fun a F => ?_)
  rcases bcases (z87.1 != z43.1) with hb165 | hb165
  ·
   replace hR := ifT hb165 hR
   have F := F.eq (t := 108) rfl (congrArg Value.bool hb165)
   refine o_no F rfl rfl (fun a F => ?_)
   refine o_no F rfl rfl (fun a F => ?_)
   refine o_no F rfl rfl (fun a F => ?_)
   refine o_no F rfl rfl (fun a F => ?_)
   refine o_pickt F rfl rfl rfl (fun a F => ?_)
   refine o_move F rfl rfl (fun a F => ?_)
   refine o_no F rfl rfl (fun a F => ?_)
   refine o_no F rfl rfl (fun a F => ?_)
   refine o_no F rfl rfl (fun a F => ?_)
   refine o_pickt F rfl rfl rfl (fun a F => ?_)
   refine x_end ?_
   refine x_tn ?_
   exact ⟨true, (Option.some.inj hR).symm, F.sub (sc rfl (sc rfl (sc rfl (sc rfl (sc rfl (sc rfl (sc rfl (sc rfl sn)))))))), (H.s [6, 7] rfl rfl)⟩
  replace hR := ifF hb165 hR
  have F := F.eq (t := 108) rfl (congrArg Value.bool hb165)
  refine o_move F rfl rfl (fun a F => ?_)
  refine o_move F rfl rfl (fun a F => ?_)
  obtain ⟨z166, c167, hR⟩ := bnd_some hR
  refine nEq (V := Sl 1 RInt) F rfl Tryz.call20 rfl H (H.l 6 rfl) (H.l 7 rfl) c167 (fun h g => eqInt64S_any _ _ _ _ _ _ h.r g.r h.m g.m) (fun a w H F => ?_)
  refine o_not F rfl rfl (fun a F => ?_)
  refine o_pickf F rfl rfl rfl (fun a F => ?_)
  refine o_move F rfl rfl (fun a F => ?_)
  rcases bcases (!z166) with hb168 | hb168
  ·
   replace hR := ifT hb168 hR
   have F := F.eq (t := 114) rfl (congrArg Value.bool hb168)
   refine o_no F rfl rfl (fun a F => ?_)
   refine o_no F rfl rfl (fun a F => ?_)
   refine o_no F rfl rfl (fun a F => ?_)
   refine o_pickt F rfl rfl rfl (fun a F => ?_)
   refine x_end ?_
   refine x_tn ?_
   exact ⟨true, (Option.some.inj hR).symm, F.sub (sc rfl (sc rfl (sc rfl (sc rfl (sc rfl (sc rfl (sc rfl (sc rfl sn)))))))), (H.s [6, 7] rfl rfl)⟩
  replace hR := ifF hb168 hR
  have F := F.eq (t := 114) rfl (congrArg Value.bool hb168)
  refine o_move F rfl rfl (fun a F => ?_)
  refine o_move F rfl rfl (fun a F => ?_)
  refine o_neq F rfl rfl rfl (fun a F => ?_)
  refine o_pickf F rfl rfl rfl (fun a F => ?_)
  refine x_end ?_
  refine x_tn ?_
  exact ⟨(z87.2.2 != z43.2.2), (Option.some.inj hR).symm, F.sub (sc rfl (sc rfl (sc rfl (sc rfl (sc rfl (sc rfl (sc rfl (sc rfl sn)))))))), (H.s [6, 7] rfl rfl)⟩
 intro a w ⟨s163, ho162, F, H⟩
 subst ho162
 have hR := then_nx hk161
 refine x_tn ?_
 refine x_if F rfl (fun hb169 => ?_) (fun hb169 => ?_)
 ·
  replace hR := ifT hb169 hR
  refine x_seq ?_
  refine x_reg ?_
  refine o_assign F rfl rfl (fun a F => ?_)
  refine x_end ?_
  refine x_tn ?_
  refine x_ret ?_
  refine x_tr ?_
  have H := (th54.1 (th115.1 (th129.1 (th143.1 H (Ns.all ⟨n0, ⟨n0, trivial⟩⟩)) (Ns.all ⟨n0, ⟨n0, ⟨n0, trivial⟩⟩⟩)) (Ns.all ⟨n0, ⟨n0, ⟨n0, ⟨n0, trivial⟩⟩⟩⟩)) (Ns.all ⟨n0, ⟨n0, ⟨n0, ⟨n0, ⟨n0, trivial⟩⟩⟩⟩⟩)).um.um
  refine x_res1 F rfl (rv_t F rfl) ?_
  obtain rfl := Option.some.inj hR
  exact ⟨rfl, H.bl⟩
 replace hR := ifF hb169 hR
 refine x_skip ?_
 refine x_tn ?_
 refine x_seq ?_
 refine x_reg ?_
 refine o_assign F rfl rfl (fun a F => ?_)
 refine x_end ?_
 refine x_tn ?_
 refine x_seq ?_
 refine x_reg ?_
 refine o_move F rfl rfl (fun a F => ?_)
 refine o_move F rfl rfl (fun a F => ?_)
 have H := H.os
 obtain ⟨z170, c171, hR⟩ := bnd_some hR
 refine nMk (V := Sl 1 RInt) (x' := (mkS mkI cI z87.2.1 1)) F rfl Tryz.call23 rfl H c171 (fun h o h0 h1 => markInt64S_any _ _ _ _ _ _ h.r o h0 h1) (fun a w H iz170 F => ?_)
 refine o_assign F rfl rfl (fun a F => ?_)
 refine x_end ?_
 refine x_tn ?_
 refine x_seq ?_
 refine x_reg ?_
 refine o_assign F rfl rfl (fun a F => ?_)
 refine x_end ?_
 refine x_tn ?_
 refine x_seq ?_
 refine x_reg ?_
 refine o_move F rfl rfl (fun a F => ?_)
 refine o_move F rfl rfl (fun a F => ?_)
 refine nHl (V := Sl 1 RInt) F rfl Tryz.call24 rfl H (H.o 0 rfl) c171 (fun h h0 h1 => heldInt64S_any _ _ _ _ _ h.r h.m h0 h1) (fun a w H iz170 F => ?_)
 refine o_assign F rfl rfl (fun a F => ?_)
 refine x_end ?_
 refine x_tn ?_
 refine x_seq ?_
 refine x_seq ?_
 refine x_reg ?_
 refine o_move F rfl rfl (fun a F => ?_)
 refine o_lss F rfl rfl rfl (fun a F => ?_)
 refine x_end ?_
 refine x_tn ?_
 refine x_if F rfl (fun hb172 => ?_) (fun hb172 => ?_)
 ·
  replace hR := ifT hb172 hR
  refine x_seq ?_
  refine x_reg ?_
  refine o_assign F rfl rfl (fun a F => ?_)
  refine x_end ?_
  refine x_tn ?_
  refine x_ret ?_
  refine x_tr ?_
  have H := (th54.1 (th115.1 (th129.1 (th143.1 H (Ns.all ⟨n0, ⟨n0, trivial⟩⟩)) (Ns.all ⟨n0, ⟨n0, ⟨n0, trivial⟩⟩⟩)) (Ns.all ⟨n0, ⟨n0, ⟨n0, ⟨n0, trivial⟩⟩⟩⟩)) (Ns.all ⟨n0, ⟨n0, ⟨n0, ⟨n0, ⟨n0, trivial⟩⟩⟩⟩⟩)).um.um
  refine x_res1 F rfl (rv_t F rfl) ?_
  obtain rfl := Option.some.inj hR
  exact ⟨rfl, H.bl⟩
 replace hR := ifF hb172 hR
 refine x_skip ?_
 refine x_tn ?_
 refine x_seq ?_
 refine x_seq ?_
 refine x_reg ?_
 refine o_move F rfl rfl (fun a F => ?_)
 refine o_move F rfl rfl (fun a F => ?_)
 refine o_neq F rfl rfl rfl (fun a F => ?_)
 refine x_end ?_
 refine x_tn ?_
 refine x_if F rfl (fun hb173 => ?_) (fun hb173 => ?_)
 ·
  replace hR := ifT hb173 hR
  refine x_seq ?_
  refine x_reg ?_
  refine o_assign F rfl rfl (fun a F => ?_)
  refine x_end ?_
  refine x_tn ?_
  refine x_ret ?_
  refine x_tr ?_
  have H := (th54.1 (th115.1 (th129.1 (th143.1 H (Ns.all ⟨n0, ⟨n0, trivial⟩⟩)) (Ns.all ⟨n0, ⟨n0, ⟨n0, trivial⟩⟩⟩)) (Ns.all ⟨n0, ⟨n0, ⟨n0, ⟨n0, trivial⟩⟩⟩⟩)) (Ns.all ⟨n0, ⟨n0, ⟨n0, ⟨n0, ⟨n0, trivial⟩⟩⟩⟩⟩)).um.um
  refine x_res1 F rfl (rv_t F rfl) ?_
  obtain rfl := Option.some.inj hR
  exact ⟨rfl, H.bl⟩
 replace hR := ifF hb173 hR
 refine x_skip ?_
 refine x_tn ?_
 refine x_seq ?_
 refine xD H (by kernel_rfl) (fun w H => ?_)
 refine b_q 0 (by kernel_rfl) rfl (by kernel_rfl) (by kernel_rfl) (by kernel_rfl) (by kernel_rfl) ?_
 refine vBA Tryz.isAgg24 Tryz.sizeOf24 F rfl rfl ((((K58.lf e114).lf e128).lf e142).v H.sm) rfl rfl (fun a F => ?_)
 refine b_q 2 (by kernel_rfl) rfl (by kernel_rfl) (by kernel_rfl) (by kernel_rfl) (by kernel_rfl) ?_
 refine vBA Tryz.isAgg24 Tryz.sizeOf24 F rfl rfl ((((K57.lf e114).lf e128).lf e142).v H.sm) rfl rfl (fun a F => ?_)
 refine b_q 4 (by kernel_rfl) rfl (by kernel_rfl) (by kernel_rfl) (by kernel_rfl) (by kernel_rfl) ?_
 refine vBA Tryz.isAgg27 Tryz.sizeOf27 F rfl rfl ((((K56.lf e114).lf e128).lf e142).v H.sm) rfl rfl (fun a F => ?_)
 refine xE H 1 rfl (by kernel_rfl) ?_
 refine nTo (V := Agg 2 RTemplate) F rfl Tryz.call13 rfl H (RTemplate.m i11 (H.a (e142 (e128 (e114 (e53 h13)))))) (fun h => toTemplate_any _ _ _ _ h.r h.m (toq_some c32)) (fun a w v185 H F => ?_)
 refine x_end ?_
 refine x_tn ?_
 refine ⟨⟨_, H⟩, ?_⟩
 refine xE H 3 rfl (by kernel_rfl) ?_
 refine nTo (V := Agg 2 RTemplate) F rfl Tryz.call13 rfl H (RTemplate.m i15 (H.a (e142 (e128 (e114 (e53 h17)))))) (fun h => toTemplate_any _ _ _ _ h.r h.m (toq_some c36)) (fun a w v187 H F => ?_)
 refine x_end ?_
 refine x_tn ?_
 refine ⟨⟨_, H⟩, ?_⟩
 refine xE H 5 rfl (by kernel_rfl) ?_
 refine nTo (V := Agg 1 RGadgets) F rfl Tryz.call14 rfl H (RGadgets.m (H.a (e142 (e128 (e114 (e53 h20)))))) (fun h => toGadgets_any _ _ _ _ h.r h.m (toq_some c40)) (fun a w v189 H F => ?_)
 refine x_end ?_
 refine x_tn ?_
 refine ⟨⟨_, H⟩, ?_⟩
 refine xE H 6 rfl (by kernel_rfl) ?_
 refine oG F rfl Tryz.call19 rfl (impl_FirstWrong_c z87 c88 _ aA (H.o 2 rfl) (H.o 1 rfl) (H.o 0 rfl)) (fun a vv w ⟨v192, hv195, S, i191, i194⟩ F => ?_)
 subst vv
 have H := H.r1 S n0
 refine x_end ?_
 refine x_tn ?_
 refine ⟨⟨_, H⟩, ?_⟩
 refine b_q0 7 rfl (by kernel_rfl) (by kernel_rfl) (by kernel_rfl) ?_
 refine v_val F rfl (fun w l => r_move F rfl) (fun a F => ?_)
 refine b_q0 8 rfl (by kernel_rfl) (by kernel_rfl) (by kernel_rfl) ?_
 refine v_val F rfl (fun w l => r_extract F rfl rfl) (fun a F => ?_)
 refine b_q0 9 rfl (by kernel_rfl) (by kernel_rfl) (by kernel_rfl) ?_
 refine v_val F rfl (fun w l => r_extract F rfl rfl) (fun a F => ?_)
 refine b_q0 10 rfl (by kernel_rfl) (by kernel_rfl) (by kernel_rfl) ?_
 refine v_val F rfl (fun w l => r_extract F rfl rfl) (fun a F => ?_)
 refine b_q0 11 rfl (by kernel_rfl) (by kernel_rfl) (by kernel_rfl) ?_
 refine v_val F rfl (fun w l => r_assign F rfl) (fun a F => ?_)
 refine b_q0 12 rfl (by kernel_rfl) (by kernel_rfl) (by kernel_rfl) ?_
 refine v_val F rfl (fun w l => r_assign F rfl) (fun a F => ?_)
 refine b_q0 13 rfl (by kernel_rfl) (by kernel_rfl) (by kernel_rfl) ?_
 refine v_val F rfl (fun w l => r_assign F rfl) (fun a F => ?_)
 refine b_end (by kernel_rfl) ?_
 refine x_tn ?_
 refine x_seq ?_
 refine x_seq ?_
 obtain ⟨o200, hR, hk201⟩ := thn_some hR
 refine x_cutQ (fun a w => ∃ (s203 : Bool), o200 = .nx s203 ∧ Sk a 163 [(15, v90), (18, .int .i64 z170), (154, .bool s203)] ∧ Sep X139 N140 w144 w [ow (V := (Sl 1 RInt)) v90 (mkS mkI cI z87.2.1 1)]) ?_ ?_
 ·
  refine x_reg ?_
  refine o_move F rfl rfl (fun a F => ?_)
  refine o_move F rfl rfl (fun a F => ?_)
  refine o_neq F rfl rfl rfl (fun a F => ?_)
  refine o_move F rfl rfl (fun a F => ?_)
  rcases bcases (z87.1 != z43.1) with hb204 | hb204
  ·
   replace hR := ifT hb204 hR
   have F := F.eq (t := 144) rfl (congrArg Value.bool hb204)
   refine o_no F rfl rfl (fun a F => ?_)
   refine o_no F rfl rfl (fun a F => ?_)
   refine o_no F rfl rfl (fun a F => ?_)
   refine o_no F rfl rfl (fun a F => ?_)
   refine o_pickt F rfl rfl rfl (fun a F => ?_)
   refine o_move F rfl rfl (fun a F => ?_)
   refine o_no F rfl rfl (fun a F => ?_)
   refine o_no F rfl rfl (fun a F => ?_)
   refine o_no F rfl rfl (fun a F => ?_)
   refine o_pickt F rfl rfl rfl (fun a F => ?_)
   refine x_end ?_
   refine x_tn ?_
   exact ⟨true, (Option.some.inj hR).symm, F.sub (sc rfl (sc rfl (sc rfl sn))), (H.s [4] rfl rfl)⟩
  replace hR := ifF hb204 hR
  have F := F.eq (t := 144) rfl (congrArg Value.bool hb204)
  refine o_move F rfl rfl (fun a F => ?_)
  refine o_move F rfl rfl (fun a F => ?_)
  obtain ⟨z205, c206, hR⟩ := bnd_some hR
  refine nEq (V := Sl 1 RInt) F rfl Tryz.call20 rfl H (H.l 0 rfl) (H.l 5 rfl) c206 (fun h g => eqInt64S_any _ _ _ _ _ _ h.r g.r h.m g.m) (fun a w H F => ?_)
  refine o_not F rfl rfl (fun a F => ?_)
  refine o_pickf F rfl rfl rfl (fun a F => ?_)
  refine o_move F rfl rfl (fun a F => ?_)
  rcases bcases (!z205) with hb207 | hb207
  ·
   replace hR := ifT hb207 hR
   have F := F.eq (t := 150) rfl (congrArg Value.bool hb207)
   refine o_no F rfl rfl (fun a F => ?_)
   refine o_no F rfl rfl (fun a F => ?_)
   refine o_no F rfl rfl (fun a F => ?_)
   refine o_pickt F rfl rfl rfl (fun a F => ?_)
   refine x_end ?_
   refine x_tn ?_
   exact ⟨true, (Option.some.inj hR).symm, F.sub (sc rfl (sc rfl (sc rfl sn))), (H.s [4] rfl rfl)⟩
  replace hR := ifF hb207 hR
  have F := F.eq (t := 150) rfl (congrArg Value.bool hb207)
  refine o_move F rfl rfl (fun a F => ?_)
  refine o_move F rfl rfl (fun a F => ?_)
  refine o_neq F rfl rfl rfl (fun a F => ?_)
  refine o_pickf F rfl rfl rfl (fun a F => ?_)
  refine x_end ?_
  refine x_tn ?_
  exact ⟨(z87.2.2 != z43.2.2), (Option.some.inj hR).symm, F.sub (sc rfl (sc rfl (sc rfl sn))), (H.s [4] rfl rfl)⟩
 intro a w ⟨s203, ho202, F, H⟩
 subst ho202
 have hR := then_nx hk201
 refine x_tn ?_
 refine x_if F rfl (fun hb208 => ?_) (fun hb208 => ?_)
 ·
  replace hR := ifT hb208 hR
  refine x_seq ?_
  refine x_reg ?_
  refine o_assign F rfl rfl (fun a F => ?_)
  refine x_end ?_
  refine x_tn ?_
  refine x_ret ?_
  refine x_tr ?_
  have H := (th54.1 (th115.1 (th129.1 (th143.1 H (Ns.all ⟨n0, trivial⟩)) (Ns.all ⟨n0, ⟨n0, trivial⟩⟩)) (Ns.all ⟨n0, ⟨n0, ⟨n0, trivial⟩⟩⟩)) (Ns.all ⟨n0, ⟨n0, ⟨n0, ⟨n0, trivial⟩⟩⟩⟩)).um.um
  refine x_res1 F rfl (rv_t F rfl) ?_
  obtain rfl := Option.some.inj hR
  exact ⟨rfl, H.bl⟩
 replace hR := ifF hb208 hR
 refine x_skip ?_
 refine x_tn ?_
 refine x_seq ?_
 refine x_reg ?_
 refine o_assign F rfl rfl (fun a F => ?_)
 refine x_end ?_
 refine x_tn ?_
 refine x_seq ?_
 refine x_reg ?_
 refine o_move F rfl rfl (fun a F => ?_)
 refine o_move F rfl rfl (fun a F => ?_)
 refine nHl (V := Sl 1 RInt) F rfl Tryz.call24 rfl H (H.o 0 rfl) c171 (fun h h0 h1 => heldInt64S_any _ _ _ _ _ h.r h.m h0 h1) (fun a w H iz170 F => ?_)
 refine o_assign F rfl rfl (fun a F => ?_)
 refine x_end ?_
 refine x_tn ?_
 refine x_seq ?_
 refine x_seq ?_
 refine x_reg ?_
 refine o_move F rfl rfl (fun a F => ?_)
 refine o_lss F rfl rfl rfl (fun a F => ?_)
 refine x_end ?_
 refine x_tn ?_
 refine x_if F rfl (fun hb209 => ?_) (fun hb209 => ?_)
 ·
  replace hR := ifT hb209 hR
  refine x_seq ?_
  refine x_reg ?_
  refine o_assign F rfl rfl (fun a F => ?_)
  refine x_end ?_
  refine x_tn ?_
  refine x_ret ?_
  refine x_tr ?_
  have H := (th54.1 (th115.1 (th129.1 (th143.1 H (Ns.all ⟨n0, trivial⟩)) (Ns.all ⟨n0, ⟨n0, trivial⟩⟩)) (Ns.all ⟨n0, ⟨n0, ⟨n0, trivial⟩⟩⟩)) (Ns.all ⟨n0, ⟨n0, ⟨n0, ⟨n0, trivial⟩⟩⟩⟩)).um.um
  refine x_res1 F rfl (rv_t F rfl) ?_
  obtain rfl := Option.some.inj hR
  exact ⟨rfl, H.bl⟩
 replace hR := ifF hb209 hR
 refine x_skip ?_
 refine x_tn ?_
 refine x_seq ?_
 refine x_seq ?_
 refine x_reg ?_
 refine o_move F rfl rfl (fun a F => ?_)
 refine o_move F rfl rfl (fun a F => ?_)
 refine o_neq F rfl rfl rfl (fun a F => ?_)
 refine x_end ?_
 refine x_tn ?_
 refine x_if F rfl (fun hb210 => ?_) (fun hb210 => ?_)
 ·
  replace hR := ifT hb210 hR
  refine x_seq ?_
  refine x_reg ?_
  refine o_assign F rfl rfl (fun a F => ?_)
  refine x_end ?_
  refine x_tn ?_
  refine x_ret ?_
  refine x_tr ?_
  have H := (th54.1 (th115.1 (th129.1 (th143.1 H (Ns.all ⟨n0, trivial⟩)) (Ns.all ⟨n0, ⟨n0, trivial⟩⟩)) (Ns.all ⟨n0, ⟨n0, ⟨n0, trivial⟩⟩⟩)) (Ns.all ⟨n0, ⟨n0, ⟨n0, ⟨n0, trivial⟩⟩⟩⟩)).um.um
  refine x_res1 F rfl (rv_t F rfl) ?_
  obtain rfl := Option.some.inj hR
  exact ⟨rfl, H.bl⟩
 replace hR := ifF hb210 hR
 refine x_skip ?_
 refine x_tn ?_
 refine x_seq ?_
 refine x_reg ?_
 refine o_assign F rfl rfl (fun a F => ?_)
 refine x_end ?_
 refine x_tn ?_
 refine x_ret ?_
 have H := (th54.1 (th115.1 (th129.1 (th143.1 H (Ns.all ⟨n0, trivial⟩)) (Ns.all ⟨n0, ⟨n0, trivial⟩⟩)) (Ns.all ⟨n0, ⟨n0, ⟨n0, trivial⟩⟩⟩)) (Ns.all ⟨n0, ⟨n0, ⟨n0, ⟨n0, trivial⟩⟩⟩⟩)).um.um
 refine x_res1 F rfl (rv_t F rfl) ?_
 obtain rfl := Option.some.inj hR
 exact ⟨rfl, H.bl⟩
end
end Go.Proofs.YtmgdjaiaekhkgaaGreat
