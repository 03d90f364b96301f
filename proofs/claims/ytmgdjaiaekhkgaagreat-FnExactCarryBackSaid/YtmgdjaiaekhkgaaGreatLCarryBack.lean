/-
  Laws of the program as plain functions, and that they compute them. Printed by slaw.py.
-/
import Derived.Test.YtmgdjaiaekhkgaaGreatS6
import Derived.Test.YtmgdjaiaekhkgaaGreatNY
import Derived.Test.YtmgdjaiaekhkgaaGreatL1
import Derived.Test.YtmgdjaiaekhkgaaGreatL2
import Derived.Test.YtmgdjaiaekhkgaaGreatL3
import Derived.Test.YtmgdjaiaekhkgaaGreatL6
namespace Go.Proofs.YtmgdjaiaekhkgaaGreat
set_option linter.unusedVariables false
set_option linter.unusedSimpArgs false
set_option maxRecDepth 100000
open Go.RowKit
noncomputable section
def laws_FnExactCarryBack (N : Nat) (x0 : Template) (x1 : Template) (x2 : Gadgets) (x3 : Instance) (x4 : List Int) : Option Bool :=
 if (decide (1048576 < (x4.length : Int))) then
  some true
 else
  bnd (szq 1048576 ((Template.mk x0.size x0.rels).sz)) fun z28 =>
  if (decide (z28 < 0)) then
   some true
  else
   bnd (szq z28 ((Template.mk x1.size x1.rels).sz)) fun z31 =>
   if (decide (z31 < 0)) then
    some true
   else
    bnd (szq z31 ((Gadgets.mk x2.formulas).sz)) fun z34 =>
    if (decide (z34 < 0)) then
     some true
    else
     bnd (szq z34 ((Instance.mk x3.vars x3.cons).sz)) fun z37 =>
     if (decide (z37 < 0)) then
      some true
     else
      bnd (toq ((Template.mk x0.size x0.rels).sz)) fun z40 =>
      bnd (toq ((Template.mk x1.size x1.rels).sz)) fun z44 =>
      bnd (toq ((Gadgets.mk x2.formulas).sz)) fun z48 =>
      bnd (toq ((Instance.mk x3.vars x3.cons).sz)) fun z52 =>
      bnd (toq (x4.length)) fun z56 =>
      bnd (spec_CarryBack N (Template.mk x0.size x0.rels) (Template.mk x1.size x1.rels) (Gadgets.mk x2.formulas) (Instance.mk x3.vars x3.cons) x4) fun z60 =>
      bnd (impl_CarryBack N (Template.mk x0.size x0.rels) (Template.mk x1.size x1.rels) (Gadgets.mk x2.formulas) (Instance.mk x3.vars x3.cons) x4) fun z115 =>
      thn (σ := Bool) (
       bnd (eqq z115.1 z60.1) fun z128 =>
       if (!z128) then  some (.nx true) else  some (.nx (z115.2 != z60.2))) fun s127 =>
      if s127 then
       some false
      else
       bnd (eqq (Template.mk x0.size x0.rels) (Template.mk x0.size x0.rels)) fun z134 =>
       if (!z134) then
        some false
       else
        bnd (eqq (Template.mk x1.size x1.rels) (Template.mk x1.size x1.rels)) fun z148 =>
        if (!z148) then
         some false
        else
         bnd (eqq (Gadgets.mk x2.formulas) (Gadgets.mk x2.formulas)) fun z162 =>
         if (!z162) then
          some false
         else
          bnd (eqq (Instance.mk x3.vars x3.cons) (Instance.mk x3.vars x3.cons)) fun z176 =>
          if (!z176) then
           some false
          else
           bnd (eqq x4 x4) fun z190 =>
           if (!z190) then
            some false
           else
            bnd (mkq 1 ((Template.mk x0.size x0.rels).cnt)) fun z193 =>
            bnd (mkq z193 ((Template.mk x1.size x1.rels).cnt)) fun z195 =>
            bnd (mkq z195 ((Gadgets.mk x2.formulas).cnt)) fun z197 =>
            bnd (mkq z197 ((Instance.mk x3.vars x3.cons).cnt)) fun z199 =>
            bnd (mkq z199 (cntS cI x4)) fun z201 =>
            thn (σ := Bool) (
             if (decide (z201 < 0)) then  some (.nx true) else  bnd (eqq z115.1 z60.1) fun z212 =>
              if (!z212) then  some (.nx true) else  some (.nx (z115.2 != z60.2))) fun s210 =>
            if s210 then
             some false
            else
             bnd (mkq 1 (cntS cI z115.1)) fun z216 =>
             if (decide (z216 < 0)) then
              some false
             else
              if (z216 != z216) then
               some false
              else
               thn (σ := Bool) (
                bnd (eqq z115.1 z60.1) fun z255 =>
                if (!z255) then  some (.nx true) else  some (.nx (z115.2 != z60.2))) fun s254 =>
               if s254 then
                some false
               else
                if (decide (z216 < 0)) then
                 some false
                else
                 if (z216 != z216) then
                  some false
                 else
                  some true
set_option maxHeartbeats 1000000 in
theorem laws_FnExactCarryBack_c {B : Nat → Prop} {N : Nat} {x0 : Template} {x1 : Template} {x2 : Gadgets} {x3 : Instance} {x4 : List Int} (r : Bool) (hR : laws_FnExactCarryBack N x0 x1 x2 x3 x4 = some r) {v0 : Value} {v1 : Value} {v2 : Value} {v3 : Value} {v4 : Value} (w0 : World) (hN : ∀ c, B c → c < w0.heap.size) (A0 : Bo B w0 (Agg 2 RTemplate) v0 x0) (A1 : Bo B w0 (Agg 2 RTemplate) v1 x1) (A2 : Bo B w0 (Agg 1 RGadgets) v2 x2) (A3 : Bo B w0 (Agg 2 RInstance) v3 x3) (A4 : Bo B w0 (Sl 1 RInt) v4 x4) : Calls Tryz.prog 7 #[v0, v1, v2, v3, v4] w0 (Says (.bool r) w0) := by
 unfold laws_FnExactCarryBack at hR
 refine x_enter (L := [(0, v0), (1, v1), (2, v2), (3, v3), (4, v4)]) Tryz.func7 rfl rfl rfl (sc rfl (sc rfl (sc rfl (sc rfl (sc rfl sn))))) (fun a F => ?_)
 have H := Sep.start hN
 refine x_seq (x_reg ?_)
 obtain ⟨v12, rfl, i11, h13⟩ := RTemplate.o A0
 refine oX F rfl rfl rfl H (fun a w b14 H F => ?_)
 obtain ⟨v16, rfl, i15, h17⟩ := RTemplate.o A1
 refine oX F rfl rfl rfl H (fun a w b18 H F => ?_)
 obtain ⟨v19, rfl, h20⟩ := RGadgets.o A2
 refine oX F rfl rfl rfl H (fun a w b21 H F => ?_)
 obtain ⟨v23, rfl, i22, h24⟩ := RInstance.o A3
 refine oX F rfl rfl rfl H fun a w b25 H F => o_assign F rfl rfl fun a F => x_end (x_tn (x_seq (x_seq (x_reg (o_move F rfl rfl fun a F => oL Tryz.underlying42 F rfl rfl A4 fun a i26 F => o_gtr F rfl rfl rfl fun a F => x_end ?_)))))
 refine x_tn (x_if F rfl (fun hb27 => ?_) (fun hb27 => ?_))
 ·
  replace hR := ifT hb27 hR
  refine x_seq (x_reg (o_assign F rfl rfl fun a F => x_end (x_tn (x_ret (x_tr (x_res1 F rfl (rv_t F rfl) ?_))))))
  obtain rfl := Option.some.inj hR
  exact ⟨rfl, H.bl⟩
 replace hR := ifF hb27 hR
 refine x_skip (x_tn (x_seq (x_reg (o_assign F rfl rfl fun a F => x_end (x_tn (x_seq (x_reg (oBA Tryz.isAgg24 Tryz.sizeOf24 F rfl rfl (H.b 3 rfl) rfl rfl fun a F => o_move F rfl rfl (fun a F => ?_)))))))))
 obtain ⟨z28, c29, hR⟩ := bnd_some hR
 refine nSz (V := Agg 2 RTemplate) F rfl Tryz.call10 rfl H (RTemplate.m i11 (H.a h13)) c29 (fun h h0 h1 => szTemplate_any _ _ _ _ _ h.r h.m h0 h1) fun a w H iz28 F => o_assign F rfl rfl fun a F => x_end (x_tn (x_seq (x_seq (x_reg (o_move F rfl rfl fun a F => o_lss F rfl rfl rfl fun a F => x_end (x_tn ?_))))))
 refine x_if F rfl (fun hb30 => ?_) (fun hb30 => ?_)
 ·
  replace hR := ifT hb30 hR
  refine x_seq (x_reg (o_assign F rfl rfl fun a F => x_end (x_tn (x_ret (x_tr (x_res1 F rfl (rv_t F rfl) ?_))))))
  obtain rfl := Option.some.inj hR
  exact ⟨rfl, H.bl⟩
 replace hR := ifF hb30 hR
 refine x_skip (x_tn (x_seq (x_reg (oBA Tryz.isAgg24 Tryz.sizeOf24 F rfl rfl (H.b 2 rfl) rfl rfl fun a F => o_move F rfl rfl (fun a F => ?_)))))
 obtain ⟨z31, c32, hR⟩ := bnd_some hR
 refine nSz (V := Agg 2 RTemplate) F rfl Tryz.call10 rfl H (RTemplate.m i15 (H.a h17)) c32 (fun h h0 h1 => szTemplate_any _ _ _ _ _ h.r h.m h0 h1) fun a w H iz31 F => o_assign F rfl rfl fun a F => x_end (x_tn (x_seq (x_seq (x_reg (o_move F rfl rfl fun a F => o_lss F rfl rfl rfl fun a F => x_end (x_tn ?_))))))
 refine x_if F rfl (fun hb33 => ?_) (fun hb33 => ?_)
 ·
  replace hR := ifT hb33 hR
  refine x_seq (x_reg (o_assign F rfl rfl fun a F => x_end (x_tn (x_ret (x_tr (x_res1 F rfl (rv_t F rfl) ?_))))))
  obtain rfl := Option.some.inj hR
  exact ⟨rfl, H.bl⟩
 replace hR := ifF hb33 hR
 refine x_skip (x_tn (x_seq (x_reg (oBA Tryz.isAgg27 Tryz.sizeOf27 F rfl rfl (H.b 1 rfl) rfl rfl fun a F => o_move F rfl rfl (fun a F => ?_)))))
 obtain ⟨z34, c35, hR⟩ := bnd_some hR
 refine nSz (V := Agg 1 RGadgets) F rfl Tryz.call11 rfl H (RGadgets.m (H.a h20)) c35 (fun h h0 h1 => szGadgets_any _ _ _ _ _ h.r h.m h0 h1) fun a w H iz34 F => o_assign F rfl rfl fun a F => x_end (x_tn (x_seq (x_seq (x_reg (o_move F rfl rfl fun a F => o_lss F rfl rfl rfl fun a F => x_end (x_tn ?_))))))
 refine x_if F rfl (fun hb36 => ?_) (fun hb36 => ?_)
 ·
  replace hR := ifT hb36 hR
  refine x_seq (x_reg (o_assign F rfl rfl fun a F => x_end (x_tn (x_ret (x_tr (x_res1 F rfl (rv_t F rfl) ?_))))))
  obtain rfl := Option.some.inj hR
  exact ⟨rfl, H.bl⟩
 replace hR := ifF hb36 hR
 refine x_skip (x_tn (x_seq (x_reg (oBA Tryz.isAgg54 Tryz.sizeOf54 F rfl rfl (H.b 0 rfl) rfl rfl fun a F => o_move F rfl rfl (fun a F => ?_)))))
 obtain ⟨z37, c38, hR⟩ := bnd_some hR
 refine nSz (V := Agg 2 RInstance) F rfl Tryz.call28 rfl H (RInstance.m i22 (H.a h24)) c38 (fun h h0 h1 => szInstance_any _ _ _ _ _ h.r h.m h0 h1) fun a w H iz37 F => o_assign F rfl rfl fun a F => x_end (x_tn (x_seq (x_seq (x_reg (o_move F rfl rfl fun a F => o_lss F rfl rfl rfl fun a F => x_end (x_tn ?_))))))
 refine x_if F rfl (fun hb39 => ?_) (fun hb39 => ?_)
 ·
  replace hR := ifT hb39 hR
  refine x_seq (x_reg (o_assign F rfl rfl fun a F => x_end (x_tn (x_ret (x_tr (x_res1 F rfl (rv_t F rfl) ?_))))))
  obtain rfl := Option.some.inj hR
  exact ⟨rfl, H.bl⟩
 replace hR := ifF hb39 hR
 refine x_skip (x_tn (x_seq ?_))
 obtain ⟨z40, c41, hR⟩ := bnd_some hR
 obtain ⟨z44, c45, hR⟩ := bnd_some hR
 obtain ⟨z48, c49, hR⟩ := bnd_some hR
 obtain ⟨z52, c53, hR⟩ := bnd_some hR
 obtain ⟨z56, c57, hR⟩ := bnd_some hR
 obtain ⟨z60, c61, hR⟩ := bnd_some hR
 obtain ⟨w71, rfl⟩ : ∃ x, x = w := ⟨_, rfl⟩
 obtain ⟨X66, N67, g68, e69, H, th70⟩ := H.mg.mg.mg.fz
 have K72 := g68.l.l.l.bk
 have K73 := g68.l.l.r.bk
 have K74 := g68.l.r.bk
 have K75 := g68.r.bk
 refine xD H (by kernel_rfl) fun w H => b_q 0 (by kernel_rfl) rfl (by kernel_rfl) (by kernel_rfl) (by kernel_rfl) (by kernel_rfl) (vBA Tryz.isAgg24 Tryz.sizeOf24 F rfl rfl (K75.v H.sm) rfl rfl fun a F => b_q 2 (by kernel_rfl) rfl (by kernel_rfl) (by kernel_rfl) (by kernel_rfl) (by kernel_rfl) (vBA Tryz.isAgg24 Tryz.sizeOf24 F rfl rfl (K74.v H.sm) rfl rfl fun a F => b_q 4 (by kernel_rfl) rfl (by kernel_rfl) (by kernel_rfl) (by kernel_rfl) (by kernel_rfl) (vBA Tryz.isAgg27 Tryz.sizeOf27 F rfl rfl (K73.v H.sm) rfl rfl fun a F => b_q 6 (by kernel_rfl) rfl (by kernel_rfl) (by kernel_rfl) (by kernel_rfl) (by kernel_rfl) (vBA Tryz.isAgg54 Tryz.sizeOf54 F rfl rfl (K72.v H.sm) rfl rfl fun a F => b_q0 8 rfl (by kernel_rfl) (by kernel_rfl) (by kernel_rfl) (v_val F rfl (fun w l => r_move F rfl) (fun a F => ?_))))))
 refine xE H 1 rfl (by kernel_rfl) (nTo (V := Agg 2 RTemplate) F rfl Tryz.call13 rfl H (RTemplate.m i11 (H.a (e69 h13))) (fun h => toTemplate_any _ _ _ _ h.r h.m (toq_some c41)) fun a w v76 H F => x_end (x_tn (⟨⟨_, H⟩, ?_⟩)))
 refine xE H 3 rfl (by kernel_rfl) (nTo (V := Agg 2 RTemplate) F rfl Tryz.call13 rfl H (RTemplate.m i15 (H.a (e69 h17))) (fun h => toTemplate_any _ _ _ _ h.r h.m (toq_some c45)) fun a w v78 H F => x_end (x_tn (⟨⟨_, H⟩, ?_⟩)))
 refine xE H 5 rfl (by kernel_rfl) (nTo (V := Agg 1 RGadgets) F rfl Tryz.call14 rfl H (RGadgets.m (H.a (e69 h20))) (fun h => toGadgets_any _ _ _ _ h.r h.m (toq_some c49)) fun a w v80 H F => x_end (x_tn (⟨⟨_, H⟩, ?_⟩)))
 refine xE H 7 rfl (by kernel_rfl) (nTo (V := Agg 2 RInstance) F rfl Tryz.call30 rfl H (RInstance.m i22 (H.a (e69 h24))) (fun h => toInstance_any _ _ _ _ h.r h.m (toq_some c53)) fun a w v82 H F => x_end (x_tn (⟨⟨_, H⟩, ?_⟩)))
 refine xE H 9 rfl (by kernel_rfl) (nTo (V := Sl 1 RInt) F rfl Tryz.call36 rfl H (H.a (e69 A4)) (fun h => toInt64S_any _ _ _ _ h.r h.m (toq_some c57)) fun a w v84 H F => x_end (x_tn (⟨⟨_, H⟩, ?_⟩)))
 refine xE H 10 rfl (by kernel_rfl) (oG F rfl Tryz.call35 rfl (spec_CarryBack_c z60 c61 _ aA (H.o 4 rfl) (H.o 3 rfl) (H.o 2 rfl) (H.o 1 rfl) (H.o 0 rfl)) (fun a vv w ⟨v86, hv89, S, i88⟩ F => ?_))
 subst vv
 have H := H.r1 S n0
 refine x_end (x_tn (⟨⟨_, H⟩, ?_⟩))
 refine b_q0 11 rfl (by kernel_rfl) (by kernel_rfl) (by kernel_rfl) (v_val F rfl (fun w l => r_move F rfl) fun a F => b_q0 12 rfl (by kernel_rfl) (by kernel_rfl) (by kernel_rfl) (v_val F rfl (fun w l => r_extract F rfl rfl) fun a F => b_q0 13 rfl (by kernel_rfl) (by kernel_rfl) (by kernel_rfl) (v_val F rfl (fun w l => r_extract F rfl rfl) fun a F => b_q0 14 rfl (by kernel_rfl) (by kernel_rfl) (by kernel_rfl) (v_val F rfl (fun w l => r_assign F rfl) fun a F => b_q0 15 rfl (by kernel_rfl) (by kernel_rfl) (by kernel_rfl) (v_val F rfl (fun w l => r_assign F rfl) fun a F => b_end (by kernel_rfl) ?_)))))
 refine x_tn (x_seq (x_reg (oBA Tryz.isAgg24 Tryz.sizeOf24 F rfl rfl (K75.o H.sm) rfl rfl fun a F => nTo (V := Agg 2 RTemplate) F rfl Tryz.call13 rfl H (RTemplate.m i11 (H.a (e69 h13))) (fun h => toTemplate_any _ _ _ _ h.r h.m (toq_some c41)) fun a w v90 H F => oA Tryz.zeroValue33 F rfl rfl H (fun a w b92 H F => ?_))))
 obtain ⟨v94, rfl, i93, h95⟩ := RTemplate.o (H.o 1 rfl)
 refine oWA (vs := [.int .i64 ((Template.mk x0.size x0.rels).size), v94]) Tryz.sizeOf33 F rfl rfl rfl H (oc rfl (oc h95.one on)) rfl rfl fun w H => x_end (x_tn (x_seq (x_reg (oBA Tryz.isAgg24 Tryz.sizeOf24 F rfl rfl (K74.o H.sm) rfl rfl fun a F => nTo (V := Agg 2 RTemplate) F rfl Tryz.call13 rfl H (RTemplate.m i15 (H.a (e69 h17))) (fun h => toTemplate_any _ _ _ _ h.r h.m (toq_some c45)) fun a w v96 H F => oA Tryz.zeroValue33 F rfl rfl H (fun a w b98 H F => ?_)))))
 obtain ⟨v100, rfl, i99, h101⟩ := RTemplate.o (H.o 1 rfl)
 refine oWA (vs := [.int .i64 ((Template.mk x1.size x1.rels).size), v100]) Tryz.sizeOf33 F rfl rfl rfl H (oc rfl (oc h101.one on)) rfl rfl fun w H => x_end (x_tn (x_seq (x_reg (oBA Tryz.isAgg27 Tryz.sizeOf27 F rfl rfl (K73.o H.sm) rfl rfl fun a F => nTo (V := Agg 1 RGadgets) F rfl Tryz.call14 rfl H (RGadgets.m (H.a (e69 h20))) (fun h => toGadgets_any _ _ _ _ h.r h.m (toq_some c49)) fun a w v102 H F => oA Tryz.zeroValue37 F rfl rfl H (fun a w b104 H F => ?_)))))
 obtain ⟨v105, rfl, h106⟩ := RGadgets.o (H.o 1 rfl)
 refine oWA (vs := [v105]) Tryz.sizeOf37 F rfl rfl rfl H (oc h106.one on) rfl rfl fun w H => x_end (x_tn (x_seq (x_reg (oBA Tryz.isAgg54 Tryz.sizeOf54 F rfl rfl (K72.o H.sm) rfl rfl fun a F => nTo (V := Agg 2 RInstance) F rfl Tryz.call30 rfl H (RInstance.m i22 (H.a (e69 h24))) (fun h => toInstance_any _ _ _ _ h.r h.m (toq_some c53)) fun a w v107 H F => oA Tryz.zeroValue58 F rfl rfl H (fun a w b109 H F => ?_)))))
 obtain ⟨v111, rfl, i110, h112⟩ := RInstance.o (H.o 1 rfl)
 refine oWA (vs := [.int .i64 ((Instance.mk x3.vars x3.cons).vars), v111]) Tryz.sizeOf58 F rfl rfl rfl H (oc rfl (oc h112.one on)) rfl rfl fun w H => x_end (x_tn (x_seq (x_reg (o_move F rfl rfl fun a F => nTo (V := Sl 1 RInt) F rfl Tryz.call36 rfl H (H.a (e69 A4)) (fun h => toInt64S_any _ _ _ _ h.r h.m (toq_some c57)) fun a w v113 H F => o_assign F rfl rfl fun a F => x_end (x_tn (x_seq ?_))))))
 refine x_reg (oBA Tryz.isAgg33 Tryz.sizeOf33 F rfl rfl (H.b 7 rfl) rfl rfl fun a F => oBA Tryz.isAgg33 Tryz.sizeOf33 F rfl rfl (H.b 5 rfl) rfl rfl fun a F => oBA Tryz.isAgg37 Tryz.sizeOf37 F rfl rfl (H.b 3 rfl) rfl rfl fun a F => oBA Tryz.isAgg58 Tryz.sizeOf58 F rfl rfl (H.b 1 rfl) rfl rfl fun a F => o_move F rfl rfl (fun a F => ?_))
 obtain ⟨z115, c116, hR⟩ := bnd_some hR
 refine oG F rfl Tryz.call37 rfl (impl_CarryBack_c z115 c116 _ aA (H.o 8 rfl) (H.o 6 rfl) (H.o 4 rfl) (H.o 2 rfl) (H.o 0 rfl)) (fun a vv w ⟨v117, hv120, S, i119⟩ F => ?_)
 subst vv
 have H := H.r1 S n0
 refine o_move F rfl rfl fun a F => o_extract F rfl rfl rfl fun a F => o_extract F rfl rfl rfl fun a F => o_assign F rfl rfl fun a F => o_assign F rfl rfl fun a F => x_end (x_tn (x_seq (x_seq ?_)))
 obtain ⟨o124, hR, hk125⟩ := thn_some hR
 refine x_cutQ (fun a w => ∃ (s127 : Bool), o124 = .nx s127 ∧ Sk a 186 [(4, v4), (5, .pointer (some ⟨b14, 0, none⟩)), (6, .pointer (some ⟨b18, 0, none⟩)), (7, .pointer (some ⟨b21, 0, none⟩)), (8, .pointer (some ⟨b25, 0, none⟩)), (12, v86), (13, .int .i64 z60.2), (14, .pointer (some ⟨b92, 0, none⟩)), (15, .pointer (some ⟨b98, 0, none⟩)), (16, .pointer (some ⟨b104, 0, none⟩)), (17, .pointer (some ⟨b109, 0, none⟩)), (18, v113), (19, v117), (20, .int .i64 z115.2), (90, .bool s127)] ∧ Sep X66 N67 w71 w [rl 1 RInt 2 v117 z115.1, ow (V := (Sl 1 RInt)) v113 x4, bx b109 [.int .i64 ((Instance.mk x3.vars x3.cons).vars), v111] 58, ow (V := (Agg 2 RInstance)) (.agg #[.int .i64 ((Instance.mk x3.vars x3.cons).vars), v111]) (Instance.mk x3.vars x3.cons), bx b104 [v105] 37, ow (V := (Agg 1 RGadgets)) (.agg #[v105]) (Gadgets.mk x2.formulas), bx b98 [.int .i64 ((Template.mk x1.size x1.rels).size), v100] 33, ow (V := (Agg 2 RTemplate)) (.agg #[.int .i64 ((Template.mk x1.size x1.rels).size), v100]) (Template.mk x1.size x1.rels), bx b92 [.int .i64 ((Template.mk x0.size x0.rels).size), v94] 33, ow (V := (Agg 2 RTemplate)) (.agg #[.int .i64 ((Template.mk x0.size x0.rels).size), v94]) (Template.mk x0.size x0.rels), rl 1 RInt 2 v86 z60.1]) ?_ ?_
 ·
  refine x_reg (o_move F rfl rfl fun a F => o_move F rfl rfl (fun a F => ?_))
  obtain ⟨z128, c129, hR⟩ := bnd_some hR
  refine nEq (V := Sl 1 RInt) F rfl Tryz.call20 rfl H (H.l 0 rfl) (H.l 10 rfl) c129 (fun h g => eqInt64S_any _ _ _ _ _ _ h.r g.r h.m g.m) fun a w H F => o_not F rfl rfl fun a F => o_move F rfl rfl (fun a F => ?_)
  rcases bcases (!z128) with hb130 | hb130
  ·
   replace hR := ifT hb130 hR
   have F := F.eq (t := 86) rfl (congrArg Value.bool hb130)
   refine o_no F rfl rfl fun a F => o_no F rfl rfl fun a F => o_no F rfl rfl fun a F => o_pickt F rfl rfl rfl fun a F => x_end (x_tn ?_)
   exact ⟨true, (Option.some.inj hR).symm, F.sub (sc rfl (sc rfl (sc rfl (sc rfl (sc rfl (sc rfl (sc rfl (sc rfl (sc rfl (sc rfl (sc rfl (sc rfl (sc rfl (sc rfl (sc rfl sn))))))))))))))), (H.s [0, 1, 2, 3, 4, 5, 6, 7, 8, 9, 10] rfl rfl)⟩
  replace hR := ifF hb130 hR
  have F := F.eq (t := 86) rfl (congrArg Value.bool hb130)
  refine o_move F rfl rfl fun a F => o_move F rfl rfl fun a F => o_neq F rfl rfl rfl fun a F => o_pickf F rfl rfl rfl fun a F => x_end (x_tn ?_)
  exact ⟨(z115.2 != z60.2), (Option.some.inj hR).symm, F.sub (sc rfl (sc rfl (sc rfl (sc rfl (sc rfl (sc rfl (sc rfl (sc rfl (sc rfl (sc rfl (sc rfl (sc rfl (sc rfl (sc rfl (sc rfl sn))))))))))))))), (H.s [0, 1, 2, 3, 4, 5, 6, 7, 8, 9, 10] rfl rfl)⟩
 intro a w ⟨s127, ho126, F, H⟩
 subst ho126
 have hR := then_nx hk125
 refine x_tn (x_if F rfl (fun hb131 => ?_) (fun hb131 => ?_))
 ·
  replace hR := ifT hb131 hR
  refine x_seq (x_reg (o_assign F rfl rfl fun a F => x_end (x_tn (x_ret (x_tr ?_)))))
  have H := (th70.1 H (Ns.all ⟨n0, ⟨n0, ⟨n0, ⟨n0, ⟨n0, ⟨n0, ⟨n0, ⟨n0, ⟨n0, ⟨n0, ⟨n0, trivial⟩⟩⟩⟩⟩⟩⟩⟩⟩⟩⟩)).um.um.um
  refine x_res1 F rfl (rv_t F rfl) ?_
  obtain rfl := Option.some.inj hR
  exact ⟨rfl, H.bl⟩
 replace hR := ifF hb131 hR
 refine x_skip (x_tn (x_seq (x_seq ?_)))
 obtain ⟨z134, c135, hR⟩ := bnd_some hR
 obtain ⟨w141, rfl⟩ : ∃ x, x = w := ⟨_, rfl⟩
 obtain ⟨X136, N137, g138, e139, H, th140⟩ := (H.s [8, 0, 1, 2, 3, 4, 5, 6, 7, 9, 10] rfl rfl).fz
 have K142 := g138.bk
 refine xD H (by kernel_rfl) fun w H => b_q 0 (by kernel_rfl) rfl (by kernel_rfl) (by kernel_rfl) (by kernel_rfl) (by kernel_rfl) (vBA Tryz.isAgg33 Tryz.sizeOf33 F rfl rfl (K142.v H.sm) rfl rfl fun a F => b_q 1 (by kernel_rfl) rfl (by kernel_rfl) (by kernel_rfl) (by kernel_rfl) (by kernel_rfl) (vBA Tryz.isAgg24 Tryz.sizeOf24 F rfl rfl ((K75.lf e139).v H.sm) rfl rfl fun a F => xE H 2 rfl (by kernel_rfl) (nTo (V := Agg 2 RTemplate) F rfl Tryz.call13 rfl H (RTemplate.m i11 (H.a (e139 (e69 h13)))) (fun h => toTemplate_any _ _ _ _ h.r h.m (toq_some c41)) fun a w v143 H F => x_end (x_tn (⟨⟨_, H⟩, ?_⟩)))))
 refine xE H 3 rfl (by kernel_rfl) (nEq (V := Agg 2 RTemplate) F rfl Tryz.call16 rfl H (H.o 9 rfl) (H.o 0 rfl) c135 (fun h g => eqTemplate_any _ _ _ _ _ _ h.r g.r h.m g.m) fun a w H F => x_end (x_tn (⟨⟨_, H⟩, ?_⟩)))
 refine b_q0 4 rfl (by kernel_rfl) (by kernel_rfl) (by kernel_rfl) (v_val F rfl (fun w l => r_not F rfl) fun a F => b_end (by kernel_rfl) (x_tn (x_if F rfl (fun hb145 => ?_) (fun hb145 => ?_))))
 ·
  replace hR := ifT hb145 hR
  refine x_seq (x_reg (o_assign F rfl rfl fun a F => x_end (x_tn (x_ret (x_tr ?_)))))
  have H := (th70.1 (th140.1 H (Ns.all ⟨n0, ⟨n0, ⟨n0, ⟨n0, ⟨n0, ⟨n0, ⟨n0, ⟨n0, ⟨n0, ⟨n0, ⟨n0, trivial⟩⟩⟩⟩⟩⟩⟩⟩⟩⟩⟩)) (Ns.all ⟨n0, ⟨n0, ⟨n0, ⟨n0, ⟨n0, ⟨n0, ⟨n0, ⟨n0, ⟨n0, ⟨n0, ⟨n0, ⟨n0, trivial⟩⟩⟩⟩⟩⟩⟩⟩⟩⟩⟩⟩)).um.um.um
  refine x_res1 F rfl (rv_t F rfl) ?_
  obtain rfl := Option.some.inj hR
  exact ⟨rfl, H.bl⟩
 replace hR := ifF hb145 hR
 refine x_skip (x_tn (x_seq (x_seq ?_)))
 obtain ⟨z148, c149, hR⟩ := bnd_some hR
 obtain ⟨w155, rfl⟩ : ∃ x, x = w := ⟨_, rfl⟩
 obtain ⟨X150, N151, g152, e153, H, th154⟩ := (H.s [7, 0, 1, 2, 3, 4, 5, 6, 8, 9, 10] rfl rfl).fz
 have K156 := g152.bk
 refine xD H (by kernel_rfl) fun w H => b_q 0 (by kernel_rfl) rfl (by kernel_rfl) (by kernel_rfl) (by kernel_rfl) (by kernel_rfl) (vBA Tryz.isAgg33 Tryz.sizeOf33 F rfl rfl (K156.v H.sm) rfl rfl fun a F => b_q 1 (by kernel_rfl) rfl (by kernel_rfl) (by kernel_rfl) (by kernel_rfl) (by kernel_rfl) (vBA Tryz.isAgg24 Tryz.sizeOf24 F rfl rfl (((K74.lf e139).lf e153).v H.sm) rfl rfl fun a F => xE H 2 rfl (by kernel_rfl) (nTo (V := Agg 2 RTemplate) F rfl Tryz.call13 rfl H (RTemplate.m i15 (H.a (e153 (e139 (e69 h17))))) (fun h => toTemplate_any _ _ _ _ h.r h.m (toq_some c45)) fun a w v157 H F => x_end (x_tn (⟨⟨_, H⟩, ?_⟩)))))
 refine xE H 3 rfl (by kernel_rfl) (nEq (V := Agg 2 RTemplate) F rfl Tryz.call16 rfl H (H.o 8 rfl) (H.o 0 rfl) c149 (fun h g => eqTemplate_any _ _ _ _ _ _ h.r g.r h.m g.m) fun a w H F => x_end (x_tn (⟨⟨_, H⟩, ?_⟩)))
 refine b_q0 4 rfl (by kernel_rfl) (by kernel_rfl) (by kernel_rfl) (v_val F rfl (fun w l => r_not F rfl) fun a F => b_end (by kernel_rfl) (x_tn (x_if F rfl (fun hb159 => ?_) (fun hb159 => ?_))))
 ·
  replace hR := ifT hb159 hR
  refine x_seq (x_reg (o_assign F rfl rfl fun a F => x_end (x_tn (x_ret (x_tr ?_)))))
  have H := (th70.1 (th140.1 (th154.1 H (Ns.all ⟨n0, ⟨n0, ⟨n0, ⟨n0, ⟨n0, ⟨n0, ⟨n0, ⟨n0, ⟨n0, ⟨n0, ⟨n0, trivial⟩⟩⟩⟩⟩⟩⟩⟩⟩⟩⟩)) (Ns.all ⟨n0, ⟨n0, ⟨n0, ⟨n0, ⟨n0, ⟨n0, ⟨n0, ⟨n0, ⟨n0, ⟨n0, ⟨n0, ⟨n0, trivial⟩⟩⟩⟩⟩⟩⟩⟩⟩⟩⟩⟩)) (Ns.all ⟨n0, ⟨n0, ⟨n0, ⟨n0, ⟨n0, ⟨n0, ⟨n0, ⟨n0, ⟨n0, ⟨n0, ⟨n0, ⟨n0, ⟨n0, trivial⟩⟩⟩⟩⟩⟩⟩⟩⟩⟩⟩⟩⟩)).um.um.um
  refine x_res1 F rfl (rv_t F rfl) ?_
  obtain rfl := Option.some.inj hR
  exact ⟨rfl, H.bl⟩
 replace hR := ifF hb159 hR
 refine x_skip (x_tn (x_seq (x_seq ?_)))
 obtain ⟨z162, c163, hR⟩ := bnd_some hR
 obtain ⟨w169, rfl⟩ : ∃ x, x = w := ⟨_, rfl⟩
 obtain ⟨X164, N165, g166, e167, H, th168⟩ := (H.s [6, 0, 1, 2, 3, 4, 5, 7, 8, 9, 10] rfl rfl).fz
 have K170 := g166.bk
 refine xD H (by kernel_rfl) fun w H => b_q 0 (by kernel_rfl) rfl (by kernel_rfl) (by kernel_rfl) (by kernel_rfl) (by kernel_rfl) (vBA Tryz.isAgg37 Tryz.sizeOf37 F rfl rfl (K170.v H.sm) rfl rfl fun a F => b_q 1 (by kernel_rfl) rfl (by kernel_rfl) (by kernel_rfl) (by kernel_rfl) (by kernel_rfl) (vBA Tryz.isAgg27 Tryz.sizeOf27 F rfl rfl ((((K73.lf e139).lf e153).lf e167).v H.sm) rfl rfl fun a F => xE H 2 rfl (by kernel_rfl) (nTo (V := Agg 1 RGadgets) F rfl Tryz.call14 rfl H (RGadgets.m (H.a (e167 (e153 (e139 (e69 h20)))))) (fun h => toGadgets_any _ _ _ _ h.r h.m (toq_some c49)) fun a w v171 H F => x_end (x_tn (⟨⟨_, H⟩, ?_⟩)))))
 refine xE H 3 rfl (by kernel_rfl) (nEq (V := Agg 1 RGadgets) F rfl Tryz.call17 rfl H (H.o 7 rfl) (H.o 0 rfl) c163 (fun h g => eqGadgets_any _ _ _ _ _ _ h.r g.r h.m g.m) fun a w H F => x_end (x_tn (⟨⟨_, H⟩, ?_⟩)))
 refine b_q0 4 rfl (by kernel_rfl) (by kernel_rfl) (by kernel_rfl) (v_val F rfl (fun w l => r_not F rfl) fun a F => b_end (by kernel_rfl) (x_tn (x_if F rfl (fun hb173 => ?_) (fun hb173 => ?_))))
 ·
  replace hR := ifT hb173 hR
  refine x_seq (x_reg (o_assign F rfl rfl fun a F => x_end (x_tn (x_ret (x_tr ?_)))))
  have H := (th70.1 (th140.1 (th154.1 (th168.1 H (Ns.all ⟨n0, ⟨n0, ⟨n0, ⟨n0, ⟨n0, ⟨n0, ⟨n0, ⟨n0, ⟨n0, ⟨n0, ⟨n0, trivial⟩⟩⟩⟩⟩⟩⟩⟩⟩⟩⟩)) (Ns.all ⟨n0, ⟨n0, ⟨n0, ⟨n0, ⟨n0, ⟨n0, ⟨n0, ⟨n0, ⟨n0, ⟨n0, ⟨n0, ⟨n0, trivial⟩⟩⟩⟩⟩⟩⟩⟩⟩⟩⟩⟩)) (Ns.all ⟨n0, ⟨n0, ⟨n0, ⟨n0, ⟨n0, ⟨n0, ⟨n0, ⟨n0, ⟨n0, ⟨n0, ⟨n0, ⟨n0, ⟨n0, trivial⟩⟩⟩⟩⟩⟩⟩⟩⟩⟩⟩⟩⟩)) (Ns.all ⟨n0, ⟨n0, ⟨n0, ⟨n0, ⟨n0, ⟨n0, ⟨n0, ⟨n0, ⟨n0, ⟨n0, ⟨n0, ⟨n0, ⟨n0, ⟨n0, trivial⟩⟩⟩⟩⟩⟩⟩⟩⟩⟩⟩⟩⟩⟩)).um.um.um
  refine x_res1 F rfl (rv_t F rfl) ?_
  obtain rfl := Option.some.inj hR
  exact ⟨rfl, H.bl⟩
 replace hR := ifF hb173 hR
 refine x_skip (x_tn (x_seq (x_seq ?_)))
 obtain ⟨z176, c177, hR⟩ := bnd_some hR
 obtain ⟨w183, rfl⟩ : ∃ x, x = w := ⟨_, rfl⟩
 obtain ⟨X178, N179, g180, e181, H, th182⟩ := (H.s [5, 0, 1, 2, 3, 4, 6, 7, 8, 9, 10] rfl rfl).fz
 have K184 := g180.bk
 refine xD H (by kernel_rfl) fun w H => b_q 0 (by kernel_rfl) rfl (by kernel_rfl) (by kernel_rfl) (by kernel_rfl) (by kernel_rfl) (vBA Tryz.isAgg58 Tryz.sizeOf58 F rfl rfl (K184.v H.sm) rfl rfl fun a F => b_q 1 (by kernel_rfl) rfl (by kernel_rfl) (by kernel_rfl) (by kernel_rfl) (by kernel_rfl) (vBA Tryz.isAgg54 Tryz.sizeOf54 F rfl rfl (((((K72.lf e139).lf e153).lf e167).lf e181).v H.sm) rfl rfl fun a F => xE H 2 rfl (by kernel_rfl) (nTo (V := Agg 2 RInstance) F rfl Tryz.call30 rfl H (RInstance.m i22 (H.a (e181 (e167 (e153 (e139 (e69 h24))))))) (fun h => toInstance_any _ _ _ _ h.r h.m (toq_some c53)) fun a w v185 H F => x_end (x_tn (⟨⟨_, H⟩, ?_⟩)))))
 refine xE H 3 rfl (by kernel_rfl) (nEq (V := Agg 2 RInstance) F rfl Tryz.call32 rfl H (H.o 6 rfl) (H.o 0 rfl) c177 (fun h g => eqInstance_any _ _ _ _ _ _ h.r g.r h.m g.m) fun a w H F => x_end (x_tn (⟨⟨_, H⟩, ?_⟩)))
 refine b_q0 4 rfl (by kernel_rfl) (by kernel_rfl) (by kernel_rfl) (v_val F rfl (fun w l => r_not F rfl) fun a F => b_end (by kernel_rfl) (x_tn (x_if F rfl (fun hb187 => ?_) (fun hb187 => ?_))))
 ·
  replace hR := ifT hb187 hR
  refine x_seq (x_reg (o_assign F rfl rfl fun a F => x_end (x_tn (x_ret (x_tr ?_)))))
  have H := (th70.1 (th140.1 (th154.1 (th168.1 (th182.1 H (Ns.all ⟨n0, ⟨n0, ⟨n0, ⟨n0, ⟨n0, ⟨n0, ⟨n0, ⟨n0, ⟨n0, ⟨n0, ⟨n0, trivial⟩⟩⟩⟩⟩⟩⟩⟩⟩⟩⟩)) (Ns.all ⟨n0, ⟨n0, ⟨n0, ⟨n0, ⟨n0, ⟨n0, ⟨n0, ⟨n0, ⟨n0, ⟨n0, ⟨n0, ⟨n0, trivial⟩⟩⟩⟩⟩⟩⟩⟩⟩⟩⟩⟩)) (Ns.all ⟨n0, ⟨n0, ⟨n0, ⟨n0, ⟨n0, ⟨n0, ⟨n0, ⟨n0, ⟨n0, ⟨n0, ⟨n0, ⟨n0, ⟨n0, trivial⟩⟩⟩⟩⟩⟩⟩⟩⟩⟩⟩⟩⟩)) (Ns.all ⟨n0, ⟨n0, ⟨n0, ⟨n0, ⟨n0, ⟨n0, ⟨n0, ⟨n0, ⟨n0, ⟨n0, ⟨n0, ⟨n0, ⟨n0, ⟨n0, trivial⟩⟩⟩⟩⟩⟩⟩⟩⟩⟩⟩⟩⟩⟩)) (Ns.all ⟨n0, ⟨n0, ⟨n0, ⟨n0, ⟨n0, ⟨n0, ⟨n0, ⟨n0, ⟨n0, ⟨n0, ⟨n0, ⟨n0, ⟨n0, ⟨n0, ⟨n0, trivial⟩⟩⟩⟩⟩⟩⟩⟩⟩⟩⟩⟩⟩⟩⟩)).um.um.um
  refine x_res1 F rfl (rv_t F rfl) ?_
  obtain rfl := Option.some.inj hR
  exact ⟨rfl, H.bl⟩
 replace hR := ifF hb187 hR
 refine x_skip (x_tn (x_seq (x_seq (x_reg (o_move F rfl rfl fun a F => o_move F rfl rfl fun a F => nTo (V := Sl 1 RInt) F rfl Tryz.call36 rfl H (H.a (e181 (e167 (e153 (e139 (e69 A4)))))) (fun h => toInt64S_any _ _ _ _ h.r h.m (toq_some c57)) (fun a w v188 H F => ?_))))))
 obtain ⟨z190, c191, hR⟩ := bnd_some hR
 refine nEq (V := Sl 1 RInt) F rfl Tryz.call20 rfl H (H.o 6 rfl) (H.o 0 rfl) c191 (fun h g => eqInt64S_any _ _ _ _ _ _ h.r g.r h.m g.m) fun a w H F => o_not F rfl rfl fun a F => x_end (x_tn (x_if F rfl (fun hb192 => ?_) (fun hb192 => ?_)))
 ·
  replace hR := ifT hb192 hR
  refine x_seq (x_reg (o_assign F rfl rfl fun a F => x_end (x_tn (x_ret (x_tr ?_)))))
  have H := (th70.1 (th140.1 (th154.1 (th168.1 (th182.1 H (Ns.all ⟨n0, ⟨n0, ⟨n0, ⟨n0, ⟨n0, ⟨n0, ⟨n0, ⟨n0, ⟨n0, ⟨n0, ⟨n0, ⟨n0, trivial⟩⟩⟩⟩⟩⟩⟩⟩⟩⟩⟩⟩)) (Ns.all ⟨n0, ⟨n0, ⟨n0, ⟨n0, ⟨n0, ⟨n0, ⟨n0, ⟨n0, ⟨n0, ⟨n0, ⟨n0, ⟨n0, ⟨n0, trivial⟩⟩⟩⟩⟩⟩⟩⟩⟩⟩⟩⟩⟩)) (Ns.all ⟨n0, ⟨n0, ⟨n0, ⟨n0, ⟨n0, ⟨n0, ⟨n0, ⟨n0, ⟨n0, ⟨n0, ⟨n0, ⟨n0, ⟨n0, ⟨n0, trivial⟩⟩⟩⟩⟩⟩⟩⟩⟩⟩⟩⟩⟩⟩)) (Ns.all ⟨n0, ⟨n0, ⟨n0, ⟨n0, ⟨n0, ⟨n0, ⟨n0, ⟨n0, ⟨n0, ⟨n0, ⟨n0, ⟨n0, ⟨n0, ⟨n0, ⟨n0, trivial⟩⟩⟩⟩⟩⟩⟩⟩⟩⟩⟩⟩⟩⟩⟩)) (Ns.all ⟨n0, ⟨n0, ⟨n0, ⟨n0, ⟨n0, ⟨n0, ⟨n0, ⟨n0, ⟨n0, ⟨n0, ⟨n0, ⟨n0, ⟨n0, ⟨n0, ⟨n0, ⟨n0, trivial⟩⟩⟩⟩⟩⟩⟩⟩⟩⟩⟩⟩⟩⟩⟩⟩)).um.um.um
  refine x_res1 F rfl (rv_t F rfl) ?_
  obtain rfl := Option.some.inj hR
  exact ⟨rfl, H.bl⟩
 replace hR := ifF hb192 hR
 refine x_skip (x_tn (x_seq (x_reg (o_assign F rfl rfl fun a F => x_end (x_tn (x_seq (x_reg (oBA Tryz.isAgg33 Tryz.sizeOf33 F rfl rfl ((((K142.lf e153).lf e167).lf e181).o H.sm) rfl rfl fun a F => o_move F rfl rfl (fun a F => ?_)))))))))
 obtain ⟨z193, c194, hR⟩ := bnd_some hR
 refine nMk (V := Agg 2 RTemplate) (x' := ((Template.mk x0.size x0.rels).mkv 1)) F rfl Tryz.call21 rfl (H.s [10, 0, 1, 2, 3, 4, 5, 6, 7, 8, 9, 11] rfl rfl) c194 (fun h o h0 h1 => markTemplate_any _ _ _ _ _ _ h.r o h0 h1) fun a w H iz193 F => o_assign F rfl rfl fun a F => x_end (x_tn (x_seq (x_reg (oBA Tryz.isAgg33 Tryz.sizeOf33 F rfl rfl (((K156.lf e167).lf e181).o H.sm) rfl rfl fun a F => o_move F rfl rfl (fun a F => ?_)))))
 obtain ⟨z195, c196, hR⟩ := bnd_some hR
 refine nMk (V := Agg 2 RTemplate) (x' := ((Template.mk x1.size x1.rels).mkv z193)) F rfl Tryz.call21 rfl (H.s [10, 0, 1, 2, 3, 4, 5, 6, 7, 8, 9, 11] rfl rfl) c196 (fun h o h0 h1 => markTemplate_any _ _ _ _ _ _ h.r o h0 h1) fun a w H iz195 F => o_assign F rfl rfl fun a F => x_end (x_tn (x_seq (x_reg (oBA Tryz.isAgg37 Tryz.sizeOf37 F rfl rfl ((K170.lf e181).o H.sm) rfl rfl fun a F => o_move F rfl rfl (fun a F => ?_)))))
 obtain ⟨z197, c198, hR⟩ := bnd_some hR
 refine nMk (V := Agg 1 RGadgets) (x' := ((Gadgets.mk x2.formulas).mkv z195)) F rfl Tryz.call22 rfl (H.s [10, 0, 1, 2, 3, 4, 5, 6, 7, 8, 9, 11] rfl rfl) c198 (fun h o h0 h1 => markGadgets_any _ _ _ _ _ _ h.r o h0 h1) fun a w H iz197 F => o_assign F rfl rfl fun a F => x_end (x_tn (x_seq (x_reg (oBA Tryz.isAgg58 Tryz.sizeOf58 F rfl rfl (K184.o H.sm) rfl rfl fun a F => o_move F rfl rfl (fun a F => ?_)))))
 obtain ⟨z199, c200, hR⟩ := bnd_some hR
 refine nMk (V := Agg 2 RInstance) (x' := ((Instance.mk x3.vars x3.cons).mkv z197)) F rfl Tryz.call33 rfl (H.s [10, 0, 1, 2, 3, 4, 5, 6, 7, 8, 9, 11] rfl rfl) c200 (fun h o h0 h1 => markInstance_any _ _ _ _ _ _ h.r o h0 h1) fun a w H iz199 F => o_assign F rfl rfl fun a F => x_end (x_tn (x_seq (x_reg (o_move F rfl rfl fun a F => o_move F rfl rfl (fun a F => ?_)))))
 obtain ⟨z201, c202, hR⟩ := bnd_some hR
 refine nMk (V := Sl 1 RInt) (x' := (mkS mkI cI x4 z199)) F rfl Tryz.call23 rfl (H.s [10, 0, 1, 2, 3, 4, 5, 6, 7, 8, 9, 11] rfl rfl) c202 (fun h o h0 h1 => markInt64S_any _ _ _ _ _ _ h.r o h0 h1) fun a w H iz201 F => o_assign F rfl rfl fun a F => x_end (x_tn (x_seq (x_seq ?_)))
 obtain ⟨o207, hR, hk208⟩ := thn_some hR
 refine x_cutQ (fun a w => ∃ (s210 : Bool), o207 = .nx s210 ∧ Sk a 186 [(4, v4), (5, .pointer (some ⟨b14, 0, none⟩)), (6, .pointer (some ⟨b18, 0, none⟩)), (7, .pointer (some ⟨b21, 0, none⟩)), (8, .pointer (some ⟨b25, 0, none⟩)), (12, v86), (13, .int .i64 z60.2), (19, v117), (143, .bool s210)] ∧ Sep X178 N179 w183 w [rl 1 RInt 2 v117 z115.1, rl 1 RInt 2 v86 z60.1]) ?_ ?_
 ·
  refine x_reg (o_move F rfl rfl fun a F => o_lss F rfl rfl rfl fun a F => o_move F rfl rfl (fun a F => ?_))
  rcases bcases (decide (z201 < 0)) with hb211 | hb211
  ·
   replace hR := ifT hb211 hR
   have F := F.eq (t := 133) rfl (congrArg Value.bool hb211)
   refine o_no F rfl rfl fun a F => o_no F rfl rfl fun a F => o_no F rfl rfl fun a F => o_no F rfl rfl fun a F => o_pickt F rfl rfl rfl fun a F => o_move F rfl rfl fun a F => o_no F rfl rfl fun a F => o_no F rfl rfl fun a F => o_no F rfl rfl fun a F => o_pickt F rfl rfl rfl fun a F => x_end ?_
   refine x_tn ?_
   exact ⟨true, (Option.some.inj hR).symm, F.sub (sc rfl (sc rfl (sc rfl (sc rfl (sc rfl (sc rfl (sc rfl (sc rfl (sc rfl sn))))))))), (H.s [10, 11] rfl rfl)⟩
  replace hR := ifF hb211 hR
  have F := F.eq (t := 133) rfl (congrArg Value.bool hb211)
  refine o_move F rfl rfl fun a F => o_move F rfl rfl (fun a F => ?_)
  obtain ⟨z212, c213, hR⟩ := bnd_some hR
  refine nEq (V := Sl 1 RInt) F rfl Tryz.call20 rfl H (H.l 10 rfl) (H.l 11 rfl) c213 (fun h g => eqInt64S_any _ _ _ _ _ _ h.r g.r h.m g.m) fun a w H F => o_not F rfl rfl fun a F => o_pickf F rfl rfl rfl fun a F => o_move F rfl rfl (fun a F => ?_)
  rcases bcases (!z212) with hb214 | hb214
  ·
   replace hR := ifT hb214 hR
   have F := F.eq (t := 139) rfl (congrArg Value.bool hb214)
   refine o_no F rfl rfl fun a F => o_no F rfl rfl fun a F => o_no F rfl rfl fun a F => o_pickt F rfl rfl rfl fun a F => x_end (x_tn ?_)
   exact ⟨true, (Option.some.inj hR).symm, F.sub (sc rfl (sc rfl (sc rfl (sc rfl (sc rfl (sc rfl (sc rfl (sc rfl (sc rfl sn))))))))), (H.s [10, 11] rfl rfl)⟩
  replace hR := ifF hb214 hR
  have F := F.eq (t := 139) rfl (congrArg Value.bool hb214)
  refine o_move F rfl rfl fun a F => o_move F rfl rfl fun a F => o_neq F rfl rfl rfl fun a F => o_pickf F rfl rfl rfl fun a F => x_end (x_tn ?_)
  exact ⟨(z115.2 != z60.2), (Option.some.inj hR).symm, F.sub (sc rfl (sc rfl (sc rfl (sc rfl (sc rfl (sc rfl (sc rfl (sc rfl (sc rfl sn))))))))), (H.s [10, 11] rfl rfl)⟩
 intro a w ⟨s210, ho209, F, H⟩
 subst ho209
 have hR := then_nx hk208
 refine x_tn (x_if F rfl (fun hb215 => ?_) (fun hb215 => ?_))
 ·
  replace hR := ifT hb215 hR
  refine x_seq (x_reg (o_assign F rfl rfl fun a F => x_end (x_tn (x_ret (x_tr ?_)))))
  have H := (th70.1 (th140.1 (th154.1 (th168.1 (th182.1 H (Ns.all ⟨n0, ⟨n0, trivial⟩⟩)) (Ns.all ⟨n0, ⟨n0, ⟨n0, trivial⟩⟩⟩)) (Ns.all ⟨n0, ⟨n0, ⟨n0, ⟨n0, trivial⟩⟩⟩⟩)) (Ns.all ⟨n0, ⟨n0, ⟨n0, ⟨n0, ⟨n0, trivial⟩⟩⟩⟩⟩)) (Ns.all ⟨n0, ⟨n0, ⟨n0, ⟨n0, ⟨n0, ⟨n0, trivial⟩⟩⟩⟩⟩⟩)).um.um.um
  refine x_res1 F rfl (rv_t F rfl) ?_
  obtain rfl := Option.some.inj hR
  exact ⟨rfl, H.bl⟩
 replace hR := ifF hb215 hR
 refine x_skip (x_tn (x_seq (x_reg (o_assign F rfl rfl fun a F => x_end (x_tn (x_seq (x_reg (o_move F rfl rfl fun a F => o_move F rfl rfl (fun a F => ?_)))))))))
 have H := H.os
 obtain ⟨z216, c217, hR⟩ := bnd_some hR
 refine nMk (V := Sl 1 RInt) (x' := (mkS mkI cI z115.1 1)) F rfl Tryz.call23 rfl H c217 (fun h o h0 h1 => markInt64S_any _ _ _ _ _ _ h.r o h0 h1) fun a w H iz216 F => o_assign F rfl rfl fun a F => x_end (x_tn (x_seq (x_reg (o_assign F rfl rfl fun a F => x_end (x_tn (x_seq (x_reg ?_)))))))
 refine o_move F rfl rfl fun a F => o_move F rfl rfl fun a F => nHl (V := Sl 1 RInt) F rfl Tryz.call24 rfl H (H.o 0 rfl) c217 (fun h h0 h1 => heldInt64S_any _ _ _ _ _ h.r h.m h0 h1) fun a w H iz216 F => o_assign F rfl rfl fun a F => x_end (x_tn (x_seq (x_seq (x_reg (o_move F rfl rfl fun a F => o_lss F rfl rfl rfl (fun a F => ?_))))))
 refine x_end (x_tn (x_if F rfl (fun hb218 => ?_) (fun hb218 => ?_)))
 ·
  replace hR := ifT hb218 hR
  refine x_seq (x_reg (o_assign F rfl rfl fun a F => x_end (x_tn (x_ret (x_tr ?_)))))
  have H := (th70.1 (th140.1 (th154.1 (th168.1 (th182.1 H (Ns.all ⟨n0, ⟨n0, trivial⟩⟩)) (Ns.all ⟨n0, ⟨n0, ⟨n0, trivial⟩⟩⟩)) (Ns.all ⟨n0, ⟨n0, ⟨n0, ⟨n0, trivial⟩⟩⟩⟩)) (Ns.all ⟨n0, ⟨n0, ⟨n0, ⟨n0, ⟨n0, trivial⟩⟩⟩⟩⟩)) (Ns.all ⟨n0, ⟨n0, ⟨n0, ⟨n0, ⟨n0, ⟨n0, trivial⟩⟩⟩⟩⟩⟩)).um.um.um
  refine x_res1 F rfl (rv_t F rfl) ?_
  obtain rfl := Option.some.inj hR
  exact ⟨rfl, H.bl⟩
 replace hR := ifF hb218 hR
 refine x_skip (x_tn (x_seq (x_seq (x_reg (o_move F rfl rfl fun a F => o_move F rfl rfl fun a F => o_neq F rfl rfl rfl fun a F => x_end (x_tn (x_if F rfl (fun hb219 => ?_) (fun hb219 => ?_))))))))
 ·
  replace hR := ifT hb219 hR
  refine x_seq (x_reg (o_assign F rfl rfl fun a F => x_end (x_tn (x_ret (x_tr ?_)))))
  have H := (th70.1 (th140.1 (th154.1 (th168.1 (th182.1 H (Ns.all ⟨n0, ⟨n0, trivial⟩⟩)) (Ns.all ⟨n0, ⟨n0, ⟨n0, trivial⟩⟩⟩)) (Ns.all ⟨n0, ⟨n0, ⟨n0, ⟨n0, trivial⟩⟩⟩⟩)) (Ns.all ⟨n0, ⟨n0, ⟨n0, ⟨n0, ⟨n0, trivial⟩⟩⟩⟩⟩)) (Ns.all ⟨n0, ⟨n0, ⟨n0, ⟨n0, ⟨n0, ⟨n0, trivial⟩⟩⟩⟩⟩⟩)).um.um.um
  refine x_res1 F rfl (rv_t F rfl) ?_
  obtain rfl := Option.some.inj hR
  exact ⟨rfl, H.bl⟩
 replace hR := ifF hb219 hR
 refine x_skip (x_tn (x_seq (xD H (by kernel_rfl) fun w H => b_q 0 (by kernel_rfl) rfl (by kernel_rfl) (by kernel_rfl) (by kernel_rfl) (by kernel_rfl) (vBA Tryz.isAgg24 Tryz.sizeOf24 F rfl rfl (((((K75.lf e139).lf e153).lf e167).lf e181).v H.sm) rfl rfl fun a F => b_q 2 (by kernel_rfl) rfl (by kernel_rfl) (by kernel_rfl) (by kernel_rfl) (by kernel_rfl) (vBA Tryz.isAgg24 Tryz.sizeOf24 F rfl rfl (((((K74.lf e139).lf e153).lf e167).lf e181).v H.sm) rfl rfl fun a F => b_q 4 (by kernel_rfl) rfl (by kernel_rfl) (by kernel_rfl) (by kernel_rfl) (by kernel_rfl) (vBA Tryz.isAgg27 Tryz.sizeOf27 F rfl rfl (((((K73.lf e139).lf e153).lf e167).lf e181).v H.sm) rfl rfl fun a F => b_q 6 (by kernel_rfl) rfl (by kernel_rfl) (by kernel_rfl) (by kernel_rfl) (by kernel_rfl) ?_))))))
 refine vBA Tryz.isAgg54 Tryz.sizeOf54 F rfl rfl (((((K72.lf e139).lf e153).lf e167).lf e181).v H.sm) rfl rfl fun a F => b_q0 8 rfl (by kernel_rfl) (by kernel_rfl) (by kernel_rfl) (v_val F rfl (fun w l => r_move F rfl) fun a F => xE H 1 rfl (by kernel_rfl) (nTo (V := Agg 2 RTemplate) F rfl Tryz.call13 rfl H (RTemplate.m i11 (H.a (e181 (e167 (e153 (e139 (e69 h13))))))) (fun h => toTemplate_any _ _ _ _ h.r h.m (toq_some c41)) fun a w v234 H F => x_end (x_tn (⟨⟨_, H⟩, ?_⟩))))
 refine xE H 3 rfl (by kernel_rfl) (nTo (V := Agg 2 RTemplate) F rfl Tryz.call13 rfl H (RTemplate.m i15 (H.a (e181 (e167 (e153 (e139 (e69 h17))))))) (fun h => toTemplate_any _ _ _ _ h.r h.m (toq_some c45)) fun a w v236 H F => x_end (x_tn (⟨⟨_, H⟩, ?_⟩)))
 refine xE H 5 rfl (by kernel_rfl) (nTo (V := Agg 1 RGadgets) F rfl Tryz.call14 rfl H (RGadgets.m (H.a (e181 (e167 (e153 (e139 (e69 h20))))))) (fun h => toGadgets_any _ _ _ _ h.r h.m (toq_some c49)) fun a w v238 H F => x_end (x_tn (⟨⟨_, H⟩, ?_⟩)))
 refine xE H 7 rfl (by kernel_rfl) (nTo (V := Agg 2 RInstance) F rfl Tryz.call30 rfl H (RInstance.m i22 (H.a (e181 (e167 (e153 (e139 (e69 h24))))))) (fun h => toInstance_any _ _ _ _ h.r h.m (toq_some c53)) fun a w v240 H F => x_end (x_tn (⟨⟨_, H⟩, ?_⟩)))
 refine xE H 9 rfl (by kernel_rfl) (nTo (V := Sl 1 RInt) F rfl Tryz.call36 rfl H (H.a (e181 (e167 (e153 (e139 (e69 A4)))))) (fun h => toInt64S_any _ _ _ _ h.r h.m (toq_some c57)) fun a w v242 H F => x_end (x_tn (⟨⟨_, H⟩, ?_⟩)))
 refine xE H 10 rfl (by kernel_rfl) (oG F rfl Tryz.call37 rfl (impl_CarryBack_c z115 c116 _ aA (H.o 4 rfl) (H.o 3 rfl) (H.o 2 rfl) (H.o 1 rfl) (H.o 0 rfl)) (fun a vv w ⟨v244, hv247, S, i246⟩ F => ?_))
 subst vv
 have H := H.r1 S n0
 refine x_end (x_tn (⟨⟨_, H⟩, ?_⟩))
 refine b_q0 11 rfl (by kernel_rfl) (by kernel_rfl) (by kernel_rfl) (v_val F rfl (fun w l => r_move F rfl) fun a F => b_q0 12 rfl (by kernel_rfl) (by kernel_rfl) (by kernel_rfl) (v_val F rfl (fun w l => r_extract F rfl rfl) fun a F => b_q0 13 rfl (by kernel_rfl) (by kernel_rfl) (by kernel_rfl) (v_val F rfl (fun w l => r_extract F rfl rfl) fun a F => b_q0 14 rfl (by kernel_rfl) (by kernel_rfl) (by kernel_rfl) (v_val F rfl (fun w l => r_assign F rfl) fun a F => b_q0 15 rfl (by kernel_rfl) (by kernel_rfl) (by kernel_rfl) (v_val F rfl (fun w l => r_assign F rfl) fun a F => b_end (by kernel_rfl) ?_)))))
 refine x_tn (x_seq (x_seq ?_))
 obtain ⟨o251, hR, hk252⟩ := thn_some hR
 refine x_cutQ (fun a w => ∃ (s254 : Bool), o251 = .nx s254 ∧ Sk a 186 [(19, v117), (22, .int .i64 z216), (177, .bool s254)] ∧ Sep X178 N179 w183 w [ow (V := (Sl 1 RInt)) v117 (mkS mkI cI z115.1 1)]) ?_ ?_
 ·
  refine x_reg (o_move F rfl rfl fun a F => o_move F rfl rfl (fun a F => ?_))
  obtain ⟨z255, c256, hR⟩ := bnd_some hR
  refine nEq (V := Sl 1 RInt) F rfl Tryz.call20 rfl H (H.l 0 rfl) (H.l 7 rfl) c256 (fun h g => eqInt64S_any _ _ _ _ _ _ h.r g.r h.m g.m) fun a w H F => o_not F rfl rfl fun a F => o_move F rfl rfl (fun a F => ?_)
  rcases bcases (!z255) with hb257 | hb257
  ·
   replace hR := ifT hb257 hR
   have F := F.eq (t := 173) rfl (congrArg Value.bool hb257)
   refine o_no F rfl rfl fun a F => o_no F rfl rfl fun a F => o_no F rfl rfl fun a F => o_pickt F rfl rfl rfl fun a F => x_end (x_tn ?_)
   exact ⟨true, (Option.some.inj hR).symm, F.sub (sc rfl (sc rfl (sc rfl sn))), (H.s [6] rfl rfl)⟩
  replace hR := ifF hb257 hR
  have F := F.eq (t := 173) rfl (congrArg Value.bool hb257)
  refine o_move F rfl rfl fun a F => o_move F rfl rfl fun a F => o_neq F rfl rfl rfl fun a F => o_pickf F rfl rfl rfl fun a F => x_end (x_tn ?_)
  exact ⟨(z115.2 != z60.2), (Option.some.inj hR).symm, F.sub (sc rfl (sc rfl (sc rfl sn))), (H.s [6] rfl rfl)⟩
 intro a w ⟨s254, ho253, F, H⟩
 subst ho253
 have hR := then_nx hk252
 refine x_tn (x_if F rfl (fun hb258 => ?_) (fun hb258 => ?_))
 ·
  replace hR := ifT hb258 hR
  refine x_seq (x_reg (o_assign F rfl rfl fun a F => x_end (x_tn (x_ret (x_tr ?_)))))
  have H := (th70.1 (th140.1 (th154.1 (th168.1 (th182.1 H (Ns.all ⟨n0, trivial⟩)) (Ns.all ⟨n0, ⟨n0, trivial⟩⟩)) (Ns.all ⟨n0, ⟨n0, ⟨n0, trivial⟩⟩⟩)) (Ns.all ⟨n0, ⟨n0, ⟨n0, ⟨n0, trivial⟩⟩⟩⟩)) (Ns.all ⟨n0, ⟨n0, ⟨n0, ⟨n0, ⟨n0, trivial⟩⟩⟩⟩⟩)).um.um.um
  refine x_res1 F rfl (rv_t F rfl) ?_
  obtain rfl := Option.some.inj hR
  exact ⟨rfl, H.bl⟩
 replace hR := ifF hb258 hR
 refine x_skip (x_tn (x_seq (x_reg (o_assign F rfl rfl fun a F => x_end (x_tn (x_seq (x_reg (o_move F rfl rfl fun a F => o_move F rfl rfl (fun a F => ?_)))))))))
 refine nHl (V := Sl 1 RInt) F rfl Tryz.call24 rfl H (H.o 0 rfl) c217 (fun h h0 h1 => heldInt64S_any _ _ _ _ _ h.r h.m h0 h1) fun a w H iz216 F => o_assign F rfl rfl fun a F => x_end (x_tn (x_seq (x_seq (x_reg (o_move F rfl rfl fun a F => o_lss F rfl rfl rfl fun a F => x_end (x_tn ?_))))))
 refine x_if F rfl (fun hb259 => ?_) (fun hb259 => ?_)
 ·
  replace hR := ifT hb259 hR
  refine x_seq (x_reg (o_assign F rfl rfl fun a F => x_end (x_tn (x_ret (x_tr ?_)))))
  have H := (th70.1 (th140.1 (th154.1 (th168.1 (th182.1 H (Ns.all ⟨n0, trivial⟩)) (Ns.all ⟨n0, ⟨n0, trivial⟩⟩)) (Ns.all ⟨n0, ⟨n0, ⟨n0, trivial⟩⟩⟩)) (Ns.all ⟨n0, ⟨n0, ⟨n0, ⟨n0, trivial⟩⟩⟩⟩)) (Ns.all ⟨n0, ⟨n0, ⟨n0, ⟨n0, ⟨n0, trivial⟩⟩⟩⟩⟩)).um.um.um
  refine x_res1 F rfl (rv_t F rfl) ?_
  obtain rfl := Option.some.inj hR
  exact ⟨rfl, H.bl⟩
 replace hR := ifF hb259 hR
 refine x_skip (x_tn (x_seq (x_seq (x_reg (o_move F rfl rfl fun a F => o_move F rfl rfl fun a F => o_neq F rfl rfl rfl fun a F => x_end (x_tn (x_if F rfl (fun hb260 => ?_) (fun hb260 => ?_))))))))
 ·
  replace hR := ifT hb260 hR
  refine x_seq (x_reg (o_assign F rfl rfl fun a F => x_end (x_tn (x_ret (x_tr ?_)))))
  have H := (th70.1 (th140.1 (th154.1 (th168.1 (th182.1 H (Ns.all ⟨n0, trivial⟩)) (Ns.all ⟨n0, ⟨n0, trivial⟩⟩)) (Ns.all ⟨n0, ⟨n0, ⟨n0, trivial⟩⟩⟩)) (Ns.all ⟨n0, ⟨n0, ⟨n0, ⟨n0, trivial⟩⟩⟩⟩)) (Ns.all ⟨n0, ⟨n0, ⟨n0, ⟨n0, ⟨n0, trivial⟩⟩⟩⟩⟩)).um.um.um
  refine x_res1 F rfl (rv_t F rfl) ?_
  obtain rfl := Option.some.inj hR
  exact ⟨rfl, H.bl⟩
 replace hR := ifF hb260 hR
 refine x_skip (x_tn (x_seq (x_reg (o_assign F rfl rfl fun a F => x_end (x_tn (x_ret ?_))))))
 have H := (th70.1 (th140.1 (th154.1 (th168.1 (th182.1 H (Ns.all ⟨n0, trivial⟩)) (Ns.all ⟨n0, ⟨n0, trivial⟩⟩)) (Ns.all ⟨n0, ⟨n0, ⟨n0, trivial⟩⟩⟩)) (Ns.all ⟨n0, ⟨n0, ⟨n0, ⟨n0, trivial⟩⟩⟩⟩)) (Ns.all ⟨n0, ⟨n0, ⟨n0, ⟨n0, ⟨n0, trivial⟩⟩⟩⟩⟩)).um.um.um
 refine x_res1 F rfl (rv_t F rfl) ?_
 obtain rfl := Option.some.inj hR
 exact ⟨rfl, H.bl⟩
end
end Go.Proofs.YtmgdjaiaekhkgaaGreat
