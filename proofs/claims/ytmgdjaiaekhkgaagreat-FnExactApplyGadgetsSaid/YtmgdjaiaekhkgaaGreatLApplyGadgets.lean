/-
  Laws of the program as plain functions, and that they compute them. Printed by slaw.py.
-/
import Derived.Test.YtmgdjaiaekhkgaaGreatS5
import Derived.Test.YtmgdjaiaekhkgaaGreatNY
import Derived.Test.YtmgdjaiaekhkgaaGreatL1
import Derived.Test.YtmgdjaiaekhkgaaGreatL2
import Derived.Test.YtmgdjaiaekhkgaaGreatL3
import Derived.Test.YtmgdjaiaekhkgaaGreatL6
namespace Go.Proofs.YtmgdjaiaekhkgaaGreat
set_option linter.unusedVariables false
set_option linter.unusedSimpArgs false
set_option maxRecDepth 100000
open Go.RowKit
noncomputable section
def laws_FnExactApplyGadgets (N : Nat) (x0 : Template) (x1 : Template) (x2 : Gadgets) (x3 : Instance) : Option Bool :=
 bnd (szq 1048576 ((Template.mk x0.size x0.rels).sz)) fun z26 =>
 if (decide (z26 < 0)) then
  some true
 else
  bnd (szq z26 ((Template.mk x1.size x1.rels).sz)) fun z29 =>
  if (decide (z29 < 0)) then
   some true
  else
   bnd (szq z29 ((Gadgets.mk x2.formulas).sz)) fun z32 =>
   if (decide (z32 < 0)) then
    some true
   else
    bnd (szq z32 ((Instance.mk x3.vars x3.cons).sz)) fun z35 =>
    if (decide (z35 < 0)) then
     some true
    else
     bnd (toq ((Template.mk x0.size x0.rels).sz)) fun z38 =>
     bnd (toq ((Template.mk x1.size x1.rels).sz)) fun z42 =>
     bnd (toq ((Gadgets.mk x2.formulas).sz)) fun z46 =>
     bnd (toq ((Instance.mk x3.vars x3.cons).sz)) fun z50 =>
     bnd (spec_ApplyGadgets N (Template.mk x0.size x0.rels) (Template.mk x1.size x1.rels) (Gadgets.mk x2.formulas) (Instance.mk x3.vars x3.cons)) fun z54 =>
     bnd (impl_ApplyGadgets N (Template.mk x0.size x0.rels) (Template.mk x1.size x1.rels) (Gadgets.mk x2.formulas) (Instance.mk x3.vars x3.cons)) fun z169 =>
     thn (σ := Bool) (
      bnd (eqq (Instance.mk z169.1.vars z169.1.cons) (Instance.mk z54.1.vars z54.1.cons)) fun z189 =>
      if (!z189) then  some (.nx true) else  bnd (eqq z169.2.1 z54.2.1) fun z192 =>
       if (!z192) then  some (.nx true) else  some (.nx (z169.2.2 != z54.2.2))) fun s188 =>
     if s188 then
      some false
     else
      bnd (eqq (Template.mk x0.size x0.rels) (Template.mk x0.size x0.rels)) fun z198 =>
      if (!z198) then
       some false
      else
       bnd (eqq (Template.mk x1.size x1.rels) (Template.mk x1.size x1.rels)) fun z212 =>
       if (!z212) then
        some false
       else
        bnd (eqq (Gadgets.mk x2.formulas) (Gadgets.mk x2.formulas)) fun z226 =>
        if (!z226) then
         some false
        else
         bnd (eqq (Instance.mk x3.vars x3.cons) (Instance.mk x3.vars x3.cons)) fun z240 =>
         if (!z240) then
          some false
         else
          bnd (mkq 1 ((Template.mk x0.size x0.rels).cnt)) fun z252 =>
          bnd (mkq z252 ((Template.mk x1.size x1.rels).cnt)) fun z254 =>
          bnd (mkq z254 ((Gadgets.mk x2.formulas).cnt)) fun z256 =>
          bnd (mkq z256 ((Instance.mk x3.vars x3.cons).cnt)) fun z258 =>
          thn (σ := Bool) (
           if (decide (z258 < 0)) then  some (.nx true) else  bnd (eqq (Instance.mk z169.1.vars z169.1.cons) (Instance.mk z54.1.vars z54.1.cons)) fun z272 =>
            if (!z272) then  some (.nx true) else  bnd (eqq z169.2.1 z54.2.1) fun z275 =>
             if (!z275) then  some (.nx true) else  some (.nx (z169.2.2 != z54.2.2))) fun s270 =>
          if s270 then
           some false
          else
           bnd (mkq 1 ((Instance.mk z169.1.vars z169.1.cons).cnt)) fun z280 =>
           bnd (mkq z280 (cntS cI z169.2.1)) fun z282 =>
           if (decide (z280 < 0)) then
            some false
           else
            if (decide (z282 < 0)) then
             some false
            else
             if (z282 != z282) then
              some false
             else
              thn (σ := Bool) (
               bnd (eqq (Instance.mk z169.1.vars z169.1.cons) (Instance.mk z54.1.vars z54.1.cons)) fun z390 =>
               if (!z390) then  some (.nx true) else  bnd (eqq z169.2.1 z54.2.1) fun z393 =>
                if (!z393) then  some (.nx true) else  some (.nx (z169.2.2 != z54.2.2))) fun s389 =>
              if s389 then
               some false
              else
               if (decide (z280 < 0)) then
                some false
               else
                if (decide (z282 < 0)) then
                 some false
                else
                 if (z282 != z282) then
                  some false
                 else
                  some true
set_option maxHeartbeats 1000000 in
theorem laws_FnExactApplyGadgets_c {B : Nat → Prop} {N : Nat} {x0 : Template} {x1 : Template} {x2 : Gadgets} {x3 : Instance} (r : Bool) (hR : laws_FnExactApplyGadgets N x0 x1 x2 x3 = some r) {v0 : Value} {v1 : Value} {v2 : Value} {v3 : Value} (w0 : World) (hN : ∀ c, B c → c < w0.heap.size) (A0 : Bo B w0 (Agg 2 RTemplate) v0 x0) (A1 : Bo B w0 (Agg 2 RTemplate) v1 x1) (A2 : Bo B w0 (Agg 1 RGadgets) v2 x2) (A3 : Bo B w0 (Agg 2 RInstance) v3 x3) : Calls Tryz.prog 6 #[v0, v1, v2, v3] w0 (Says (.bool r) w0) := by
 unfold laws_FnExactApplyGadgets at hR
 refine x_enter (L := [(0, v0), (1, v1), (2, v2), (3, v3)]) Tryz.func6 rfl rfl rfl (sc rfl (sc rfl (sc rfl (sc rfl sn)))) (fun a F => ?_)
 have H := Sep.start hN
 refine x_seq (x_reg ?_)
 obtain ⟨v12, rfl, i11, h13⟩ := RTemplate.o A0
 refine oX F rfl rfl rfl H (fun a w b14 H F => ?_)
 obtain ⟨v16, rfl, i15, h17⟩ := RTemplate.o A1
 refine oX F rfl rfl rfl H (fun a w b18 H F => ?_)
 obtain ⟨v19, rfl, h20⟩ := RGadgets.o A2
 refine oX F rfl rfl rfl H (fun a w b21 H F => ?_)
 obtain ⟨v23, rfl, i22, h24⟩ := RInstance.o A3
 refine oX F rfl rfl rfl H fun a w b25 H F => o_assign F rfl rfl fun a F => x_end (x_tn (x_seq (x_reg (o_assign F rfl rfl fun a F => x_end (x_tn (x_seq (x_reg ?_)))))))
 refine oBA Tryz.isAgg24 Tryz.sizeOf24 F rfl rfl (H.b 3 rfl) rfl rfl fun a F => o_move F rfl rfl (fun a F => ?_)
 obtain ⟨z26, c27, hR⟩ := bnd_some hR
 refine nSz (V := Agg 2 RTemplate) F rfl Tryz.call10 rfl H (RTemplate.m i11 (H.a h13)) c27 (fun h h0 h1 => szTemplate_any _ _ _ _ _ h.r h.m h0 h1) fun a w H iz26 F => o_assign F rfl rfl fun a F => x_end (x_tn (x_seq (x_seq (x_reg (o_move F rfl rfl fun a F => o_lss F rfl rfl rfl fun a F => x_end (x_tn ?_))))))
 refine x_if F rfl (fun hb28 => ?_) (fun hb28 => ?_)
 ·
  replace hR := ifT hb28 hR
  refine x_seq (x_reg (o_assign F rfl rfl fun a F => x_end (x_tn (x_ret (x_tr (x_res1 F rfl (rv_t F rfl) ?_))))))
  obtain rfl := Option.some.inj hR
  exact ⟨rfl, H.bl⟩
 replace hR := ifF hb28 hR
 refine x_skip (x_tn (x_seq (x_reg (oBA Tryz.isAgg24 Tryz.sizeOf24 F rfl rfl (H.b 2 rfl) rfl rfl fun a F => o_move F rfl rfl (fun a F => ?_)))))
 obtain ⟨z29, c30, hR⟩ := bnd_some hR
 refine nSz (V := Agg 2 RTemplate) F rfl Tryz.call10 rfl H (RTemplate.m i15 (H.a h17)) c30 (fun h h0 h1 => szTemplate_any _ _ _ _ _ h.r h.m h0 h1) fun a w H iz29 F => o_assign F rfl rfl fun a F => x_end (x_tn (x_seq (x_seq (x_reg (o_move F rfl rfl fun a F => o_lss F rfl rfl rfl fun a F => x_end (x_tn ?_))))))
 refine x_if F rfl (fun hb31 => ?_) (fun hb31 => ?_)
 ·
  replace hR := ifT hb31 hR
  refine x_seq (x_reg (o_assign F rfl rfl fun a F => x_end (x_tn (x_ret (x_tr (x_res1 F rfl (rv_t F rfl) ?_))))))
  obtain rfl := Option.some.inj hR
  exact ⟨rfl, H.bl⟩
 replace hR := ifF hb31 hR
 refine x_skip (x_tn (x_seq (x_reg (oBA Tryz.isAgg27 Tryz.sizeOf27 F rfl rfl (H.b 1 rfl) rfl rfl fun a F => o_move F rfl rfl (fun a F => ?_)))))
 obtain ⟨z32, c33, hR⟩ := bnd_some hR
 refine nSz (V := Agg 1 RGadgets) F rfl Tryz.call11 rfl H (RGadgets.m (H.a h20)) c33 (fun h h0 h1 => szGadgets_any _ _ _ _ _ h.r h.m h0 h1) fun a w H iz32 F => o_assign F rfl rfl fun a F => x_end (x_tn (x_seq (x_seq (x_reg (o_move F rfl rfl fun a F => o_lss F rfl rfl rfl fun a F => x_end (x_tn ?_))))))
 refine x_if F rfl (fun hb34 => ?_) (fun hb34 => ?_)
 ·
  replace hR := ifT hb34 hR
  refine x_seq (x_reg (o_assign F rfl rfl fun a F => x_end (x_tn (x_ret (x_tr (x_res1 F rfl (rv_t F rfl) ?_))))))
  obtain rfl := Option.some.inj hR
  exact ⟨rfl, H.bl⟩
 replace hR := ifF hb34 hR
 refine x_skip (x_tn (x_seq (x_reg (oBA Tryz.isAgg54 Tryz.sizeOf54 F rfl rfl (H.b 0 rfl) rfl rfl fun a F => o_move F rfl rfl (fun a F => ?_)))))
 obtain ⟨z35, c36, hR⟩ := bnd_some hR
 refine nSz (V := Agg 2 RInstance) F rfl Tryz.call28 rfl H (RInstance.m i22 (H.a h24)) c36 (fun h h0 h1 => szInstance_any _ _ _ _ _ h.r h.m h0 h1) fun a w H iz35 F => o_assign F rfl rfl fun a F => x_end (x_tn (x_seq (x_seq (x_reg (o_move F rfl rfl fun a F => o_lss F rfl rfl rfl fun a F => x_end (x_tn ?_))))))
 refine x_if F rfl (fun hb37 => ?_) (fun hb37 => ?_)
 ·
  replace hR := ifT hb37 hR
  refine x_seq (x_reg (o_assign F rfl rfl fun a F => x_end (x_tn (x_ret (x_tr (x_res1 F rfl (rv_t F rfl) ?_))))))
  obtain rfl := Option.some.inj hR
  exact ⟨rfl, H.bl⟩
 replace hR := ifF hb37 hR
 refine x_skip (x_tn (x_seq ?_))
 obtain ⟨z38, c39, hR⟩ := bnd_some hR
 obtain ⟨z42, c43, hR⟩ := bnd_some hR
 obtain ⟨z46, c47, hR⟩ := bnd_some hR
 obtain ⟨z50, c51, hR⟩ := bnd_some hR
 obtain ⟨z54, c55, hR⟩ := bnd_some hR
 obtain ⟨w69, rfl⟩ : ∃ x, x = w := ⟨_, rfl⟩
 obtain ⟨X64, N65, g66, e67, H, th68⟩ := H.mg.mg.mg.fz
 have K70 := g66.l.l.l.bk
 have K71 := g66.l.l.r.bk
 have K72 := g66.l.r.bk
 have K73 := g66.r.bk
 refine xD H (by kernel_rfl) fun w H => dp (fun G => ∀ (b138 : Nat) (v141 : Value) (v143 : Value) (a : Act) (w : World), Sk a 202 [(4, .pointer (some ⟨b14, 0, none⟩)), (5, .pointer (some ⟨b18, 0, none⟩)), (6, .pointer (some ⟨b21, 0, none⟩)), (7, .pointer (some ⟨b25, 0, none⟩)), (10, .pointer (some ⟨b138, 0, none⟩)), (56, (.agg #[.int .i64 z54.1.vars, v141])), (57, v143), (58, .int .i64 z54.2.2)] → Sep X64 N65 w69 w [bx b138 [.int .i64 0, (.slice none 0 0)] 58, rl 2 RCon 165 v141 z54.1.cons, rl 1 RInt 2 v143 z54.2.1] → I64 z54.1.vars → I64 z54.2.2 → ∀ ls, ls = #[true, true, true, true, true, true, true, true, true, true, true, true, true, true, false, false, false] → G 3 ls a w) ?_ (fun H145 => ?_)
 ·
  intro b138 v141 v143 a w F H i139 i144 ls hls
  subst hls
  refine xE H 14 rfl (by kernel_rfl) (oWA (vs := [.int .i64 z54.1.vars, v141]) Tryz.sizeOf58 F rfl rfl rfl H (oc rfl (oc (H.l 1 rfl).one on)) rfl rfl fun w H => x_end (x_tn (⟨⟨_, H⟩, ?_⟩)))
  refine b_q0 15 rfl (by kernel_rfl) (by kernel_rfl) (by kernel_rfl) (v_val F rfl (fun w l => r_assign F rfl) fun a F => b_q0 16 rfl (by kernel_rfl) (by kernel_rfl) (by kernel_rfl) (v_val F rfl (fun w l => r_assign F rfl) fun a F => b_end (by kernel_rfl) (x_tn (x_seq (x_reg (oBA Tryz.isAgg24 Tryz.sizeOf24 F rfl rfl (K73.o H.sm) rfl rfl fun a F => nTo (V := Agg 2 RTemplate) F rfl Tryz.call13 rfl H (RTemplate.m i11 (H.a (e67 h13))) (fun h => toTemplate_any _ _ _ _ h.r h.m (toq_some c39)) fun a w v146 H F => oA Tryz.zeroValue33 F rfl rfl H (fun a w b148 H F => ?_)))))))
  obtain ⟨v150, rfl, i149, h151⟩ := RTemplate.o (H.o 1 rfl)
  refine oWA (vs := [.int .i64 ((Template.mk x0.size x0.rels).size), v150]) Tryz.sizeOf33 F rfl rfl rfl H (oc rfl (oc h151.one on)) rfl rfl fun w H => x_end (x_tn (x_seq (x_reg (oBA Tryz.isAgg24 Tryz.sizeOf24 F rfl rfl (K72.o H.sm) rfl rfl fun a F => nTo (V := Agg 2 RTemplate) F rfl Tryz.call13 rfl H (RTemplate.m i15 (H.a (e67 h17))) (fun h => toTemplate_any _ _ _ _ h.r h.m (toq_some c43)) fun a w v152 H F => oA Tryz.zeroValue33 F rfl rfl H (fun a w b154 H F => ?_)))))
  obtain ⟨v156, rfl, i155, h157⟩ := RTemplate.o (H.o 1 rfl)
  refine oWA (vs := [.int .i64 ((Template.mk x1.size x1.rels).size), v156]) Tryz.sizeOf33 F rfl rfl rfl H (oc rfl (oc h157.one on)) rfl rfl fun w H => x_end (x_tn (x_seq (x_reg (oBA Tryz.isAgg27 Tryz.sizeOf27 F rfl rfl (K71.o H.sm) rfl rfl fun a F => nTo (V := Agg 1 RGadgets) F rfl Tryz.call14 rfl H (RGadgets.m (H.a (e67 h20))) (fun h => toGadgets_any _ _ _ _ h.r h.m (toq_some c47)) fun a w v158 H F => oA Tryz.zeroValue37 F rfl rfl H (fun a w b160 H F => ?_)))))
  obtain ⟨v161, rfl, h162⟩ := RGadgets.o (H.o 1 rfl)
  refine oWA (vs := [v161]) Tryz.sizeOf37 F rfl rfl rfl H (oc h162.one on) rfl rfl fun w H => x_end (x_tn (x_seq (x_reg (oBA Tryz.isAgg54 Tryz.sizeOf54 F rfl rfl (K70.o H.sm) rfl rfl fun a F => nTo (V := Agg 2 RInstance) F rfl Tryz.call30 rfl H (RInstance.m i22 (H.a (e67 h24))) (fun h => toInstance_any _ _ _ _ h.r h.m (toq_some c51)) fun a w v163 H F => oA Tryz.zeroValue58 F rfl rfl H (fun a w b165 H F => ?_)))))
  obtain ⟨v167, rfl, i166, h168⟩ := RInstance.o (H.o 1 rfl)
  refine oWA (vs := [.int .i64 ((Instance.mk x3.vars x3.cons).vars), v167]) Tryz.sizeOf58 F rfl rfl rfl H (oc rfl (oc h168.one on)) rfl rfl fun w H => x_end (x_tn (x_seq (x_reg (oBA Tryz.isAgg33 Tryz.sizeOf33 F rfl rfl (H.b 6 rfl) rfl rfl fun a F => oBA Tryz.isAgg33 Tryz.sizeOf33 F rfl rfl (H.b 4 rfl) rfl rfl fun a F => oBA Tryz.isAgg37 Tryz.sizeOf37 F rfl rfl (H.b 2 rfl) rfl rfl fun a F => oBA Tryz.isAgg58 Tryz.sizeOf58 F rfl rfl (H.b 0 rfl) rfl rfl (fun a F => ?_)))))
  obtain ⟨z169, c170, hR⟩ := bnd_some hR
  refine oG F rfl Tryz.call31 rfl (impl_ApplyGadgets_c z169 c170 _ aA (H.o 7 rfl) (H.o 5 rfl) (H.o 3 rfl) (H.o 1 rfl)) (fun a vv w ⟨v172, v174, hv177, S, i171, i176⟩ F => ?_)
  subst vv
  have H := H.rk S ⟨n0, ⟨n0, trivial⟩⟩ rfl
  refine o_move F rfl rfl fun a F => o_extract F rfl rfl rfl fun a F => o_extract F rfl rfl rfl fun a F => o_extract F rfl rfl rfl fun a F => oA Tryz.zeroValue58 F rfl rfl H fun a w b178 H F => oWA (vs := [.int .i64 z169.1.vars, v172]) Tryz.sizeOf58 F rfl rfl rfl H (oc rfl (oc (H.l 1 rfl).one on)) rfl rfl fun w H => o_assign F rfl rfl fun a F => o_assign F rfl rfl fun a F => x_end (x_tn (x_seq ?_))
  refine x_seq ?_
  obtain ⟨o185, hR, hk186⟩ := thn_some hR
  refine x_cutQ (fun a w => ∃ (s188 : Bool), o185 = .nx s188 ∧ Sk a 202 [(4, .pointer (some ⟨b14, 0, none⟩)), (5, .pointer (some ⟨b18, 0, none⟩)), (6, .pointer (some ⟨b21, 0, none⟩)), (7, .pointer (some ⟨b25, 0, none⟩)), (10, .pointer (some ⟨b138, 0, none⟩)), (11, v143), (12, .int .i64 z54.2.2), (13, .pointer (some ⟨b148, 0, none⟩)), (14, .pointer (some ⟨b154, 0, none⟩)), (15, .pointer (some ⟨b160, 0, none⟩)), (16, .pointer (some ⟨b165, 0, none⟩)), (17, .pointer (some ⟨b178, 0, none⟩)), (18, v174), (19, .int .i64 z169.2.2), (90, .bool s188)] ∧ Sep X64 N65 w69 w [bx b178 [.int .i64 z169.1.vars, v172] 58, rl 2 RCon 165 v172 z169.1.cons, rl 1 RInt 2 v174 z169.2.1, bx b165 [.int .i64 ((Instance.mk x3.vars x3.cons).vars), v167] 58, ow (V := (Agg 2 RInstance)) (.agg #[.int .i64 ((Instance.mk x3.vars x3.cons).vars), v167]) (Instance.mk x3.vars x3.cons), bx b160 [v161] 37, ow (V := (Agg 1 RGadgets)) (.agg #[v161]) (Gadgets.mk x2.formulas), bx b154 [.int .i64 ((Template.mk x1.size x1.rels).size), v156] 33, ow (V := (Agg 2 RTemplate)) (.agg #[.int .i64 ((Template.mk x1.size x1.rels).size), v156]) (Template.mk x1.size x1.rels), bx b148 [.int .i64 ((Template.mk x0.size x0.rels).size), v150] 33, ow (V := (Agg 2 RTemplate)) (.agg #[.int .i64 ((Template.mk x0.size x0.rels).size), v150]) (Template.mk x0.size x0.rels), bx b138 [.int .i64 z54.1.vars, v141] 58, rl 2 RCon 165 v141 z54.1.cons, rl 1 RInt 2 v143 z54.2.1]) ?_ ?_
  ·
   refine x_reg (oBA Tryz.isAgg58 Tryz.sizeOf58 F rfl rfl (H.b 0 rfl) rfl rfl fun a F => oBA Tryz.isAgg58 Tryz.sizeOf58 F rfl rfl (H.b 11 rfl) rfl rfl (fun a F => ?_))
   obtain ⟨z189, c190, hR⟩ := bnd_some hR
   refine nEq (V := Agg 2 RInstance) F rfl Tryz.call32 rfl H (RInstance.m i171 (H.l 1 rfl)) (RInstance.m i139 (H.l 12 rfl)) c190 (fun h g => eqInstance_any _ _ _ _ _ _ h.r g.r h.m g.m) fun a w H F => o_not F rfl rfl fun a F => o_move F rfl rfl (fun a F => ?_)
   rcases bcases (!z189) with hb191 | hb191
   ·
    replace hR := ifT hb191 hR
    have F := F.eq (t := 80) rfl (congrArg Value.bool hb191)
    refine o_no F rfl rfl fun a F => o_no F rfl rfl fun a F => o_no F rfl rfl fun a F => o_no F rfl rfl fun a F => o_pickt F rfl rfl rfl fun a F => o_move F rfl rfl fun a F => o_no F rfl rfl fun a F => o_no F rfl rfl fun a F => o_no F rfl rfl fun a F => o_pickt F rfl rfl rfl fun a F => x_end ?_
    refine x_tn ?_
    exact ⟨true, (Option.some.inj hR).symm, F.sub (sc rfl (sc rfl (sc rfl (sc rfl (sc rfl (sc rfl (sc rfl (sc rfl (sc rfl (sc rfl (sc rfl (sc rfl (sc rfl (sc rfl (sc rfl sn))))))))))))))), H⟩
   replace hR := ifF hb191 hR
   have F := F.eq (t := 80) rfl (congrArg Value.bool hb191)
   refine o_move F rfl rfl fun a F => o_move F rfl rfl (fun a F => ?_)
   obtain ⟨z192, c193, hR⟩ := bnd_some hR
   refine nEq (V := Sl 1 RInt) F rfl Tryz.call20 rfl H (H.l 2 rfl) (H.l 13 rfl) c193 (fun h g => eqInt64S_any _ _ _ _ _ _ h.r g.r h.m g.m) fun a w H F => o_not F rfl rfl fun a F => o_pickf F rfl rfl rfl fun a F => o_move F rfl rfl (fun a F => ?_)
   rcases bcases (!z192) with hb194 | hb194
   ·
    replace hR := ifT hb194 hR
    have F := F.eq (t := 86) rfl (congrArg Value.bool hb194)
    refine o_no F rfl rfl fun a F => o_no F rfl rfl fun a F => o_no F rfl rfl fun a F => o_pickt F rfl rfl rfl fun a F => x_end (x_tn ?_)
    exact ⟨true, (Option.some.inj hR).symm, F.sub (sc rfl (sc rfl (sc rfl (sc rfl (sc rfl (sc rfl (sc rfl (sc rfl (sc rfl (sc rfl (sc rfl (sc rfl (sc rfl (sc rfl (sc rfl sn))))))))))))))), H⟩
   replace hR := ifF hb194 hR
   have F := F.eq (t := 86) rfl (congrArg Value.bool hb194)
   refine o_move F rfl rfl fun a F => o_move F rfl rfl fun a F => o_neq F rfl rfl rfl fun a F => o_pickf F rfl rfl rfl fun a F => x_end (x_tn ?_)
   exact ⟨(z169.2.2 != z54.2.2), (Option.some.inj hR).symm, F.sub (sc rfl (sc rfl (sc rfl (sc rfl (sc rfl (sc rfl (sc rfl (sc rfl (sc rfl (sc rfl (sc rfl (sc rfl (sc rfl (sc rfl (sc rfl sn))))))))))))))), H⟩
  intro a w ⟨s188, ho187, F, H⟩
  subst ho187
  have hR := then_nx hk186
  refine x_tn (x_if F rfl (fun hb195 => ?_) (fun hb195 => ?_))
  ·
   replace hR := ifT hb195 hR
   refine x_seq (x_reg (o_assign F rfl rfl fun a F => x_end (x_tn (x_ret (x_tr ?_)))))
   have H := (th68.1 H (Ns.all ⟨n0, ⟨n0, ⟨n0, ⟨n0, ⟨n0, ⟨n0, ⟨n0, ⟨n0, ⟨n0, ⟨n0, ⟨n0, ⟨n0, ⟨n0, ⟨n0, trivial⟩⟩⟩⟩⟩⟩⟩⟩⟩⟩⟩⟩⟩⟩)).um.um.um
   refine x_res1 F rfl (rv_t F rfl) ?_
   obtain rfl := Option.some.inj hR
   exact ⟨rfl, H.bl⟩
  replace hR := ifF hb195 hR
  refine x_skip (x_tn (x_seq (x_seq ?_)))
  obtain ⟨z198, c199, hR⟩ := bnd_some hR
  obtain ⟨w205, rfl⟩ : ∃ x, x = w := ⟨_, rfl⟩
  obtain ⟨X200, N201, g202, e203, H, th204⟩ := (H.s [9, 0, 1, 2, 3, 4, 5, 6, 7, 8, 10, 11, 12, 13] rfl rfl).fz
  have K206 := g202.bk
  refine xD H (by kernel_rfl) fun w H => b_q 0 (by kernel_rfl) rfl (by kernel_rfl) (by kernel_rfl) (by kernel_rfl) (by kernel_rfl) (vBA Tryz.isAgg33 Tryz.sizeOf33 F rfl rfl (K206.v H.sm) rfl rfl fun a F => b_q 1 (by kernel_rfl) rfl (by kernel_rfl) (by kernel_rfl) (by kernel_rfl) (by kernel_rfl) (vBA Tryz.isAgg24 Tryz.sizeOf24 F rfl rfl ((K73.lf e203).v H.sm) rfl rfl fun a F => xE H 2 rfl (by kernel_rfl) (nTo (V := Agg 2 RTemplate) F rfl Tryz.call13 rfl H (RTemplate.m i11 (H.a (e203 (e67 h13)))) (fun h => toTemplate_any _ _ _ _ h.r h.m (toq_some c39)) fun a w v207 H F => x_end (x_tn (⟨⟨_, H⟩, ?_⟩)))))
  refine xE H 3 rfl (by kernel_rfl) (nEq (V := Agg 2 RTemplate) F rfl Tryz.call16 rfl H (H.o 10 rfl) (H.o 0 rfl) c199 (fun h g => eqTemplate_any _ _ _ _ _ _ h.r g.r h.m g.m) fun a w H F => x_end (x_tn (⟨⟨_, H⟩, ?_⟩)))
  refine b_q0 4 rfl (by kernel_rfl) (by kernel_rfl) (by kernel_rfl) (v_val F rfl (fun w l => r_not F rfl) fun a F => b_end (by kernel_rfl) (x_tn (x_if F rfl (fun hb209 => ?_) (fun hb209 => ?_))))
  ·
   replace hR := ifT hb209 hR
   refine x_seq (x_reg (o_assign F rfl rfl fun a F => x_end (x_tn (x_ret (x_tr ?_)))))
   have H := (th68.1 (th204.1 H (Ns.all ⟨n0, ⟨n0, ⟨n0, ⟨n0, ⟨n0, ⟨n0, ⟨n0, ⟨n0, ⟨n0, ⟨n0, ⟨n0, ⟨n0, ⟨n0, ⟨n0, trivial⟩⟩⟩⟩⟩⟩⟩⟩⟩⟩⟩⟩⟩⟩)) (Ns.all ⟨n0, ⟨n0, ⟨n0, ⟨n0, ⟨n0, ⟨n0, ⟨n0, ⟨n0, ⟨n0, ⟨n0, ⟨n0, ⟨n0, ⟨n0, ⟨n0, ⟨n0, trivial⟩⟩⟩⟩⟩⟩⟩⟩⟩⟩⟩⟩⟩⟩⟩)).um.um.um
   refine x_res1 F rfl (rv_t F rfl) ?_
   obtain rfl := Option.some.inj hR
   exact ⟨rfl, H.bl⟩
  replace hR := ifF hb209 hR
  refine x_skip (x_tn (x_seq (x_seq ?_)))
  obtain ⟨z212, c213, hR⟩ := bnd_some hR
  obtain ⟨w219, rfl⟩ : ∃ x, x = w := ⟨_, rfl⟩
  obtain ⟨X214, N215, g216, e217, H, th218⟩ := (H.s [8, 0, 1, 2, 3, 4, 5, 6, 7, 9, 10, 11, 12, 13] rfl rfl).fz
  have K220 := g216.bk
  refine xD H (by kernel_rfl) fun w H => b_q 0 (by kernel_rfl) rfl (by kernel_rfl) (by kernel_rfl) (by kernel_rfl) (by kernel_rfl) (vBA Tryz.isAgg33 Tryz.sizeOf33 F rfl rfl (K220.v H.sm) rfl rfl fun a F => b_q 1 (by kernel_rfl) rfl (by kernel_rfl) (by kernel_rfl) (by kernel_rfl) (by kernel_rfl) (vBA Tryz.isAgg24 Tryz.sizeOf24 F rfl rfl (((K72.lf e203).lf e217).v H.sm) rfl rfl fun a F => xE H 2 rfl (by kernel_rfl) (nTo (V := Agg 2 RTemplate) F rfl Tryz.call13 rfl H (RTemplate.m i15 (H.a (e217 (e203 (e67 h17))))) (fun h => toTemplate_any _ _ _ _ h.r h.m (toq_some c43)) fun a w v221 H F => x_end (x_tn (⟨⟨_, H⟩, ?_⟩)))))
  refine xE H 3 rfl (by kernel_rfl) (nEq (V := Agg 2 RTemplate) F rfl Tryz.call16 rfl H (H.o 9 rfl) (H.o 0 rfl) c213 (fun h g => eqTemplate_any _ _ _ _ _ _ h.r g.r h.m g.m) fun a w H F => x_end (x_tn (⟨⟨_, H⟩, ?_⟩)))
  refine b_q0 4 rfl (by kernel_rfl) (by kernel_rfl) (by kernel_rfl) (v_val F rfl (fun w l => r_not F rfl) fun a F => b_end (by kernel_rfl) (x_tn (x_if F rfl (fun hb223 => ?_) (fun hb223 => ?_))))
  ·
   replace hR := ifT hb223 hR
   refine x_seq (x_reg (o_assign F rfl rfl fun a F => x_end (x_tn (x_ret (x_tr ?_)))))
   have H := (th68.1 (th204.1 (th218.1 H (Ns.all ⟨n0, ⟨n0, ⟨n0, ⟨n0, ⟨n0, ⟨n0, ⟨n0, ⟨n0, ⟨n0, ⟨n0, ⟨n0, ⟨n0, ⟨n0, ⟨n0, trivial⟩⟩⟩⟩⟩⟩⟩⟩⟩⟩⟩⟩⟩⟩)) (Ns.all ⟨n0, ⟨n0, ⟨n0, ⟨n0, ⟨n0, ⟨n0, ⟨n0, ⟨n0, ⟨n0, ⟨n0, ⟨n0, ⟨n0, ⟨n0, ⟨n0, ⟨n0, trivial⟩⟩⟩⟩⟩⟩⟩⟩⟩⟩⟩⟩⟩⟩⟩)) (Ns.all ⟨n0, ⟨n0, ⟨n0, ⟨n0, ⟨n0, ⟨n0, ⟨n0, ⟨n0, ⟨n0, ⟨n0, ⟨n0, ⟨n0, ⟨n0, ⟨n0, ⟨n0, ⟨n0, trivial⟩⟩⟩⟩⟩⟩⟩⟩⟩⟩⟩⟩⟩⟩⟩⟩)).um.um.um
   refine x_res1 F rfl (rv_t F rfl) ?_
   obtain rfl := Option.some.inj hR
   exact ⟨rfl, H.bl⟩
  replace hR := ifF hb223 hR
  refine x_skip (x_tn (x_seq (x_seq ?_)))
  obtain ⟨z226, c227, hR⟩ := bnd_some hR
  obtain ⟨w233, rfl⟩ : ∃ x, x = w := ⟨_, rfl⟩
  obtain ⟨X228, N229, g230, e231, H, th232⟩ := (H.s [7, 0, 1, 2, 3, 4, 5, 6, 8, 9, 10, 11, 12, 13] rfl rfl).fz
  have K234 := g230.bk
  refine xD H (by kernel_rfl) fun w H => b_q 0 (by kernel_rfl) rfl (by kernel_rfl) (by kernel_rfl) (by kernel_rfl) (by kernel_rfl) (vBA Tryz.isAgg37 Tryz.sizeOf37 F rfl rfl (K234.v H.sm) rfl rfl fun a F => b_q 1 (by kernel_rfl) rfl (by kernel_rfl) (by kernel_rfl) (by kernel_rfl) (by kernel_rfl) (vBA Tryz.isAgg27 Tryz.sizeOf27 F rfl rfl ((((K71.lf e203).lf e217).lf e231).v H.sm) rfl rfl fun a F => xE H 2 rfl (by kernel_rfl) (nTo (V := Agg 1 RGadgets) F rfl Tryz.call14 rfl H (RGadgets.m (H.a (e231 (e217 (e203 (e67 h20)))))) (fun h => toGadgets_any _ _ _ _ h.r h.m (toq_some c47)) fun a w v235 H F => x_end (x_tn (⟨⟨_, H⟩, ?_⟩)))))
  refine xE H 3 rfl (by kernel_rfl) (nEq (V := Agg 1 RGadgets) F rfl Tryz.call17 rfl H (H.o 8 rfl) (H.o 0 rfl) c227 (fun h g => eqGadgets_any _ _ _ _ _ _ h.r g.r h.m g.m) fun a w H F => x_end (x_tn (⟨⟨_, H⟩, ?_⟩)))
  refine b_q0 4 rfl (by kernel_rfl) (by kernel_rfl) (by kernel_rfl) (v_val F rfl (fun w l => r_not F rfl) fun a F => b_end (by kernel_rfl) (x_tn (x_if F rfl (fun hb237 => ?_) (fun hb237 => ?_))))
  ·
   replace hR := ifT hb237 hR
   refine x_seq (x_reg (o_assign F rfl rfl fun a F => x_end (x_tn (x_ret (x_tr ?_)))))
   have H := (th68.1 (th204.1 (th218.1 (th232.1 H (Ns.all ⟨n0, ⟨n0, ⟨n0, ⟨n0, ⟨n0, ⟨n0, ⟨n0, ⟨n0, ⟨n0, ⟨n0, ⟨n0, ⟨n0, ⟨n0, ⟨n0, trivial⟩⟩⟩⟩⟩⟩⟩⟩⟩⟩⟩⟩⟩⟩)) (Ns.all ⟨n0, ⟨n0, ⟨n0, ⟨n0, ⟨n0, ⟨n0, ⟨n0, ⟨n0, ⟨n0, ⟨n0, ⟨n0, ⟨n0, ⟨n0, ⟨n0, ⟨n0, trivial⟩⟩⟩⟩⟩⟩⟩⟩⟩⟩⟩⟩⟩⟩⟩)) (Ns.all ⟨n0, ⟨n0, ⟨n0, ⟨n0, ⟨n0, ⟨n0, ⟨n0, ⟨n0, ⟨n0, ⟨n0, ⟨n0, ⟨n0, ⟨n0, ⟨n0, ⟨n0, ⟨n0, trivial⟩⟩⟩⟩⟩⟩⟩⟩⟩⟩⟩⟩⟩⟩⟩⟩)) (Ns.all ⟨n0, ⟨n0, ⟨n0, ⟨n0, ⟨n0, ⟨n0, ⟨n0, ⟨n0, ⟨n0, ⟨n0, ⟨n0, ⟨n0, ⟨n0, ⟨n0, ⟨n0, ⟨n0, ⟨n0, trivial⟩⟩⟩⟩⟩⟩⟩⟩⟩⟩⟩⟩⟩⟩⟩⟩⟩)).um.um.um
   refine x_res1 F rfl (rv_t F rfl) ?_
   obtain rfl := Option.some.inj hR
   exact ⟨rfl, H.bl⟩
  replace hR := ifF hb237 hR
  refine x_skip (x_tn (x_seq (x_seq ?_)))
  obtain ⟨z240, c241, hR⟩ := bnd_some hR
  obtain ⟨w247, rfl⟩ : ∃ x, x = w := ⟨_, rfl⟩
  obtain ⟨X242, N243, g244, e245, H, th246⟩ := (H.s [6, 0, 1, 2, 3, 4, 5, 7, 8, 9, 10, 11, 12, 13] rfl rfl).fz
  have K248 := g244.bk
  refine xD H (by kernel_rfl) fun w H => b_q 0 (by kernel_rfl) rfl (by kernel_rfl) (by kernel_rfl) (by kernel_rfl) (by kernel_rfl) (vBA Tryz.isAgg58 Tryz.sizeOf58 F rfl rfl (K248.v H.sm) rfl rfl fun a F => b_q 1 (by kernel_rfl) rfl (by kernel_rfl) (by kernel_rfl) (by kernel_rfl) (by kernel_rfl) (vBA Tryz.isAgg54 Tryz.sizeOf54 F rfl rfl (((((K70.lf e203).lf e217).lf e231).lf e245).v H.sm) rfl rfl fun a F => xE H 2 rfl (by kernel_rfl) (nTo (V := Agg 2 RInstance) F rfl Tryz.call30 rfl H (RInstance.m i22 (H.a (e245 (e231 (e217 (e203 (e67 h24))))))) (fun h => toInstance_any _ _ _ _ h.r h.m (toq_some c51)) fun a w v249 H F => x_end (x_tn (⟨⟨_, H⟩, ?_⟩)))))
  refine xE H 3 rfl (by kernel_rfl) (nEq (V := Agg 2 RInstance) F rfl Tryz.call32 rfl H (H.o 7 rfl) (H.o 0 rfl) c241 (fun h g => eqInstance_any _ _ _ _ _ _ h.r g.r h.m g.m) fun a w H F => x_end (x_tn (⟨⟨_, H⟩, ?_⟩)))
  refine b_q0 4 rfl (by kernel_rfl) (by kernel_rfl) (by kernel_rfl) (v_val F rfl (fun w l => r_not F rfl) fun a F => b_end (by kernel_rfl) (x_tn (x_if F rfl (fun hb251 => ?_) (fun hb251 => ?_))))
  ·
   replace hR := ifT hb251 hR
   refine x_seq (x_reg (o_assign F rfl rfl fun a F => x_end (x_tn (x_ret (x_tr ?_)))))
   have H := (th68.1 (th204.1 (th218.1 (th232.1 (th246.1 H (Ns.all ⟨n0, ⟨n0, ⟨n0, ⟨n0, ⟨n0, ⟨n0, ⟨n0, ⟨n0, ⟨n0, ⟨n0, ⟨n0, ⟨n0, ⟨n0, ⟨n0, trivial⟩⟩⟩⟩⟩⟩⟩⟩⟩⟩⟩⟩⟩⟩)) (Ns.all ⟨n0, ⟨n0, ⟨n0, ⟨n0, ⟨n0, ⟨n0, ⟨n0, ⟨n0, ⟨n0, ⟨n0, ⟨n0, ⟨n0, ⟨n0, ⟨n0, ⟨n0, trivial⟩⟩⟩⟩⟩⟩⟩⟩⟩⟩⟩⟩⟩⟩⟩)) (Ns.all ⟨n0, ⟨n0, ⟨n0, ⟨n0, ⟨n0, ⟨n0, ⟨n0, ⟨n0, ⟨n0, ⟨n0, ⟨n0, ⟨n0, ⟨n0, ⟨n0, ⟨n0, ⟨n0, trivial⟩⟩⟩⟩⟩⟩⟩⟩⟩⟩⟩⟩⟩⟩⟩⟩)) (Ns.all ⟨n0, ⟨n0, ⟨n0, ⟨n0, ⟨n0, ⟨n0, ⟨n0, ⟨n0, ⟨n0, ⟨n0, ⟨n0, ⟨n0, ⟨n0, ⟨n0, ⟨n0, ⟨n0, ⟨n0, trivial⟩⟩⟩⟩⟩⟩⟩⟩⟩⟩⟩⟩⟩⟩⟩⟩⟩)) (Ns.all ⟨n0, ⟨n0, ⟨n0, ⟨n0, ⟨n0, ⟨n0, ⟨n0, ⟨n0, ⟨n0, ⟨n0, ⟨n0, ⟨n0, ⟨n0, ⟨n0, ⟨n0, ⟨n0, ⟨n0, ⟨n0, trivial⟩⟩⟩⟩⟩⟩⟩⟩⟩⟩⟩⟩⟩⟩⟩⟩⟩⟩)).um.um.um
   refine x_res1 F rfl (rv_t F rfl) ?_
   obtain rfl := Option.some.inj hR
   exact ⟨rfl, H.bl⟩
  replace hR := ifF hb251 hR
  refine x_skip (x_tn (x_seq (x_reg (o_assign F rfl rfl fun a F => x_end (x_tn (x_seq (x_reg (oBA Tryz.isAgg33 Tryz.sizeOf33 F rfl rfl ((((K206.lf e217).lf e231).lf e245).o H.sm) rfl rfl fun a F => o_move F rfl rfl (fun a F => ?_)))))))))
  obtain ⟨z252, c253, hR⟩ := bnd_some hR
  refine nMk (V := Agg 2 RTemplate) (x' := ((Template.mk x0.size x0.rels).mkv 1)) F rfl Tryz.call21 rfl (H.s [10, 0, 1, 2, 3, 4, 5, 6, 7, 8, 9, 11, 12, 13] rfl rfl) c253 (fun h o h0 h1 => markTemplate_any _ _ _ _ _ _ h.r o h0 h1) fun a w H iz252 F => o_assign F rfl rfl fun a F => x_end (x_tn (x_seq (x_reg (oBA Tryz.isAgg33 Tryz.sizeOf33 F rfl rfl (((K220.lf e231).lf e245).o H.sm) rfl rfl fun a F => o_move F rfl rfl (fun a F => ?_)))))
  obtain ⟨z254, c255, hR⟩ := bnd_some hR
  refine nMk (V := Agg 2 RTemplate) (x' := ((Template.mk x1.size x1.rels).mkv z252)) F rfl Tryz.call21 rfl (H.s [10, 0, 1, 2, 3, 4, 5, 6, 7, 8, 9, 11, 12, 13] rfl rfl) c255 (fun h o h0 h1 => markTemplate_any _ _ _ _ _ _ h.r o h0 h1) fun a w H iz254 F => o_assign F rfl rfl fun a F => x_end (x_tn (x_seq (x_reg (oBA Tryz.isAgg37 Tryz.sizeOf37 F rfl rfl ((K234.lf e245).o H.sm) rfl rfl fun a F => o_move F rfl rfl (fun a F => ?_)))))
  obtain ⟨z256, c257, hR⟩ := bnd_some hR
  refine nMk (V := Agg 1 RGadgets) (x' := ((Gadgets.mk x2.formulas).mkv z254)) F rfl Tryz.call22 rfl (H.s [10, 0, 1, 2, 3, 4, 5, 6, 7, 8, 9, 11, 12, 13] rfl rfl) c257 (fun h o h0 h1 => markGadgets_any _ _ _ _ _ _ h.r o h0 h1) fun a w H iz256 F => o_assign F rfl rfl fun a F => x_end (x_tn (x_seq (x_reg (oBA Tryz.isAgg58 Tryz.sizeOf58 F rfl rfl (K248.o H.sm) rfl rfl fun a F => o_move F rfl rfl (fun a F => ?_)))))
  obtain ⟨z258, c259, hR⟩ := bnd_some hR
  refine nMk (V := Agg 2 RInstance) (x' := ((Instance.mk x3.vars x3.cons).mkv z256)) F rfl Tryz.call33 rfl (H.s [10, 0, 1, 2, 3, 4, 5, 6, 7, 8, 9, 11, 12, 13] rfl rfl) c259 (fun h o h0 h1 => markInstance_any _ _ _ _ _ _ h.r o h0 h1) fun a w H iz258 F => o_assign F rfl rfl fun a F => x_end (x_tn (x_seq (x_seq ?_)))
  obtain ⟨o267, hR, hk268⟩ := thn_some hR
  refine x_cutQ (fun a w => ∃ (s270 : Bool), o267 = .nx s270 ∧ Sk a 202 [(4, .pointer (some ⟨b14, 0, none⟩)), (5, .pointer (some ⟨b18, 0, none⟩)), (6, .pointer (some ⟨b21, 0, none⟩)), (7, .pointer (some ⟨b25, 0, none⟩)), (10, .pointer (some ⟨b138, 0, none⟩)), (11, v143), (12, .int .i64 z54.2.2), (17, .pointer (some ⟨b178, 0, none⟩)), (18, v174), (141, .bool s270)] ∧ Sep X242 N243 w247 w [bx b178 [.int .i64 z169.1.vars, v172] 58, rl 2 RCon 165 v172 z169.1.cons, rl 1 RInt 2 v174 z169.2.1, bx b138 [.int .i64 z54.1.vars, v141] 58, rl 2 RCon 165 v141 z54.1.cons, rl 1 RInt 2 v143 z54.2.1]) ?_ ?_
  ·
   refine x_reg (o_move F rfl rfl fun a F => o_lss F rfl rfl rfl fun a F => o_move F rfl rfl (fun a F => ?_))
   rcases bcases (decide (z258 < 0)) with hb271 | hb271
   ·
    replace hR := ifT hb271 hR
    have F := F.eq (t := 125) rfl (congrArg Value.bool hb271)
    refine o_no F rfl rfl fun a F => o_no F rfl rfl fun a F => o_no F rfl rfl fun a F => o_no F rfl rfl fun a F => o_pickt F rfl rfl rfl fun a F => o_move F rfl rfl fun a F => o_no F rfl rfl fun a F => o_no F rfl rfl fun a F => o_no F rfl rfl fun a F => o_no F rfl rfl fun a F => o_pickt F rfl rfl rfl (fun a F => ?_)
    refine o_move F rfl rfl fun a F => o_no F rfl rfl fun a F => o_no F rfl rfl fun a F => o_no F rfl rfl fun a F => o_pickt F rfl rfl rfl fun a F => x_end (x_tn ?_)
    exact ⟨true, (Option.some.inj hR).symm, F.sub (sc rfl (sc rfl (sc rfl (sc rfl (sc rfl (sc rfl (sc rfl (sc rfl (sc rfl (sc rfl sn)))))))))), (H.s [8, 9, 10, 11, 12, 13] rfl rfl)⟩
   replace hR := ifF hb271 hR
   have F := F.eq (t := 125) rfl (congrArg Value.bool hb271)
   refine oBA Tryz.isAgg58 Tryz.sizeOf58 F rfl rfl (H.b 8 rfl) rfl rfl fun a F => oBA Tryz.isAgg58 Tryz.sizeOf58 F rfl rfl (H.b 11 rfl) rfl rfl (fun a F => ?_)
   obtain ⟨z272, c273, hR⟩ := bnd_some hR
   refine nEq (V := Agg 2 RInstance) F rfl Tryz.call32 rfl H (RInstance.m i171 (H.l 9 rfl)) (RInstance.m i139 (H.l 12 rfl)) c273 (fun h g => eqInstance_any _ _ _ _ _ _ h.r g.r h.m g.m) fun a w H F => o_not F rfl rfl fun a F => o_pickf F rfl rfl rfl fun a F => o_move F rfl rfl (fun a F => ?_)
   rcases bcases (!z272) with hb274 | hb274
   ·
    replace hR := ifT hb274 hR
    have F := F.eq (t := 131) rfl (congrArg Value.bool hb274)
    refine o_no F rfl rfl fun a F => o_no F rfl rfl fun a F => o_no F rfl rfl fun a F => o_no F rfl rfl fun a F => o_pickt F rfl rfl rfl fun a F => o_move F rfl rfl fun a F => o_no F rfl rfl fun a F => o_no F rfl rfl fun a F => o_no F rfl rfl fun a F => o_pickt F rfl rfl rfl fun a F => x_end ?_
    refine x_tn ?_
    exact ⟨true, (Option.some.inj hR).symm, F.sub (sc rfl (sc rfl (sc rfl (sc rfl (sc rfl (sc rfl (sc rfl (sc rfl (sc rfl (sc rfl sn)))))))))), (H.s [8, 9, 10, 11, 12, 13] rfl rfl)⟩
   replace hR := ifF hb274 hR
   have F := F.eq (t := 131) rfl (congrArg Value.bool hb274)
   refine o_move F rfl rfl fun a F => o_move F rfl rfl (fun a F => ?_)
   obtain ⟨z275, c276, hR⟩ := bnd_some hR
   refine nEq (V := Sl 1 RInt) F rfl Tryz.call20 rfl H (H.l 10 rfl) (H.l 13 rfl) c276 (fun h g => eqInt64S_any _ _ _ _ _ _ h.r g.r h.m g.m) fun a w H F => o_not F rfl rfl fun a F => o_pickf F rfl rfl rfl fun a F => o_move F rfl rfl (fun a F => ?_)
   rcases bcases (!z275) with hb277 | hb277
   ·
    replace hR := ifT hb277 hR
    have F := F.eq (t := 137) rfl (congrArg Value.bool hb277)
    refine o_no F rfl rfl fun a F => o_no F rfl rfl fun a F => o_no F rfl rfl fun a F => o_pickt F rfl rfl rfl fun a F => x_end (x_tn ?_)
    exact ⟨true, (Option.some.inj hR).symm, F.sub (sc rfl (sc rfl (sc rfl (sc rfl (sc rfl (sc rfl (sc rfl (sc rfl (sc rfl (sc rfl sn)))))))))), (H.s [8, 9, 10, 11, 12, 13] rfl rfl)⟩
   replace hR := ifF hb277 hR
   have F := F.eq (t := 137) rfl (congrArg Value.bool hb277)
   refine o_move F rfl rfl fun a F => o_move F rfl rfl fun a F => o_neq F rfl rfl rfl fun a F => o_pickf F rfl rfl rfl fun a F => x_end (x_tn ?_)
   exact ⟨(z169.2.2 != z54.2.2), (Option.some.inj hR).symm, F.sub (sc rfl (sc rfl (sc rfl (sc rfl (sc rfl (sc rfl (sc rfl (sc rfl (sc rfl (sc rfl sn)))))))))), (H.s [8, 9, 10, 11, 12, 13] rfl rfl)⟩
  intro a w ⟨s270, ho269, F, H⟩
  subst ho269
  have hR := then_nx hk268
  refine x_tn (x_if F rfl (fun hb278 => ?_) (fun hb278 => ?_))
  ·
   replace hR := ifT hb278 hR
   refine x_seq (x_reg (o_assign F rfl rfl fun a F => x_end (x_tn (x_ret (x_tr ?_)))))
   have H := (th68.1 (th204.1 (th218.1 (th232.1 (th246.1 H (Ns.all ⟨n0, ⟨n0, ⟨n0, ⟨n0, ⟨n0, ⟨n0, trivial⟩⟩⟩⟩⟩⟩)) (Ns.all ⟨n0, ⟨n0, ⟨n0, ⟨n0, ⟨n0, ⟨n0, ⟨n0, trivial⟩⟩⟩⟩⟩⟩⟩)) (Ns.all ⟨n0, ⟨n0, ⟨n0, ⟨n0, ⟨n0, ⟨n0, ⟨n0, ⟨n0, trivial⟩⟩⟩⟩⟩⟩⟩⟩)) (Ns.all ⟨n0, ⟨n0, ⟨n0, ⟨n0, ⟨n0, ⟨n0, ⟨n0, ⟨n0, ⟨n0, trivial⟩⟩⟩⟩⟩⟩⟩⟩⟩)) (Ns.all ⟨n0, ⟨n0, ⟨n0, ⟨n0, ⟨n0, ⟨n0, ⟨n0, ⟨n0, ⟨n0, ⟨n0, trivial⟩⟩⟩⟩⟩⟩⟩⟩⟩⟩)).um.um.um
   refine x_res1 F rfl (rv_t F rfl) ?_
   obtain rfl := Option.some.inj hR
   exact ⟨rfl, H.bl⟩
  replace hR := ifF hb278 hR
  refine x_skip (x_tn (x_seq (x_reg (o_assign F rfl rfl fun a F => x_end (x_tn (x_seq (x_reg (oBA Tryz.isAgg58 Tryz.sizeOf58 F rfl rfl (H.b 0 rfl) rfl rfl fun a F => o_move F rfl rfl (fun a F => ?_)))))))))
  have H := (RInstance.w i171 (H.s [1, 0, 2, 3, 4, 5] rfl rfl))
  obtain ⟨z280, c281, hR⟩ := bnd_some hR
  refine nMk (V := Agg 2 RInstance) (x' := ((Instance.mk z169.1.vars z169.1.cons).mkv 1)) F rfl Tryz.call33 rfl H c281 (fun h o h0 h1 => markInstance_any _ _ _ _ _ _ h.r o h0 h1) fun a w H iz280 F => o_assign F rfl rfl fun a F => x_end (x_tn (x_seq (x_reg (o_move F rfl rfl fun a F => o_move F rfl rfl (fun a F => ?_)))))
  have H := (H.s [2, 0, 1, 3, 4, 5] rfl rfl).os
  obtain ⟨z282, c283, hR⟩ := bnd_some hR
  refine nMk (V := Sl 1 RInt) (x' := (mkS mkI cI z169.2.1 z280)) F rfl Tryz.call23 rfl H c283 (fun h o h0 h1 => markInt64S_any _ _ _ _ _ _ h.r o h0 h1) fun a w H iz282 F => o_assign F rfl rfl fun a F => x_end (x_tn (x_seq (x_reg (o_assign F rfl rfl fun a F => x_end (x_tn (x_seq (x_reg ?_)))))))
  refine oBA Tryz.isAgg58 Tryz.sizeOf58 F rfl rfl (H.b 2 rfl) rfl rfl fun a F => o_move F rfl rfl fun a F => nHl (V := Agg 2 RInstance) F rfl Tryz.call34 rfl H (H.o 1 rfl) c281 (fun h h0 h1 => heldInstance_any _ _ _ _ _ h.r h.m h0 h1) fun a w H iz280 F => o_assign F rfl rfl fun a F => x_end (x_tn (x_seq (x_seq (x_reg (o_move F rfl rfl fun a F => o_lss F rfl rfl rfl (fun a F => ?_))))))
  refine x_end (x_tn (x_if F rfl (fun hb284 => ?_) (fun hb284 => ?_)))
  ·
   replace hR := ifT hb284 hR
   refine x_seq (x_reg (o_assign F rfl rfl fun a F => x_end (x_tn (x_ret (x_tr ?_)))))
   have H := (th68.1 (th204.1 (th218.1 (th232.1 (th246.1 H (Ns.all ⟨n0, ⟨n0, ⟨n0, ⟨n0, ⟨n0, ⟨n0, trivial⟩⟩⟩⟩⟩⟩)) (Ns.all ⟨n0, ⟨n0, ⟨n0, ⟨n0, ⟨n0, ⟨n0, ⟨n0, trivial⟩⟩⟩⟩⟩⟩⟩)) (Ns.all ⟨n0, ⟨n0, ⟨n0, ⟨n0, ⟨n0, ⟨n0, ⟨n0, ⟨n0, trivial⟩⟩⟩⟩⟩⟩⟩⟩)) (Ns.all ⟨n0, ⟨n0, ⟨n0, ⟨n0, ⟨n0, ⟨n0, ⟨n0, ⟨n0, ⟨n0, trivial⟩⟩⟩⟩⟩⟩⟩⟩⟩)) (Ns.all ⟨n0, ⟨n0, ⟨n0, ⟨n0, ⟨n0, ⟨n0, ⟨n0, ⟨n0, ⟨n0, ⟨n0, trivial⟩⟩⟩⟩⟩⟩⟩⟩⟩⟩)).um.um.um
   refine x_res1 F rfl (rv_t F rfl) ?_
   obtain rfl := Option.some.inj hR
   exact ⟨rfl, H.bl⟩
  replace hR := ifF hb284 hR
  refine x_skip (x_tn (x_seq (x_reg (o_move F rfl rfl fun a F => o_move F rfl rfl fun a F => nHl (V := Sl 1 RInt) F rfl Tryz.call24 rfl H (H.o 0 rfl) c283 (fun h h0 h1 => heldInt64S_any _ _ _ _ _ h.r h.m h0 h1) fun a w H iz282 F => o_assign F rfl rfl fun a F => x_end (x_tn (x_seq ?_))))))
  refine x_seq (x_reg (o_move F rfl rfl fun a F => o_lss F rfl rfl rfl fun a F => x_end (x_tn (x_if F rfl (fun hb285 => ?_) (fun hb285 => ?_)))))
  ·
   replace hR := ifT hb285 hR
   refine x_seq (x_reg (o_assign F rfl rfl fun a F => x_end (x_tn (x_ret (x_tr ?_)))))
   have H := (th68.1 (th204.1 (th218.1 (th232.1 (th246.1 H (Ns.all ⟨n0, ⟨n0, ⟨n0, ⟨n0, ⟨n0, ⟨n0, trivial⟩⟩⟩⟩⟩⟩)) (Ns.all ⟨n0, ⟨n0, ⟨n0, ⟨n0, ⟨n0, ⟨n0, ⟨n0, trivial⟩⟩⟩⟩⟩⟩⟩)) (Ns.all ⟨n0, ⟨n0, ⟨n0, ⟨n0, ⟨n0, ⟨n0, ⟨n0, ⟨n0, trivial⟩⟩⟩⟩⟩⟩⟩⟩)) (Ns.all ⟨n0, ⟨n0, ⟨n0, ⟨n0, ⟨n0, ⟨n0, ⟨n0, ⟨n0, ⟨n0, trivial⟩⟩⟩⟩⟩⟩⟩⟩⟩)) (Ns.all ⟨n0, ⟨n0, ⟨n0, ⟨n0, ⟨n0, ⟨n0, ⟨n0, ⟨n0, ⟨n0, ⟨n0, trivial⟩⟩⟩⟩⟩⟩⟩⟩⟩⟩)).um.um.um
   refine x_res1 F rfl (rv_t F rfl) ?_
   obtain rfl := Option.some.inj hR
   exact ⟨rfl, H.bl⟩
  replace hR := ifF hb285 hR
  refine x_skip (x_tn (x_seq (x_seq (x_reg (o_move F rfl rfl fun a F => o_move F rfl rfl fun a F => o_neq F rfl rfl rfl fun a F => x_end (x_tn (x_if F rfl (fun hb286 => ?_) (fun hb286 => ?_))))))))
  ·
   replace hR := ifT hb286 hR
   refine x_seq (x_reg (o_assign F rfl rfl fun a F => x_end (x_tn (x_ret (x_tr ?_)))))
   have H := (th68.1 (th204.1 (th218.1 (th232.1 (th246.1 H (Ns.all ⟨n0, ⟨n0, ⟨n0, ⟨n0, ⟨n0, ⟨n0, trivial⟩⟩⟩⟩⟩⟩)) (Ns.all ⟨n0, ⟨n0, ⟨n0, ⟨n0, ⟨n0, ⟨n0, ⟨n0, trivial⟩⟩⟩⟩⟩⟩⟩)) (Ns.all ⟨n0, ⟨n0, ⟨n0, ⟨n0, ⟨n0, ⟨n0, ⟨n0, ⟨n0, trivial⟩⟩⟩⟩⟩⟩⟩⟩)) (Ns.all ⟨n0, ⟨n0, ⟨n0, ⟨n0, ⟨n0, ⟨n0, ⟨n0, ⟨n0, ⟨n0, trivial⟩⟩⟩⟩⟩⟩⟩⟩⟩)) (Ns.all ⟨n0, ⟨n0, ⟨n0, ⟨n0, ⟨n0, ⟨n0, ⟨n0, ⟨n0, ⟨n0, ⟨n0, trivial⟩⟩⟩⟩⟩⟩⟩⟩⟩⟩)).um.um.um
   refine x_res1 F rfl (rv_t F rfl) ?_
   obtain rfl := Option.some.inj hR
   exact ⟨rfl, H.bl⟩
  replace hR := ifF hb286 hR
  refine x_skip (x_tn (x_seq (xD H (by kernel_rfl) fun w H => dp (fun G => ∀ (b372 : Nat) (v375 : Value) (v377 : Value) (a : Act) (w : World), Sk a 202 [(10, .pointer (some ⟨b138, 0, none⟩)), (11, v143), (12, .int .i64 z54.2.2), (17, .pointer (some ⟨b178, 0, none⟩)), (18, v174), (21, .int .i64 z282), (23, .pointer (some ⟨b372, 0, none⟩)), (171, (.agg #[.int .i64 z169.1.vars, v375])), (172, v377), (173, .int .i64 z169.2.2)] → Sep X242 N243 w247 w [bx b372 [.int .i64 0, (.slice none 0 0)] 58, rl 2 RCon 165 v375 z169.1.cons, rl 1 RInt 2 v377 z169.2.1, ow (V := (Sl 1 RInt)) v174 (mkS mkI cI z169.2.1 z280), ow (V := (Agg 2 RInstance)) (.agg #[.int .i64 z169.1.vars, v172]) ((Instance.mk z169.1.vars z169.1.cons).mkv 1), bx b178 [.int .i64 z169.1.vars, v172] 58, bx b138 [.int .i64 z54.1.vars, v141] 58, rl 2 RCon 165 v141 z54.1.cons, rl 1 RInt 2 v143 z54.2.1] → I64 z282 → I64 z169.1.vars → I64 z169.2.2 → ∀ ls, ls = #[true, true, true, true, true, true, true, true, true, true, true, true, true, true, false, false, false] → G 3 ls a w) ?_ (fun H379 => ?_))))
  ·
   intro b372 v375 v377 a w F H i371 i373 i378 ls hls
   subst hls
   refine xE H 14 rfl (by kernel_rfl) (oWA (vs := [.int .i64 z169.1.vars, v375]) Tryz.sizeOf58 F rfl rfl rfl H (oc rfl (oc (H.l 1 rfl).one on)) rfl rfl fun w H => x_end (x_tn (⟨⟨_, H⟩, ?_⟩)))
   refine b_q0 15 rfl (by kernel_rfl) (by kernel_rfl) (by kernel_rfl) (v_val F rfl (fun w l => r_assign F rfl) fun a F => b_q0 16 rfl (by kernel_rfl) (by kernel_rfl) (by kernel_rfl) (v_val F rfl (fun w l => r_assign F rfl) fun a F => b_end (by kernel_rfl) (x_tn (x_seq (x_seq ?_)))))
   obtain ⟨o386, hR, hk387⟩ := thn_some hR
   refine x_cutQ (fun a w => ∃ (s389 : Bool), o386 = .nx s389 ∧ Sk a 202 [(17, .pointer (some ⟨b178, 0, none⟩)), (18, v174), (21, .int .i64 z282), (188, .bool s389)] ∧ Sep X242 N243 w247 w [ow (V := (Sl 1 RInt)) v174 (mkS mkI cI z169.2.1 z280), ow (V := (Agg 2 RInstance)) (.agg #[.int .i64 z169.1.vars, v172]) ((Instance.mk z169.1.vars z169.1.cons).mkv 1), bx b178 [.int .i64 z169.1.vars, v172] 58]) ?_ ?_
   ·
    refine x_reg (oBA Tryz.isAgg58 Tryz.sizeOf58 F rfl rfl (H.b 0 rfl) rfl rfl fun a F => oBA Tryz.isAgg58 Tryz.sizeOf58 F rfl rfl (H.b 6 rfl) rfl rfl (fun a F => ?_))
    obtain ⟨z390, c391, hR⟩ := bnd_some hR
    refine nEq (V := Agg 2 RInstance) F rfl Tryz.call32 rfl H (RInstance.m i373 (H.l 1 rfl)) (RInstance.m i139 (H.l 7 rfl)) c391 (fun h g => eqInstance_any _ _ _ _ _ _ h.r g.r h.m g.m) fun a w H F => o_not F rfl rfl fun a F => o_move F rfl rfl (fun a F => ?_)
    rcases bcases (!z390) with hb392 | hb392
    ·
     replace hR := ifT hb392 hR
     have F := F.eq (t := 178) rfl (congrArg Value.bool hb392)
     refine o_no F rfl rfl fun a F => o_no F rfl rfl fun a F => o_no F rfl rfl fun a F => o_no F rfl rfl fun a F => o_pickt F rfl rfl rfl fun a F => o_move F rfl rfl fun a F => o_no F rfl rfl fun a F => o_no F rfl rfl fun a F => o_no F rfl rfl fun a F => o_pickt F rfl rfl rfl fun a F => x_end ?_
     refine x_tn ?_
     exact ⟨true, (Option.some.inj hR).symm, F.sub (sc rfl (sc rfl (sc rfl (sc rfl sn)))), (H.s [3, 4, 5] rfl rfl)⟩
    replace hR := ifF hb392 hR
    have F := F.eq (t := 178) rfl (congrArg Value.bool hb392)
    refine o_move F rfl rfl fun a F => o_move F rfl rfl (fun a F => ?_)
    obtain ⟨z393, c394, hR⟩ := bnd_some hR
    refine nEq (V := Sl 1 RInt) F rfl Tryz.call20 rfl H (H.l 2 rfl) (H.l 8 rfl) c394 (fun h g => eqInt64S_any _ _ _ _ _ _ h.r g.r h.m g.m) fun a w H F => o_not F rfl rfl fun a F => o_pickf F rfl rfl rfl fun a F => o_move F rfl rfl (fun a F => ?_)
    rcases bcases (!z393) with hb395 | hb395
    ·
     replace hR := ifT hb395 hR
     have F := F.eq (t := 184) rfl (congrArg Value.bool hb395)
     refine o_no F rfl rfl fun a F => o_no F rfl rfl fun a F => o_no F rfl rfl fun a F => o_pickt F rfl rfl rfl fun a F => x_end (x_tn ?_)
     exact ⟨true, (Option.some.inj hR).symm, F.sub (sc rfl (sc rfl (sc rfl (sc rfl sn)))), (H.s [3, 4, 5] rfl rfl)⟩
    replace hR := ifF hb395 hR
    have F := F.eq (t := 184) rfl (congrArg Value.bool hb395)
    refine o_move F rfl rfl fun a F => o_move F rfl rfl fun a F => o_neq F rfl rfl rfl fun a F => o_pickf F rfl rfl rfl fun a F => x_end (x_tn ?_)
    exact ⟨(z169.2.2 != z54.2.2), (Option.some.inj hR).symm, F.sub (sc rfl (sc rfl (sc rfl (sc rfl sn)))), (H.s [3, 4, 5] rfl rfl)⟩
   intro a w ⟨s389, ho388, F, H⟩
   subst ho388
   have hR := then_nx hk387
   refine x_tn (x_if F rfl (fun hb396 => ?_) (fun hb396 => ?_))
   ·
    replace hR := ifT hb396 hR
    refine x_seq (x_reg (o_assign F rfl rfl fun a F => x_end (x_tn (x_ret (x_tr ?_)))))
    have H := (th68.1 (th204.1 (th218.1 (th232.1 (th246.1 H (Ns.all ⟨n0, ⟨n0, ⟨n0, trivial⟩⟩⟩)) (Ns.all ⟨n0, ⟨n0, ⟨n0, ⟨n0, trivial⟩⟩⟩⟩)) (Ns.all ⟨n0, ⟨n0, ⟨n0, ⟨n0, ⟨n0, trivial⟩⟩⟩⟩⟩)) (Ns.all ⟨n0, ⟨n0, ⟨n0, ⟨n0, ⟨n0, ⟨n0, trivial⟩⟩⟩⟩⟩⟩)) (Ns.all ⟨n0, ⟨n0, ⟨n0, ⟨n0, ⟨n0, ⟨n0, ⟨n0, trivial⟩⟩⟩⟩⟩⟩⟩)).um.um.um
    refine x_res1 F rfl (rv_t F rfl) ?_
    obtain rfl := Option.some.inj hR
    exact ⟨rfl, H.bl⟩
   replace hR := ifF hb396 hR
   refine x_skip (x_tn (x_seq (x_reg (o_assign F rfl rfl fun a F => x_end (x_tn (x_seq (x_reg (oBA Tryz.isAgg58 Tryz.sizeOf58 F rfl rfl (H.b 2 rfl) rfl rfl fun a F => o_move F rfl rfl (fun a F => ?_)))))))))
   refine nHl (V := Agg 2 RInstance) F rfl Tryz.call34 rfl H (H.o 1 rfl) c281 (fun h h0 h1 => heldInstance_any _ _ _ _ _ h.r h.m h0 h1) fun a w H iz280 F => o_assign F rfl rfl fun a F => x_end (x_tn (x_seq (x_seq (x_reg (o_move F rfl rfl fun a F => o_lss F rfl rfl rfl fun a F => x_end (x_tn ?_))))))
   refine x_if F rfl (fun hb397 => ?_) (fun hb397 => ?_)
   ·
    replace hR := ifT hb397 hR
    refine x_seq (x_reg (o_assign F rfl rfl fun a F => x_end (x_tn (x_ret (x_tr ?_)))))
    have H := (th68.1 (th204.1 (th218.1 (th232.1 (th246.1 H (Ns.all ⟨n0, ⟨n0, ⟨n0, trivial⟩⟩⟩)) (Ns.all ⟨n0, ⟨n0, ⟨n0, ⟨n0, trivial⟩⟩⟩⟩)) (Ns.all ⟨n0, ⟨n0, ⟨n0, ⟨n0, ⟨n0, trivial⟩⟩⟩⟩⟩)) (Ns.all ⟨n0, ⟨n0, ⟨n0, ⟨n0, ⟨n0, ⟨n0, trivial⟩⟩⟩⟩⟩⟩)) (Ns.all ⟨n0, ⟨n0, ⟨n0, ⟨n0, ⟨n0, ⟨n0, ⟨n0, trivial⟩⟩⟩⟩⟩⟩⟩)).um.um.um
    refine x_res1 F rfl (rv_t F rfl) ?_
    obtain rfl := Option.some.inj hR
    exact ⟨rfl, H.bl⟩
   replace hR := ifF hb397 hR
   refine x_skip (x_tn (x_seq (x_reg (o_move F rfl rfl fun a F => o_move F rfl rfl fun a F => nHl (V := Sl 1 RInt) F rfl Tryz.call24 rfl H (H.o 0 rfl) c283 (fun h h0 h1 => heldInt64S_any _ _ _ _ _ h.r h.m h0 h1) fun a w H iz282 F => o_assign F rfl rfl fun a F => x_end (x_tn (x_seq ?_))))))
   refine x_seq (x_reg (o_move F rfl rfl fun a F => o_lss F rfl rfl rfl fun a F => x_end (x_tn (x_if F rfl (fun hb398 => ?_) (fun hb398 => ?_)))))
   ·
    replace hR := ifT hb398 hR
    refine x_seq (x_reg (o_assign F rfl rfl fun a F => x_end (x_tn (x_ret (x_tr ?_)))))
    have H := (th68.1 (th204.1 (th218.1 (th232.1 (th246.1 H (Ns.all ⟨n0, ⟨n0, ⟨n0, trivial⟩⟩⟩)) (Ns.all ⟨n0, ⟨n0, ⟨n0, ⟨n0, trivial⟩⟩⟩⟩)) (Ns.all ⟨n0, ⟨n0, ⟨n0, ⟨n0, ⟨n0, trivial⟩⟩⟩⟩⟩)) (Ns.all ⟨n0, ⟨n0, ⟨n0, ⟨n0, ⟨n0, ⟨n0, trivial⟩⟩⟩⟩⟩⟩)) (Ns.all ⟨n0, ⟨n0, ⟨n0, ⟨n0, ⟨n0, ⟨n0, ⟨n0, trivial⟩⟩⟩⟩⟩⟩⟩)).um.um.um
    refine x_res1 F rfl (rv_t F rfl) ?_
    obtain rfl := Option.some.inj hR
    exact ⟨rfl, H.bl⟩
   replace hR := ifF hb398 hR
   refine x_skip (x_tn (x_seq (x_seq (x_reg (o_move F rfl rfl fun a F => o_move F rfl rfl fun a F => o_neq F rfl rfl rfl fun a F => x_end (x_tn (x_if F rfl (fun hb399 => ?_) (fun hb399 => ?_))))))))
   ·
    replace hR := ifT hb399 hR
    refine x_seq (x_reg (o_assign F rfl rfl fun a F => x_end (x_tn (x_ret (x_tr ?_)))))
    have H := (th68.1 (th204.1 (th218.1 (th232.1 (th246.1 H (Ns.all ⟨n0, ⟨n0, ⟨n0, trivial⟩⟩⟩)) (Ns.all ⟨n0, ⟨n0, ⟨n0, ⟨n0, trivial⟩⟩⟩⟩)) (Ns.all ⟨n0, ⟨n0, ⟨n0, ⟨n0, ⟨n0, trivial⟩⟩⟩⟩⟩)) (Ns.all ⟨n0, ⟨n0, ⟨n0, ⟨n0, ⟨n0, ⟨n0, trivial⟩⟩⟩⟩⟩⟩)) (Ns.all ⟨n0, ⟨n0, ⟨n0, ⟨n0, ⟨n0, ⟨n0, ⟨n0, trivial⟩⟩⟩⟩⟩⟩⟩)).um.um.um
    refine x_res1 F rfl (rv_t F rfl) ?_
    obtain rfl := Option.some.inj hR
    exact ⟨rfl, H.bl⟩
   replace hR := ifF hb399 hR
   refine x_skip (x_tn (x_seq (x_reg (o_assign F rfl rfl fun a F => x_end (x_tn (x_ret ?_))))))
   have H := (th68.1 (th204.1 (th218.1 (th232.1 (th246.1 H (Ns.all ⟨n0, ⟨n0, ⟨n0, trivial⟩⟩⟩)) (Ns.all ⟨n0, ⟨n0, ⟨n0, ⟨n0, trivial⟩⟩⟩⟩)) (Ns.all ⟨n0, ⟨n0, ⟨n0, ⟨n0, ⟨n0, trivial⟩⟩⟩⟩⟩)) (Ns.all ⟨n0, ⟨n0, ⟨n0, ⟨n0, ⟨n0, ⟨n0, trivial⟩⟩⟩⟩⟩⟩)) (Ns.all ⟨n0, ⟨n0, ⟨n0, ⟨n0, ⟨n0, ⟨n0, ⟨n0, trivial⟩⟩⟩⟩⟩⟩⟩)).um.um.um
   refine x_res1 F rfl (rv_t F rfl) ?_
   obtain rfl := Option.some.inj hR
   exact ⟨rfl, H.bl⟩
  refine dp (fun G => ∀ (b354 : Nat) (v356 : Value) (v358 : Value) (v360 : Value) (v362 : Value) (a : Act) (w : World), Sk a 202 [(10, .pointer (some ⟨b138, 0, none⟩)), (11, v143), (12, .int .i64 z54.2.2), (17, .pointer (some ⟨b178, 0, none⟩)), (18, v174), (21, .int .i64 z282), (23, .pointer (some ⟨b354, 0, none⟩)), (163, v356), (165, v358), (167, v360), (169, v362)] → Sep X242 N243 w247 w [bx b354 [.int .i64 0, (.slice none 0 0)] 58, ow (V := (Agg 2 RTemplate)) v356 (Template.mk x0.size x0.rels), ow (V := (Agg 2 RTemplate)) v358 (Template.mk x1.size x1.rels), ow (V := (Agg 1 RGadgets)) v360 (Gadgets.mk x2.formulas), ow (V := (Agg 2 RInstance)) v362 (Instance.mk x3.vars x3.cons), ow (V := (Sl 1 RInt)) v174 (mkS mkI cI z169.2.1 z280), ow (V := (Agg 2 RInstance)) (.agg #[.int .i64 z169.1.vars, v172]) ((Instance.mk z169.1.vars z169.1.cons).mkv 1), bx b178 [.int .i64 z169.1.vars, v172] 58, bx b138 [.int .i64 z54.1.vars, v141] 58, rl 2 RCon 165 v141 z54.1.cons, rl 1 RInt 2 v143 z54.2.1] → I64 z282 → ∀ ls, ls = #[true, true, true, true, true, true, true, true, false, false, false, false, false, true, false, false, false] → G 8 ls a w) ?_ (fun H363 => ?_)
  ·
   intro b354 v356 v358 v360 v362 a w F H i353 ls hls
   subst hls
   refine xE H 8 rfl (by kernel_rfl) (oG F rfl Tryz.call31 rfl (impl_ApplyGadgets_c z169 c170 _ aA (H.o 1 rfl) (H.o 2 rfl) (H.o 3 rfl) (H.o 4 rfl)) (fun a vv w ⟨v365, v367, hv370, S, i364, i369⟩ F => ?_))
   subst vv
   have H := H.rk S ⟨n0, ⟨n0, trivial⟩⟩ rfl
   refine x_end (x_tn (⟨⟨_, H⟩, ?_⟩))
   refine b_q0 9 rfl (by kernel_rfl) (by kernel_rfl) (by kernel_rfl) (v_val F rfl (fun w l => r_move F rfl) fun a F => b_q0 10 rfl (by kernel_rfl) (by kernel_rfl) (by kernel_rfl) (v_val F rfl (fun w l => r_extract F rfl rfl) fun a F => b_q0 11 rfl (by kernel_rfl) (by kernel_rfl) (by kernel_rfl) (v_val F rfl (fun w l => r_extract F rfl rfl) fun a F => b_q0 12 rfl (by kernel_rfl) (by kernel_rfl) (by kernel_rfl) (v_val F rfl (fun w l => r_extract F rfl rfl) (fun a F => ?_)))))
   exact H379 b354 v365 v367 _ _ (F.sub (sc rfl (sc rfl (sc rfl (sc rfl (sc rfl (sc rfl (sc rfl (sc rfl (sc rfl (sc rfl sn))))))))))) (H.s [2, 0, 1, 7, 8, 9, 10, 11, 12] rfl rfl) i353 i364 i369 _ (by kernel_rfl)
  refine dp (fun G => ∀ (b343 : Nat) (v345 : Value) (v347 : Value) (v349 : Value) (a : Act) (w : World), Sk a 202 [(10, .pointer (some ⟨b138, 0, none⟩)), (11, v143), (12, .int .i64 z54.2.2), (17, .pointer (some ⟨b178, 0, none⟩)), (18, v174), (21, .int .i64 z282), (23, .pointer (some ⟨b343, 0, none⟩)), (163, v345), (165, v347), (167, v349), (168, (.agg #[.int .i64 x3.vars, v23]))] → Sep X242 N243 w247 w [bx b343 [.int .i64 0, (.slice none 0 0)] 58, ow (V := (Agg 2 RTemplate)) v345 (Template.mk x0.size x0.rels), ow (V := (Agg 2 RTemplate)) v347 (Template.mk x1.size x1.rels), ow (V := (Agg 1 RGadgets)) v349 (Gadgets.mk x2.formulas), ow (V := (Sl 1 RInt)) v174 (mkS mkI cI z169.2.1 z280), ow (V := (Agg 2 RInstance)) (.agg #[.int .i64 z169.1.vars, v172]) ((Instance.mk z169.1.vars z169.1.cons).mkv 1), bx b178 [.int .i64 z169.1.vars, v172] 58, bx b138 [.int .i64 z54.1.vars, v141] 58, rl 2 RCon 165 v141 z54.1.cons, rl 1 RInt 2 v143 z54.2.1] → I64 z282 → ∀ ls, ls = #[true, true, true, true, true, true, true, false, false, false, false, false, false, true, false, false, false] → G 9 ls a w) ?_ (fun H350 => ?_)
  ·
   intro b343 v345 v347 v349 a w F H i342 ls hls
   subst hls
   refine xE H 7 rfl (by kernel_rfl) (nTo (V := Agg 2 RInstance) F rfl Tryz.call30 rfl H (RInstance.m i22 (H.a (e245 (e231 (e217 (e203 (e67 h24))))))) (fun h => toInstance_any _ _ _ _ h.r h.m (toq_some c51)) fun a w v351 H F => x_end (x_tn (⟨⟨_, H⟩, ?_⟩)))
   exact H363 b343 v345 v347 v349 v351 _ _ (F.sub (sc rfl (sc rfl (sc rfl (sc rfl (sc rfl (sc rfl (sc rfl (sc rfl (sc rfl (sc rfl (sc rfl sn)))))))))))) (H.s [1, 2, 3, 4, 0, 5, 6, 7, 8, 9, 10] rfl rfl) i342 _ (by kernel_rfl)
  refine dp (fun G => ∀ (b334 : Nat) (v336 : Value) (v338 : Value) (a : Act) (w : World), Sk a 202 [(10, .pointer (some ⟨b138, 0, none⟩)), (11, v143), (12, .int .i64 z54.2.2), (17, .pointer (some ⟨b178, 0, none⟩)), (18, v174), (21, .int .i64 z282), (23, .pointer (some ⟨b334, 0, none⟩)), (163, v336), (165, v338), (166, (.agg #[v19])), (168, (.agg #[.int .i64 x3.vars, v23]))] → Sep X242 N243 w247 w [bx b334 [.int .i64 0, (.slice none 0 0)] 58, ow (V := (Agg 2 RTemplate)) v336 (Template.mk x0.size x0.rels), ow (V := (Agg 2 RTemplate)) v338 (Template.mk x1.size x1.rels), ow (V := (Sl 1 RInt)) v174 (mkS mkI cI z169.2.1 z280), ow (V := (Agg 2 RInstance)) (.agg #[.int .i64 z169.1.vars, v172]) ((Instance.mk z169.1.vars z169.1.cons).mkv 1), bx b178 [.int .i64 z169.1.vars, v172] 58, bx b138 [.int .i64 z54.1.vars, v141] 58, rl 2 RCon 165 v141 z54.1.cons, rl 1 RInt 2 v143 z54.2.1] → I64 z282 → ∀ ls, ls = #[true, true, true, true, true, false, true, false, false, false, false, false, false, true, false, false, false] → G 10 ls a w) ?_ (fun H339 => ?_)
  ·
   intro b334 v336 v338 a w F H i333 ls hls
   subst hls
   refine xE H 5 rfl (by kernel_rfl) (nTo (V := Agg 1 RGadgets) F rfl Tryz.call14 rfl H (RGadgets.m (H.a (e245 (e231 (e217 (e203 (e67 h20))))))) (fun h => toGadgets_any _ _ _ _ h.r h.m (toq_some c47)) fun a w v340 H F => x_end (x_tn (⟨⟨_, H⟩, ?_⟩)))
   exact H350 b334 v336 v338 v340 _ _ (F.sub (sc rfl (sc rfl (sc rfl (sc rfl (sc rfl (sc rfl (sc rfl (sc rfl (sc rfl (sc rfl (sc rfl sn)))))))))))) (H.s [1, 2, 3, 0, 4, 5, 6, 7, 8, 9] rfl rfl) i333 _ (by kernel_rfl)
  refine dp (fun G => ∀ (b327 : Nat) (v329 : Value) (a : Act) (w : World), Sk a 202 [(10, .pointer (some ⟨b138, 0, none⟩)), (11, v143), (12, .int .i64 z54.2.2), (17, .pointer (some ⟨b178, 0, none⟩)), (18, v174), (21, .int .i64 z282), (23, .pointer (some ⟨b327, 0, none⟩)), (163, v329), (164, (.agg #[.int .i64 x1.size, v16])), (166, (.agg #[v19])), (168, (.agg #[.int .i64 x3.vars, v23]))] → Sep X242 N243 w247 w [bx b327 [.int .i64 0, (.slice none 0 0)] 58, ow (V := (Agg 2 RTemplate)) v329 (Template.mk x0.size x0.rels), ow (V := (Sl 1 RInt)) v174 (mkS mkI cI z169.2.1 z280), ow (V := (Agg 2 RInstance)) (.agg #[.int .i64 z169.1.vars, v172]) ((Instance.mk z169.1.vars z169.1.cons).mkv 1), bx b178 [.int .i64 z169.1.vars, v172] 58, bx b138 [.int .i64 z54.1.vars, v141] 58, rl 2 RCon 165 v141 z54.1.cons, rl 1 RInt 2 v143 z54.2.1] → I64 z282 → ∀ ls, ls = #[true, true, true, false, true, false, true, false, false, false, false, false, false, true, false, false, false] → G 11 ls a w) ?_ (fun H330 => ?_)
  ·
   intro b327 v329 a w F H i326 ls hls
   subst hls
   refine xE H 3 rfl (by kernel_rfl) (nTo (V := Agg 2 RTemplate) F rfl Tryz.call13 rfl H (RTemplate.m i15 (H.a (e245 (e231 (e217 (e203 (e67 h17))))))) (fun h => toTemplate_any _ _ _ _ h.r h.m (toq_some c43)) fun a w v331 H F => x_end (x_tn (⟨⟨_, H⟩, ?_⟩)))
   exact H339 b327 v329 v331 _ _ (F.sub (sc rfl (sc rfl (sc rfl (sc rfl (sc rfl (sc rfl (sc rfl (sc rfl (sc rfl (sc rfl (sc rfl sn)))))))))))) (H.s [1, 2, 0, 3, 4, 5, 6, 7, 8] rfl rfl) i326 _ (by kernel_rfl)
  refine b_q 0 (by kernel_rfl) rfl (by kernel_rfl) (by kernel_rfl) (by kernel_rfl) (by kernel_rfl) (vBA Tryz.isAgg24 Tryz.sizeOf24 F rfl rfl (((((K73.lf e203).lf e217).lf e231).lf e245).v H.sm) rfl rfl fun a F => b_q 2 (by kernel_rfl) rfl (by kernel_rfl) (by kernel_rfl) (by kernel_rfl) (by kernel_rfl) (vBA Tryz.isAgg24 Tryz.sizeOf24 F rfl rfl (((((K72.lf e203).lf e217).lf e231).lf e245).v H.sm) rfl rfl fun a F => b_q 4 (by kernel_rfl) rfl (by kernel_rfl) (by kernel_rfl) (by kernel_rfl) (by kernel_rfl) (vBA Tryz.isAgg27 Tryz.sizeOf27 F rfl rfl (((((K71.lf e203).lf e217).lf e231).lf e245).v H.sm) rfl rfl fun a F => b_q 6 (by kernel_rfl) rfl (by kernel_rfl) (by kernel_rfl) (by kernel_rfl) (by kernel_rfl) (vBA Tryz.isAgg54 Tryz.sizeOf54 F rfl rfl (((((K70.lf e203).lf e217).lf e231).lf e245).v H.sm) rfl rfl fun a F => b_es [1, 13] (by kernel_rfl) (by simp) ⟨⟨_, rfl, ?_⟩, ⟨_, rfl, ?_⟩, trivial⟩))))
  ·
   refine xEs H (nTo (V := Agg 2 RTemplate) F rfl Tryz.call13 rfl H (RTemplate.m i11 (H.a (e245 (e231 (e217 (e203 (e67 h13))))))) (fun h => toTemplate_any _ _ _ _ h.r h.m (toq_some c39)) fun a w v303 H F => x_end (x_tn (⟨⟨_, H⟩, ?_⟩)))
   refine b_es [3, 13] (by kernel_rfl) (by simp) ⟨⟨_, rfl, ?_⟩, ⟨_, rfl, ?_⟩, trivial⟩
   ·
    refine xEs H (nTo (V := Agg 2 RTemplate) F rfl Tryz.call13 rfl H (RTemplate.m i15 (H.a (e245 (e231 (e217 (e203 (e67 h17))))))) (fun h => toTemplate_any _ _ _ _ h.r h.m (toq_some c43)) fun a w v305 H F => x_end (x_tn (⟨⟨_, H⟩, ?_⟩)))
    refine b_es [5, 13] (by kernel_rfl) (by simp) ⟨⟨_, rfl, ?_⟩, ⟨_, rfl, ?_⟩, trivial⟩
    ·
     refine xEs H (nTo (V := Agg 1 RGadgets) F rfl Tryz.call14 rfl H (RGadgets.m (H.a (e245 (e231 (e217 (e203 (e67 h20))))))) (fun h => toGadgets_any _ _ _ _ h.r h.m (toq_some c47)) fun a w v307 H F => x_end (x_tn (⟨⟨_, H⟩, ?_⟩)))
     refine b_es [7, 13] (by kernel_rfl) (by simp) ⟨⟨_, rfl, ?_⟩, ⟨_, rfl, ?_⟩, trivial⟩
     ·
      refine xEs H (nTo (V := Agg 2 RInstance) F rfl Tryz.call30 rfl H (RInstance.m i22 (H.a (e245 (e231 (e217 (e203 (e67 h24))))))) (fun h => toInstance_any _ _ _ _ h.r h.m (toq_some c51)) fun a w v309 H F => x_end (x_tn (⟨⟨_, H⟩, ?_⟩)))
      refine b_es [8, 13] (by kernel_rfl) (by simp) ⟨⟨_, rfl, ?_⟩, ⟨_, rfl, ?_⟩, trivial⟩
      ·
       refine xEs H (oG F rfl Tryz.call31 rfl (impl_ApplyGadgets_c z169 c170 _ aA (H.o 3 rfl) (H.o 2 rfl) (H.o 1 rfl) (H.o 0 rfl)) (fun a vv w ⟨v312, v314, hv317, S, i311, i316⟩ F => ?_))
       subst vv
       have H := H.rk S ⟨n0, ⟨n0, trivial⟩⟩ rfl
       refine x_end (x_tn (⟨⟨_, H⟩, ?_⟩))
       refine b_q0 9 rfl (by kernel_rfl) (by kernel_rfl) (by kernel_rfl) (v_val F rfl (fun w l => r_move F rfl) fun a F => b_q0 10 rfl (by kernel_rfl) (by kernel_rfl) (by kernel_rfl) (v_val F rfl (fun w l => r_extract F rfl rfl) fun a F => b_q0 11 rfl (by kernel_rfl) (by kernel_rfl) (by kernel_rfl) (v_val F rfl (fun w l => r_extract F rfl rfl) fun a F => b_q0 12 rfl (by kernel_rfl) (by kernel_rfl) (by kernel_rfl) (v_val F rfl (fun w l => r_extract F rfl rfl) fun a F => xE H 13 rfl (by kernel_rfl) (oA Tryz.zeroValue58 F rfl rfl H fun a w b318 H F => x_end ?_)))))
       refine x_tn (⟨⟨_, H⟩, ?_⟩)
       exact H379 b318 v312 v314 _ _ (F.sub (sc rfl (sc rfl (sc rfl (sc rfl (sc rfl (sc rfl (sc rfl (sc rfl (sc rfl (sc rfl sn))))))))))) (H.s [0, 1, 2, 7, 8, 9, 10, 11, 12] rfl rfl) iz282 i311 i316 _ (by kernel_rfl)
      refine xEs H (oA Tryz.zeroValue58 F rfl rfl H fun a w b319 H F => x_end (x_tn (⟨⟨_, H⟩, ?_⟩)))
      exact H363 b319 v303 v305 v307 v309 _ _ (F.sub (sc rfl (sc rfl (sc rfl (sc rfl (sc rfl (sc rfl (sc rfl (sc rfl (sc rfl (sc rfl (sc rfl sn)))))))))))) (H.s [0, 4, 3, 2, 1, 5, 6, 7, 8, 9, 10] rfl rfl) iz282 _ (by kernel_rfl)
     refine xEs H (oA Tryz.zeroValue58 F rfl rfl H fun a w b320 H F => x_end (x_tn (⟨⟨_, H⟩, ?_⟩)))
     exact H350 b320 v303 v305 v307 _ _ (F.sub (sc rfl (sc rfl (sc rfl (sc rfl (sc rfl (sc rfl (sc rfl (sc rfl (sc rfl (sc rfl (sc rfl sn)))))))))))) (H.s [0, 3, 2, 1, 4, 5, 6, 7, 8, 9] rfl rfl) iz282 _ (by kernel_rfl)
    refine xEs H (oA Tryz.zeroValue58 F rfl rfl H fun a w b321 H F => x_end (x_tn (⟨⟨_, H⟩, ?_⟩)))
    exact H339 b321 v303 v305 _ _ (F.sub (sc rfl (sc rfl (sc rfl (sc rfl (sc rfl (sc rfl (sc rfl (sc rfl (sc rfl (sc rfl (sc rfl sn)))))))))))) (H.s [0, 2, 1, 3, 4, 5, 6, 7, 8] rfl rfl) iz282 _ (by kernel_rfl)
   refine xEs H (oA Tryz.zeroValue58 F rfl rfl H fun a w b322 H F => x_end (x_tn (⟨⟨_, H⟩, ?_⟩)))
   exact H330 b322 v303 _ _ (F.sub (sc rfl (sc rfl (sc rfl (sc rfl (sc rfl (sc rfl (sc rfl (sc rfl (sc rfl (sc rfl (sc rfl sn)))))))))))) H iz282 _ (by kernel_rfl)
  refine xEs H (oA Tryz.zeroValue58 F rfl rfl H fun a w b323 H F => x_end (x_tn (⟨⟨_, H⟩, ?_⟩)))
  refine xE H 1 rfl (by kernel_rfl) (nTo (V := Agg 2 RTemplate) F rfl Tryz.call13 rfl H (RTemplate.m i11 (H.a (e245 (e231 (e217 (e203 (e67 h13))))))) (fun h => toTemplate_any _ _ _ _ h.r h.m (toq_some c39)) fun a w v324 H F => x_end (x_tn (⟨⟨_, H⟩, ?_⟩)))
  exact H330 b323 v324 _ _ (F.sub (sc rfl (sc rfl (sc rfl (sc rfl (sc rfl (sc rfl (sc rfl (sc rfl (sc rfl (sc rfl (sc rfl sn)))))))))))) (H.s [1, 0, 2, 3, 4, 5, 6, 7] rfl rfl) iz282 _ (by kernel_rfl)
 refine dp (fun G => ∀ (b121 : Nat) (v123 : Value) (v125 : Value) (v127 : Value) (v129 : Value) (a : Act) (w : World), Sk a 202 [(4, .pointer (some ⟨b14, 0, none⟩)), (5, .pointer (some ⟨b18, 0, none⟩)), (6, .pointer (some ⟨b21, 0, none⟩)), (7, .pointer (some ⟨b25, 0, none⟩)), (10, .pointer (some ⟨b121, 0, none⟩)), (48, v123), (50, v125), (52, v127), (54, v129)] → Sep X64 N65 w69 w [bx b121 [.int .i64 0, (.slice none 0 0)] 58, ow (V := (Agg 2 RTemplate)) v123 (Template.mk x0.size x0.rels), ow (V := (Agg 2 RTemplate)) v125 (Template.mk x1.size x1.rels), ow (V := (Agg 1 RGadgets)) v127 (Gadgets.mk x2.formulas), ow (V := (Agg 2 RInstance)) v129 (Instance.mk x3.vars x3.cons)] → ∀ ls, ls = #[true, true, true, true, true, true, true, true, false, false, false, false, false, true, false, false, false] → G 8 ls a w) ?_ (fun H130 => ?_)
 ·
  intro b121 v123 v125 v127 v129 a w F H ls hls
  subst hls
  refine xE H 8 rfl (by kernel_rfl) (oG F rfl Tryz.call29 rfl (spec_ApplyGadgets_c z54 c55 _ aA (H.o 1 rfl) (H.o 2 rfl) (H.o 3 rfl) (H.o 4 rfl)) (fun a vv w ⟨v132, v134, hv137, S, i131, i136⟩ F => ?_))
  subst vv
  have H := H.rk S ⟨n0, ⟨n0, trivial⟩⟩ rfl
  refine x_end (x_tn (⟨⟨_, H⟩, ?_⟩))
  refine b_q0 9 rfl (by kernel_rfl) (by kernel_rfl) (by kernel_rfl) (v_val F rfl (fun w l => r_move F rfl) fun a F => b_q0 10 rfl (by kernel_rfl) (by kernel_rfl) (by kernel_rfl) (v_val F rfl (fun w l => r_extract F rfl rfl) fun a F => b_q0 11 rfl (by kernel_rfl) (by kernel_rfl) (by kernel_rfl) (v_val F rfl (fun w l => r_extract F rfl rfl) fun a F => b_q0 12 rfl (by kernel_rfl) (by kernel_rfl) (by kernel_rfl) (v_val F rfl (fun w l => r_extract F rfl rfl) (fun a F => ?_)))))
  exact H145 b121 v132 v134 _ _ (F.sub (sc rfl (sc rfl (sc rfl (sc rfl (sc rfl (sc rfl (sc rfl (sc rfl sn))))))))) (H.s [2, 0, 1] rfl rfl) i131 i136 _ (by kernel_rfl)
 refine dp (fun G => ∀ (b111 : Nat) (v113 : Value) (v115 : Value) (v117 : Value) (a : Act) (w : World), Sk a 202 [(4, .pointer (some ⟨b14, 0, none⟩)), (5, .pointer (some ⟨b18, 0, none⟩)), (6, .pointer (some ⟨b21, 0, none⟩)), (7, .pointer (some ⟨b25, 0, none⟩)), (10, .pointer (some ⟨b111, 0, none⟩)), (48, v113), (50, v115), (52, v117), (53, (.agg #[.int .i64 x3.vars, v23]))] → Sep X64 N65 w69 w [bx b111 [.int .i64 0, (.slice none 0 0)] 58, ow (V := (Agg 2 RTemplate)) v113 (Template.mk x0.size x0.rels), ow (V := (Agg 2 RTemplate)) v115 (Template.mk x1.size x1.rels), ow (V := (Agg 1 RGadgets)) v117 (Gadgets.mk x2.formulas)] → ∀ ls, ls = #[true, true, true, true, true, true, true, false, false, false, false, false, false, true, false, false, false] → G 9 ls a w) ?_ (fun H118 => ?_)
 ·
  intro b111 v113 v115 v117 a w F H ls hls
  subst hls
  refine xE H 7 rfl (by kernel_rfl) (nTo (V := Agg 2 RInstance) F rfl Tryz.call30 rfl H (RInstance.m i22 (H.a (e67 h24))) (fun h => toInstance_any _ _ _ _ h.r h.m (toq_some c51)) fun a w v119 H F => x_end (x_tn (⟨⟨_, H⟩, ?_⟩)))
  exact H130 b111 v113 v115 v117 v119 _ _ (F.sub (sc rfl (sc rfl (sc rfl (sc rfl (sc rfl (sc rfl (sc rfl (sc rfl (sc rfl sn)))))))))) (H.s [1, 2, 3, 4, 0] rfl rfl) _ (by kernel_rfl)
 refine dp (fun G => ∀ (b103 : Nat) (v105 : Value) (v107 : Value) (a : Act) (w : World), Sk a 202 [(4, .pointer (some ⟨b14, 0, none⟩)), (5, .pointer (some ⟨b18, 0, none⟩)), (6, .pointer (some ⟨b21, 0, none⟩)), (7, .pointer (some ⟨b25, 0, none⟩)), (10, .pointer (some ⟨b103, 0, none⟩)), (48, v105), (50, v107), (51, (.agg #[v19])), (53, (.agg #[.int .i64 x3.vars, v23]))] → Sep X64 N65 w69 w [bx b103 [.int .i64 0, (.slice none 0 0)] 58, ow (V := (Agg 2 RTemplate)) v105 (Template.mk x0.size x0.rels), ow (V := (Agg 2 RTemplate)) v107 (Template.mk x1.size x1.rels)] → ∀ ls, ls = #[true, true, true, true, true, false, true, false, false, false, false, false, false, true, false, false, false] → G 10 ls a w) ?_ (fun H108 => ?_)
 ·
  intro b103 v105 v107 a w F H ls hls
  subst hls
  refine xE H 5 rfl (by kernel_rfl) (nTo (V := Agg 1 RGadgets) F rfl Tryz.call14 rfl H (RGadgets.m (H.a (e67 h20))) (fun h => toGadgets_any _ _ _ _ h.r h.m (toq_some c47)) fun a w v109 H F => x_end (x_tn (⟨⟨_, H⟩, ?_⟩)))
  exact H118 b103 v105 v107 v109 _ _ (F.sub (sc rfl (sc rfl (sc rfl (sc rfl (sc rfl (sc rfl (sc rfl (sc rfl (sc rfl sn)))))))))) (H.s [1, 2, 3, 0] rfl rfl) _ (by kernel_rfl)
 refine dp (fun G => ∀ (b97 : Nat) (v99 : Value) (a : Act) (w : World), Sk a 202 [(4, .pointer (some ⟨b14, 0, none⟩)), (5, .pointer (some ⟨b18, 0, none⟩)), (6, .pointer (some ⟨b21, 0, none⟩)), (7, .pointer (some ⟨b25, 0, none⟩)), (10, .pointer (some ⟨b97, 0, none⟩)), (48, v99), (49, (.agg #[.int .i64 x1.size, v16])), (51, (.agg #[v19])), (53, (.agg #[.int .i64 x3.vars, v23]))] → Sep X64 N65 w69 w [bx b97 [.int .i64 0, (.slice none 0 0)] 58, ow (V := (Agg 2 RTemplate)) v99 (Template.mk x0.size x0.rels)] → ∀ ls, ls = #[true, true, true, false, true, false, true, false, false, false, false, false, false, true, false, false, false] → G 11 ls a w) ?_ (fun H100 => ?_)
 ·
  intro b97 v99 a w F H ls hls
  subst hls
  refine xE H 3 rfl (by kernel_rfl) (nTo (V := Agg 2 RTemplate) F rfl Tryz.call13 rfl H (RTemplate.m i15 (H.a (e67 h17))) (fun h => toTemplate_any _ _ _ _ h.r h.m (toq_some c43)) fun a w v101 H F => x_end (x_tn (⟨⟨_, H⟩, ?_⟩)))
  exact H108 b97 v99 v101 _ _ (F.sub (sc rfl (sc rfl (sc rfl (sc rfl (sc rfl (sc rfl (sc rfl (sc rfl (sc rfl sn)))))))))) (H.s [1, 2, 0] rfl rfl) _ (by kernel_rfl)
 refine b_q 0 (by kernel_rfl) rfl (by kernel_rfl) (by kernel_rfl) (by kernel_rfl) (by kernel_rfl) (vBA Tryz.isAgg24 Tryz.sizeOf24 F rfl rfl (K73.v H.sm) rfl rfl fun a F => b_q 2 (by kernel_rfl) rfl (by kernel_rfl) (by kernel_rfl) (by kernel_rfl) (by kernel_rfl) (vBA Tryz.isAgg24 Tryz.sizeOf24 F rfl rfl (K72.v H.sm) rfl rfl fun a F => b_q 4 (by kernel_rfl) rfl (by kernel_rfl) (by kernel_rfl) (by kernel_rfl) (by kernel_rfl) (vBA Tryz.isAgg27 Tryz.sizeOf27 F rfl rfl (K71.v H.sm) rfl rfl fun a F => b_q 6 (by kernel_rfl) rfl (by kernel_rfl) (by kernel_rfl) (by kernel_rfl) (by kernel_rfl) (vBA Tryz.isAgg54 Tryz.sizeOf54 F rfl rfl (K70.v H.sm) rfl rfl fun a F => b_es [1, 13] (by kernel_rfl) (by simp) ⟨⟨_, rfl, ?_⟩, ⟨_, rfl, ?_⟩, trivial⟩))))
 ·
  refine xEs H (nTo (V := Agg 2 RTemplate) F rfl Tryz.call13 rfl H (RTemplate.m i11 (H.a (e67 h13))) (fun h => toTemplate_any _ _ _ _ h.r h.m (toq_some c39)) fun a w v74 H F => x_end (x_tn (⟨⟨_, H⟩, ?_⟩)))
  refine b_es [3, 13] (by kernel_rfl) (by simp) ⟨⟨_, rfl, ?_⟩, ⟨_, rfl, ?_⟩, trivial⟩
  ·
   refine xEs H (nTo (V := Agg 2 RTemplate) F rfl Tryz.call13 rfl H (RTemplate.m i15 (H.a (e67 h17))) (fun h => toTemplate_any _ _ _ _ h.r h.m (toq_some c43)) fun a w v76 H F => x_end (x_tn (⟨⟨_, H⟩, ?_⟩)))
   refine b_es [5, 13] (by kernel_rfl) (by simp) ⟨⟨_, rfl, ?_⟩, ⟨_, rfl, ?_⟩, trivial⟩
   ·
    refine xEs H (nTo (V := Agg 1 RGadgets) F rfl Tryz.call14 rfl H (RGadgets.m (H.a (e67 h20))) (fun h => toGadgets_any _ _ _ _ h.r h.m (toq_some c47)) fun a w v78 H F => x_end (x_tn (⟨⟨_, H⟩, ?_⟩)))
    refine b_es [7, 13] (by kernel_rfl) (by simp) ⟨⟨_, rfl, ?_⟩, ⟨_, rfl, ?_⟩, trivial⟩
    ·
     refine xEs H (nTo (V := Agg 2 RInstance) F rfl Tryz.call30 rfl H (RInstance.m i22 (H.a (e67 h24))) (fun h => toInstance_any _ _ _ _ h.r h.m (toq_some c51)) fun a w v80 H F => x_end (x_tn (⟨⟨_, H⟩, ?_⟩)))
     refine b_es [8, 13] (by kernel_rfl) (by simp) ⟨⟨_, rfl, ?_⟩, ⟨_, rfl, ?_⟩, trivial⟩
     ·
      refine xEs H (oG F rfl Tryz.call29 rfl (spec_ApplyGadgets_c z54 c55 _ aA (H.o 3 rfl) (H.o 2 rfl) (H.o 1 rfl) (H.o 0 rfl)) (fun a vv w ⟨v83, v85, hv88, S, i82, i87⟩ F => ?_))
      subst vv
      have H := H.rk S ⟨n0, ⟨n0, trivial⟩⟩ rfl
      refine x_end (x_tn (⟨⟨_, H⟩, ?_⟩))
      refine b_q0 9 rfl (by kernel_rfl) (by kernel_rfl) (by kernel_rfl) (v_val F rfl (fun w l => r_move F rfl) fun a F => b_q0 10 rfl (by kernel_rfl) (by kernel_rfl) (by kernel_rfl) (v_val F rfl (fun w l => r_extract F rfl rfl) fun a F => b_q0 11 rfl (by kernel_rfl) (by kernel_rfl) (by kernel_rfl) (v_val F rfl (fun w l => r_extract F rfl rfl) fun a F => b_q0 12 rfl (by kernel_rfl) (by kernel_rfl) (by kernel_rfl) (v_val F rfl (fun w l => r_extract F rfl rfl) fun a F => xE H 13 rfl (by kernel_rfl) (oA Tryz.zeroValue58 F rfl rfl H fun a w b89 H F => x_end ?_)))))
      refine x_tn (⟨⟨_, H⟩, ?_⟩)
      exact H145 b89 v83 v85 _ _ (F.sub (sc rfl (sc rfl (sc rfl (sc rfl (sc rfl (sc rfl (sc rfl (sc rfl sn))))))))) (H.s [0, 1, 2] rfl rfl) i82 i87 _ (by kernel_rfl)
     refine xEs H (oA Tryz.zeroValue58 F rfl rfl H fun a w b90 H F => x_end (x_tn (⟨⟨_, H⟩, ?_⟩)))
     exact H130 b90 v74 v76 v78 v80 _ _ (F.sub (sc rfl (sc rfl (sc rfl (sc rfl (sc rfl (sc rfl (sc rfl (sc rfl (sc rfl sn)))))))))) (H.s [0, 4, 3, 2, 1] rfl rfl) _ (by kernel_rfl)
    refine xEs H (oA Tryz.zeroValue58 F rfl rfl H fun a w b91 H F => x_end (x_tn (⟨⟨_, H⟩, ?_⟩)))
    exact H118 b91 v74 v76 v78 _ _ (F.sub (sc rfl (sc rfl (sc rfl (sc rfl (sc rfl (sc rfl (sc rfl (sc rfl (sc rfl sn)))))))))) (H.s [0, 3, 2, 1] rfl rfl) _ (by kernel_rfl)
   refine xEs H (oA Tryz.zeroValue58 F rfl rfl H fun a w b92 H F => x_end (x_tn (⟨⟨_, H⟩, ?_⟩)))
   exact H108 b92 v74 v76 _ _ (F.sub (sc rfl (sc rfl (sc rfl (sc rfl (sc rfl (sc rfl (sc rfl (sc rfl (sc rfl sn)))))))))) (H.s [0, 2, 1] rfl rfl) _ (by kernel_rfl)
  refine xEs H (oA Tryz.zeroValue58 F rfl rfl H fun a w b93 H F => x_end (x_tn (⟨⟨_, H⟩, ?_⟩)))
  exact H100 b93 v74 _ _ (F.sub (sc rfl (sc rfl (sc rfl (sc rfl (sc rfl (sc rfl (sc rfl (sc rfl (sc rfl sn)))))))))) H _ (by kernel_rfl)
 refine xEs H (oA Tryz.zeroValue58 F rfl rfl H fun a w b94 H F => x_end (x_tn (⟨⟨_, H⟩, ?_⟩)))
 refine xE H 1 rfl (by kernel_rfl) (nTo (V := Agg 2 RTemplate) F rfl Tryz.call13 rfl H (RTemplate.m i11 (H.a (e67 h13))) (fun h => toTemplate_any _ _ _ _ h.r h.m (toq_some c39)) fun a w v95 H F => x_end (x_tn (⟨⟨_, H⟩, ?_⟩)))
 exact H100 b94 v95 _ _ (F.sub (sc rfl (sc rfl (sc rfl (sc rfl (sc rfl (sc rfl (sc rfl (sc rfl (sc rfl sn)))))))))) (H.s [1, 0] rfl rfl) _ (by kernel_rfl)
end
end Go.Proofs.YtmgdjaiaekhkgaaGreat
