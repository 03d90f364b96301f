/-
  Laws of the program as plain functions, and that they compute them. Printed by slaw.py.
-/
import Derived.Test.YtmgdjaiaekhkgaaGreatS4
import Derived.Test.YtmgdjaiaekhkgaaGreatNY
import Derived.Test.YtmgdjaiaekhkgaaGreatL2
import Derived.Test.YtmgdjaiaekhkgaaGreatL3
namespace Go.Proofs.YtmgdjaiaekhkgaaGreat
set_option linter.unusedVariables false
set_option linter.unusedSimpArgs false
set_option maxRecDepth 100000
open Go.RowKit
noncomputable section
def laws_FnExactComposeGadgets (N : Nat) (x0 : Template) (x1 : Template) (x2 : Template) (x3 : Gadgets) (x4 : Gadgets) : Option Bool :=
 bnd (szq 1048576 ((Template.mk x0.size x0.rels).sz)) fun z29 =>
 if (decide (z29 < 0)) then
  some true
 else
  bnd (szq z29 ((Template.mk x1.size x1.rels).sz)) fun z32 =>
  if (decide (z32 < 0)) then
   some true
  else
   bnd (szq z32 ((Template.mk x2.size x2.rels).sz)) fun z35 =>
   if (decide (z35 < 0)) then
    some true
   else
    bnd (szq z35 ((Gadgets.mk x3.formulas).sz)) fun z38 =>
    if (decide (z38 < 0)) then
     some true
    else
     bnd (szq z38 ((Gadgets.mk x4.formulas).sz)) fun z41 =>
     if (decide (z41 < 0)) then
      some true
     else
      bnd (toq ((Template.mk x0.size x0.rels).sz)) fun z44 =>
      bnd (toq ((Template.mk x1.size x1.rels).sz)) fun z48 =>
      bnd (toq ((Template.mk x2.size x2.rels).sz)) fun z52 =>
      bnd (toq ((Gadgets.mk x3.formulas).sz)) fun z56 =>
      bnd (toq ((Gadgets.mk x4.formulas).sz)) fun z60 =>
      bnd (spec_ComposeGadgets N (Template.mk x0.size x0.rels) (Template.mk x1.size x1.rels) (Template.mk x2.size x2.rels) (Gadgets.mk x3.formulas) (Gadgets.mk x4.formulas)) fun z64 =>
      bnd (impl_ComposeGadgets N (Template.mk x0.size x0.rels) (Template.mk x1.size x1.rels) (Template.mk x2.size x2.rels) (Gadgets.mk x3.formulas) (Gadgets.mk x4.formulas)) fun z190 =>
      thn (σ := Bool) (
       bnd (eqq (Gadgets.mk z190.1.formulas) (Gadgets.mk z64.1.formulas)) fun z204 =>
       if (!z204) then  some (.nx true) else  some (.nx (z190.2 != z64.2))) fun s203 =>
      if s203 then
       some false
      else
       bnd (eqq (Template.mk x0.size x0.rels) (Template.mk x0.size x0.rels)) fun z210 =>
       if (!z210) then
        some false
       else
        bnd (eqq (Template.mk x1.size x1.rels) (Template.mk x1.size x1.rels)) fun z224 =>
        if (!z224) then
         some false
        else
         bnd (eqq (Template.mk x2.size x2.rels) (Template.mk x2.size x2.rels)) fun z238 =>
         if (!z238) then
          some false
         else
          bnd (eqq (Gadgets.mk x3.formulas) (Gadgets.mk x3.formulas)) fun z252 =>
          if (!z252) then
           some false
          else
           bnd (eqq (Gadgets.mk x4.formulas) (Gadgets.mk x4.formulas)) fun z266 =>
           if (!z266) then
            some false
           else
            bnd (mkq 1 ((Template.mk x0.size x0.rels).cnt)) fun z278 =>
            bnd (mkq z278 ((Template.mk x1.size x1.rels).cnt)) fun z280 =>
            bnd (mkq z280 ((Template.mk x2.size x2.rels).cnt)) fun z282 =>
            bnd (mkq z282 ((Gadgets.mk x3.formulas).cnt)) fun z284 =>
            bnd (mkq z284 ((Gadgets.mk x4.formulas).cnt)) fun z286 =>
            thn (σ := Bool) (
             if (decide (z286 < 0)) then  some (.nx true) else  bnd (eqq (Gadgets.mk z190.1.formulas) (Gadgets.mk z64.1.formulas)) fun z297 =>
              if (!z297) then  some (.nx true) else  some (.nx (z190.2 != z64.2))) fun s295 =>
            if s295 then
             some false
            else
             bnd (mkq 1 ((Gadgets.mk z190.1.formulas).cnt)) fun z302 =>
             if (decide (z302 < 0)) then
              some false
             else
              if (z302 != z302) then
               some false
              else
               thn (σ := Bool) (
                bnd (eqq (Gadgets.mk z190.1.formulas) (Gadgets.mk z64.1.formulas)) fun z414 =>
                if (!z414) then  some (.nx true) else  some (.nx (z190.2 != z64.2))) fun s413 =>
               if s413 then
                some false
               else
                if (decide (z302 < 0)) then
                 some false
                else
                 if (z302 != z302) then
                  some false
                 else
                  some true
set_option maxHeartbeats 1000000 in
theorem laws_FnExactComposeGadgets_c {B : Nat → Prop} {N : Nat} {x0 : Template} {x1 : Template} {x2 : Template} {x3 : Gadgets} {x4 : Gadgets} (r : Bool) (hR : laws_FnExactComposeGadgets N x0 x1 x2 x3 x4 = some r) {v0 : Value} {v1 : Value} {v2 : Value} {v3 : Value} {v4 : Value} (w0 : World) (hN : ∀ c, B c → c < w0.heap.size) (A0 : Bo B w0 (Agg 2 RTemplate) v0 x0) (A1 : Bo B w0 (Agg 2 RTemplate) v1 x1) (A2 : Bo B w0 (Agg 2 RTemplate) v2 x2) (A3 : Bo B w0 (Agg 1 RGadgets) v3 x3) (A4 : Bo B w0 (Agg 1 RGadgets) v4 x4) : Calls Tryz.prog 5 #[v0, v1, v2, v3, v4] w0 (Says (.bool r) w0) := by
 unfold laws_FnExactComposeGadgets at hR
 refine x_enter (L := [(0, v0), (1, v1), (2, v2), (3, v3), (4, v4)]) Tryz.func5 rfl rfl rfl (sc rfl (sc rfl (sc rfl (sc rfl (sc rfl sn))))) (fun a F => ?_)
 have H := Sep.start hN
 refine x_seq ?_
 refine x_reg ?_
 obtain ⟨v12, rfl, i11, h13⟩ := RTemplate.o A0
 refine oX F rfl rfl rfl H (fun a w b14 H F => ?_)
 obtain ⟨v16, rfl, i15, h17⟩ := RTemplate.o A1
 refine oX F rfl rfl rfl H (fun a w b18 H F => ?_)
 obtain ⟨v20, rfl, i19, h21⟩ := RTemplate.o A2
 refine oX F rfl rfl rfl H (fun a w b22 H F => ?_)
 obtain ⟨v23, rfl, h24⟩ := RGadgets.o A3
 refine oX F rfl rfl rfl H (fun a w b25 H F => ?_)
 obtain ⟨v26, rfl, h27⟩ := RGadgets.o A4
 refine oX F rfl rfl rfl H (fun a w b28 H F => ?_)
 refine o_assign F rfl rfl (fun a F => ?_)
 refine x_end ?_
 refine x_tn ?_
 refine x_seq ?_
 refine x_reg ?_
 refine o_assign F rfl rfl (fun a F => ?_)
 refine x_end ?_
 refine x_tn ?_
 refine x_seq ?_
 refine x_reg ?_
 refine oBA Tryz.isAgg24 Tryz.sizeOf24 F rfl rfl (H.b 4 rfl) rfl rfl (fun a F => ?_)
 refine o_move F rfl rfl (fun a F => ?_)
 obtain ⟨z29, c30, hR⟩ := bnd_some hR
 refine nSz (V := Agg 2 RTemplate) F rfl Tryz.call10 rfl H (RTemplate.m i11 (H.a h13)) c30 (fun h h0 h1 => szTemplate_any _ _ _ _ _ h.r h.m h0 h1) (fun a w H iz29 F => ?_)
 refine o_assign F rfl rfl (fun a F => ?_)
 refine x_end ?_
 refine x_tn ?_
 refine x_seq ?_
 refine x_seq ?_
 refine x_reg ?_
 refine o_move F rfl rfl (fun a F => ?_)
 refine o_lss F rfl rfl rfl (fun a F => ?_)
 refine x_end ?_
 refine x_tn ?_
 refine x_if F rfl (fun hb31 => ?_) (fun hb31 => ?_)
 ·
  replace hR := ifT hb31 hR
  refine x_seq ?_
  refine x_reg ?_
  refine o_assign F rfl rfl (fun a F => ?_)
  refine x_end ?_
  refine x_tn ?_
  refine x_ret ?_
  refine x_tr ?_
  refine x_res1 F rfl (rv_t F rfl) ?_
  obtain rfl := Option.some.inj hR
  exact ⟨rfl, H.bl⟩
 replace hR := ifF hb31 hR
 refine x_skip ?_
 refine x_tn ?_
 refine x_seq ?_
 refine x_reg ?_
 refine oBA Tryz.isAgg24 Tryz.sizeOf24 F rfl rfl (H.b 3 rfl) rfl rfl (fun a F => ?_)
 refine o_move F rfl rfl (fun a F => ?_)
 obtain ⟨z32, c33, hR⟩ := bnd_some hR
 refine nSz (V := Agg 2 RTemplate) F rfl Tryz.call10 rfl H (RTemplate.m i15 (H.a h17)) c33 (fun h h0 h1 => szTemplate_any _ _ _ _ _ h.r h.m h0 h1) (fun a w H iz32 F => ?_)
 refine o_assign F rfl rfl (fun a F => ?_)
 refine x_end ?_
 refine x_tn ?_
 refine x_seq ?_
 refine x_seq ?_
 refine x_reg ?_
 refine o_move F rfl rfl (fun a F => ?_)
 refine o_lss F rfl rfl rfl (fun a F => ?_)
 refine x_end ?_
 refine x_tn ?_
 refine x_if F rfl (fun hb34 => ?_) (fun hb34 => ?_)
 ·
  replace hR := ifT hb34 hR
  refine x_seq ?_
  refine x_reg ?_
  refine o_assign F rfl rfl (fun a F => ?_)
  refine x_end ?_
  refine x_tn ?_
  refine x_ret ?_
  refine x_tr ?_
  refine x_res1 F rfl (rv_t F rfl) ?_
  obtain rfl := Option.some.inj hR
  exact ⟨rfl, H.bl⟩
 replace hR := ifF hb34 hR
 refine x_skip ?_
 refine x_tn ?_
 refine x_seq ?_
 refine x_reg ?_
 refine oBA Tryz.isAgg24 Tryz.sizeOf24 F rfl rfl (H.b 2 rfl) rfl rfl (fun a F => ?_)
 refine o_move F rfl rfl (fun a F => ?_)
 obtain ⟨z35, c36, hR⟩ := bnd_some hR
 refine nSz (V := Agg 2 RTemplate) F rfl Tryz.call10 rfl H (RTemplate.m i19 (H.a h21)) c36 (fun h h0 h1 => szTemplate_any _ _ _ _ _ h.r h.m h0 h1) (fun a w H iz35 F => ?_)
 refine o_assign F rfl rfl (fun a F => ?_)
 refine x_end ?_
 refine x_tn ?_
 refine x_seq ?_
 refine x_seq ?_
 refine x_reg ?_
 refine o_move F rfl rfl (fun a F => ?_)
 refine o_lss F rfl rfl rfl (fun a F => ?_)
 refine x_end ?_
 refine x_tn ?_
 refine x_if F rfl (fun hb37 => ?_) (fun hb37 => ?_)
 ·
  replace hR := ifT hb37 hR
  refine x_seq ?_
  refine x_reg ?_
  refine o_assign F rfl rfl (fun a F => ?_)
  refine x_end ?_
  refine x_tn ?_
  refine x_ret ?_
  refine x_tr ?_
  refine x_res1 F rfl (rv_t F rfl) ?_
  obtain rfl := Option.some.inj hR
  exact ⟨rfl, H.bl⟩
 replace hR := ifF hb37 hR
 refine x_skip ?_
 refine x_tn ?_
 refine x_seq ?_
 refine x_reg ?_
 refine oBA Tryz.isAgg27 Tryz.sizeOf27 F rfl rfl (H.b 1 rfl) rfl rfl (fun a F => ?_)
 refine o_move F rfl rfl (fun a F => ?_)
 obtain ⟨z38, c39, hR⟩ := bnd_some hR
 refine nSz (V := Agg 1 RGadgets) F rfl Tryz.call11 rfl H (RGadgets.m (H.a h24)) c39 (fun h h0 h1 => szGadgets_any _ _ _ _ _ h.r h.m h0 h1) (fun a w H iz38 F => ?_)
 refine o_assign F rfl rfl (fun a F => ?_)
 refine x_end ?_
 refine x_tn ?_
 refine x_seq ?_
 refine x_seq ?_
 refine x_reg ?_
 refine o_move F rfl rfl (fun a F => ?_)
 refine o_lss F rfl rfl rfl (fun a F => ?_)
 refine x_end ?_
 refine x_tn ?_
 refine x_if F rfl (fun hb40 => ?_) (fun hb40 => ?_)
 ·
  replace hR := ifT hb40 hR
  refine x_seq ?_
  refine x_reg ?_
  refine o_assign F rfl rfl (fun a F => ?_)
  refine x_end ?_
  refine x_tn ?_
  refine x_ret ?_
  refine x_tr ?_
  refine x_res1 F rfl (rv_t F rfl) ?_
  obtain rfl := Option.some.inj hR
  exact ⟨rfl, H.bl⟩
 replace hR := ifF hb40 hR
 refine x_skip ?_
 refine x_tn ?_
 refine x_seq ?_
 refine x_reg ?_
 refine oBA Tryz.isAgg27 Tryz.sizeOf27 F rfl rfl (H.b 0 rfl) rfl rfl (fun a F => ?_)
 refine o_move F rfl rfl (fun a F => ?_)
 obtain ⟨z41, c42, hR⟩ := bnd_some hR
 refine nSz (V := Agg 1 RGadgets) F rfl Tryz.call11 rfl H (RGadgets.m (H.a h27)) c42 (fun h h0 h1 => szGadgets_any _ _ _ _ _ h.r h.m h0 h1) (fun a w H iz41 F => ?_)
 refine o_assign F rfl rfl (fun a F => ?_)
 refine x_end ?_
 refine x_tn ?_
 refine x_seq ?_
 refine x_seq ?_
 refine x_reg ?_
 refine o_move F rfl rfl (fun a F => ?_)
 refine o_lss F rfl rfl rfl (fun a F => ?_)
 refine x_end ?_
 refine x_tn ?_
 refine x_if F rfl (fun hb43 => ?_) (fun hb43 => ?_)
 ·
  replace hR := ifT hb43 hR
  refine x_seq ?_
  refine x_reg ?_
  refine o_assign F rfl rfl (fun a F => ?_)
  refine x_end ?_
  refine x_tn ?_
  refine x_ret ?_
  refine x_tr ?_
  refine x_res1 F rfl (rv_t F rfl) ?_
  obtain rfl := Option.some.inj hR
  exact ⟨rfl, H.bl⟩
 replace hR := ifF hb43 hR
 refine x_skip ?_
 refine x_tn ?_
 refine x_seq ?_
 obtain ⟨z44, c45, hR⟩ := bnd_some hR
 obtain ⟨z48, c49, hR⟩ := bnd_some hR
 obtain ⟨z52, c53, hR⟩ := bnd_some hR
 obtain ⟨z56, c57, hR⟩ := bnd_some hR
 obtain ⟨z60, c61, hR⟩ := bnd_some hR
 obtain ⟨z64, c65, hR⟩ := bnd_some hR
 obtain ⟨w76, rfl⟩ : ∃ x, x = w := ⟨_, rfl⟩
 obtain ⟨X71, N72, g73, e74, H, th75⟩ := H.mg.mg.mg.mg.fz
 have K77 := g73.l.l.l.l.bk
 have K78 := g73.l.l.l.r.bk
 have K79 := g73.l.l.r.bk
 have K80 := g73.l.r.bk
 have K81 := g73.r.bk
 refine xD H (by kernel_rfl) (fun w H => ?_)
 refine dp (fun G => ∀ (b157 : Nat) (v159 : Value) (a : Act) (w : World), Sk a 188 [(5, .pointer (some ⟨b14, 0, none⟩)), (6, .pointer (some ⟨b18, 0, none⟩)), (7, .pointer (some ⟨b22, 0, none⟩)), (8, .pointer (some ⟨b25, 0, none⟩)), (9, .pointer (some ⟨b28, 0, none⟩)), (12, .pointer (some ⟨b157, 0, none⟩)), (63, (.agg #[v159])), (64, .int .i64 z64.2)] → Sep X71 N72 w76 w [bx b157 [(.slice none 0 0)] 37, rl 3 RFormula 95 v159 z64.1.formulas] → I64 z64.2 → ∀ ls, ls = #[true, true, true, true, true, true, true, true, true, true, true, true, true, true, true, false, false] → G 2 ls a w) ?_ (fun H161 => ?_)
 ·
  intro b157 v159 a w F H i160 ls hls
  subst hls
  refine xE H 15 rfl (by kernel_rfl) ?_
  refine oWA (vs := [v159]) Tryz.sizeOf37 F rfl rfl rfl H (oc (H.l 1 rfl).one on) rfl rfl (fun w H => ?_)
  refine x_end ?_
  refine x_tn ?_
  refine ⟨⟨_, H⟩, ?_⟩
  refine b_q0 16 rfl (by kernel_rfl) (by kernel_rfl) (by kernel_rfl) ?_
  refine v_val F rfl (fun w l => r_assign F rfl) (fun a F => ?_)
  refine b_end (by kernel_rfl) ?_
  refine x_tn ?_
  refine x_seq ?_
  refine x_reg ?_
  refine oBA Tryz.isAgg24 Tryz.sizeOf24 F rfl rfl (K81.o H.sm) rfl rfl (fun a F => ?_)
  refine nTo (V := Agg 2 RTemplate) F rfl Tryz.call13 rfl H (RTemplate.m i11 (H.a (e74 h13))) (fun h => toTemplate_any _ _ _ _ h.r h.m (toq_some c45)) (fun a w v162 H F => ?_)
  refine oA Tryz.zeroValue33 F rfl rfl H (fun a w b164 H F => ?_)
  obtain ⟨v166, rfl, i165, h167⟩ := RTemplate.o (H.o 1 rfl)
  refine oWA (vs := [.int .i64 ((Template.mk x0.size x0.rels).size), v166]) Tryz.sizeOf33 F rfl rfl rfl H (oc rfl (oc h167.one on)) rfl rfl (fun w H => ?_)
  refine x_end ?_
  refine x_tn ?_
  refine x_seq ?_
  refine x_reg ?_
  refine oBA Tryz.isAgg24 Tryz.sizeOf24 F rfl rfl (K80.o H.sm) rfl rfl (fun a F => ?_)
  refine nTo (V := Agg 2 RTemplate) F rfl Tryz.call13 rfl H (RTemplate.m i15 (H.a (e74 h17))) (fun h => toTemplate_any _ _ _ _ h.r h.m (toq_some c49)) (fun a w v168 H F => ?_)
  refine oA Tryz.zeroValue33 F rfl rfl H (fun a w b170 H F => ?_)
  obtain ⟨v172, rfl, i171, h173⟩ := RTemplate.o (H.o 1 rfl)
  refine oWA (vs := [.int .i64 ((Template.mk x1.size x1.rels).size), v172]) Tryz.sizeOf33 F rfl rfl rfl H (oc rfl (oc h173.one on)) rfl rfl (fun w H => ?_)
  refine x_end ?_
  refine x_tn ?_
  refine x_seq ?_
  refine x_reg ?_
  refine oBA Tryz.isAgg24 Tryz.sizeOf24 F rfl rfl (K79.o H.sm) rfl rfl (fun a F => ?_)
  refine nTo (V := Agg 2 RTemplate) F rfl Tryz.call13 rfl H (RTemplate.m i19 (H.a (e74 h21))) (fun h => toTemplate_any _ _ _ _ h.r h.m (toq_some c53)) (fun a w v174 H F => ?_)
  refine oA Tryz.zeroValue33 F rfl rfl H (fun a w b176 H F => ?_)
  obtain ⟨v178, rfl, i177, h179⟩ := RTemplate.o (H.o 1 rfl)
  refine oWA (vs := [.int .i64 ((Template.mk x2.size x2.rels).size), v178]) Tryz.sizeOf33 F rfl rfl rfl H (oc rfl (oc h179.one on)) rfl rfl (fun w H => ?_)
  refine x_end ?_
  refine x_tn ?_
  refine x_seq ?_
  refine x_reg ?_
  refine oBA Tryz.isAgg27 Tryz.sizeOf27 F rfl rfl (K78.o H.sm) rfl rfl (fun a F => ?_)
  refine nTo (V := Agg 1 RGadgets) F rfl Tryz.call14 rfl H (RGadgets.m (H.a (e74 h24))) (fun h => toGadgets_any _ _ _ _ h.r h.m (toq_some c57)) (fun a w v180 H F => ?_)
  refine oA Tryz.zeroValue37 F rfl rfl H (fun a w b182 H F => ?_)
  obtain ⟨v183, rfl, h184⟩ := RGadgets.o (H.o 1 rfl)
  refine oWA (vs := [v183]) Tryz.sizeOf37 F rfl rfl rfl H (oc h184.one on) rfl rfl (fun w H => ?_)
  refine x_end ?_
  refine x_tn ?_
  refine x_seq ?_
  refine x_reg ?_
  refine oBA Tryz.isAgg27 Tryz.sizeOf27 F rfl rfl (K77.o H.sm) rfl rfl (fun a F => ?_)
  refine nTo (V := Agg 1 RGadgets) F rfl Tryz.call14 rfl H (RGadgets.m (H.a (e74 h27))) (fun h => toGadgets_any _ _ _ _ h.r h.m (toq_some c61)) (fun a w v185 H F => ?_)
  refine oA Tryz.zeroValue37 F rfl rfl H (fun a w b187 H F => ?_)
  obtain ⟨v188, rfl, h189⟩ := RGadgets.o (H.o 1 rfl)
  refine oWA (vs := [v188]) Tryz.sizeOf37 F rfl rfl rfl H (oc h189.one on) rfl rfl (fun w H => ?_)
  refine x_end ?_
  refine x_tn ?_
  refine x_seq ?_
  refine x_reg ?_
  refine oBA Tryz.isAgg33 Tryz.sizeOf33 F rfl rfl (H.b 8 rfl) rfl rfl (fun a F => ?_)
  refine oBA Tryz.isAgg33 Tryz.sizeOf33 F rfl rfl (H.b 6 rfl) rfl rfl (fun a F => ?_)
  refine oBA Tryz.isAgg33 Tryz.sizeOf33 F rfl rfl (H.b 4 rfl) rfl rfl (fun a F => ?_)
  refine oBA Tryz.isAgg37 Tryz.sizeOf37 F rfl rfl (H.b 2 rfl) rfl rfl (fun a F => ?_)
  refine oBA Tryz.isAgg37 Tryz.sizeOf37 F rfl rfl (H.b 0 rfl) rfl rfl (fun a F => ?_)
  obtain ⟨z190, c191, hR⟩ := bnd_some hR
  refine oG F rfl Tryz.call26 rfl (impl_ComposeGadgets_c z190 c191 _ aA (H.o 9 rfl) (H.o 7 rfl) (H.o 5 rfl) (H.o 3 rfl) (H.o 1 rfl)) (fun a vv w ⟨v192, hv195, S, i194⟩ F => ?_)
  subst vv
  have H := H.r1 S n0
  refine o_move F rfl rfl (fun a F => ?_)
  refine o_extract F rfl rfl rfl (fun a F => ?_)
  refine o_extract F rfl rfl rfl (fun a F => ?_)
  refine oA Tryz.zeroValue37 F rfl rfl H (fun a w b196 H F => ?_)
  refine oWA (vs := [v192]) Tryz.sizeOf37 F rfl rfl rfl H (oc (H.l 1 rfl).one on) rfl rfl (fun w H => ?_)
  refine o_assign F rfl rfl (fun a F => ?_)
  refine x_end ?_
  refine x_tn ?_
  refine x_seq ?_
  refine x_seq ?_
  obtain ⟨o200, hR, hk201⟩ := thn_some hR
  refine x_cutQ (fun a w => ∃ (s203 : Bool), o200 = .nx s203 ∧ Sk a 188 [(5, .pointer (some ⟨b14, 0, none⟩)), (6, .pointer (some ⟨b18, 0, none⟩)), (7, .pointer (some ⟨b22, 0, none⟩)), (8, .pointer (some ⟨b25, 0, none⟩)), (9, .pointer (some ⟨b28, 0, none⟩)), (12, .pointer (some ⟨b157, 0, none⟩)), (13, .int .i64 z64.2), (14, .pointer (some ⟨b164, 0, none⟩)), (15, .pointer (some ⟨b170, 0, none⟩)), (16, .pointer (some ⟨b176, 0, none⟩)), (17, .pointer (some ⟨b182, 0, none⟩)), (18, .pointer (some ⟨b187, 0, none⟩)), (19, .pointer (some ⟨b196, 0, none⟩)), (20, .int .i64 z190.2), (92, .bool s203)] ∧ Sep X71 N72 w76 w [bx b196 [v192] 37, rl 3 RFormula 95 v192 z190.1.formulas, bx b187 [v188] 37, ow (V := (Agg 1 RGadgets)) (.agg #[v188]) (Gadgets.mk x4.formulas), bx b182 [v183] 37, ow (V := (Agg 1 RGadgets)) (.agg #[v183]) (Gadgets.mk x3.formulas), bx b176 [.int .i64 ((Template.mk x2.size x2.rels).size), v178] 33, ow (V := (Agg 2 RTemplate)) (.agg #[.int .i64 ((Template.mk x2.size x2.rels).size), v178]) (Template.mk x2.size x2.rels), bx b170 [.int .i64 ((Template.mk x1.size x1.rels).size), v172] 33, ow (V := (Agg 2 RTemplate)) (.agg #[.int .i64 ((Template.mk x1.size x1.rels).size), v172]) (Template.mk x1.size x1.rels), bx b164 [.int .i64 ((Template.mk x0.size x0.rels).size), v166] 33, ow (V := (Agg 2 RTemplate)) (.agg #[.int .i64 ((Template.mk x0.size x0.rels).size), v166]) (Template.mk x0.size x0.rels), bx b157 [v159] 37, rl 3 RFormula 95 v159 z64.1.formulas]) ?_ ?_
  ·
   refine x_reg ?_
   refine oBA Tryz.isAgg37 Tryz.sizeOf37 F rfl rfl (H.b 0 rfl) rfl rfl (fun a F => ?_)
   refine oBA Tryz.isAgg37 Tryz.sizeOf37 F rfl rfl (H.b 12 rfl) rfl rfl (fun a F => ?_)
   obtain ⟨z204, c205, hR⟩ := bnd_some hR
   refine nEq (V := Agg 1 RGadgets) F rfl Tryz.call17 rfl H (RGadgets.m (H.l 1 rfl)) (RGadgets.m (H.l 13 rfl)) c205 (fun h g => eqGadgets_any _ _ _ _ _ _ h.r g.r h.m g.m) (fun a w H F => ?_)
   refine o_not F rfl rfl (fun a F => ?_)
   refine o_move F rfl rfl (fun a F => ?_)
   rcases bcases (!z204) with hb206 | hb206
   ·
    replace hR := ifT hb206 hR
    have F := F.eq (t := 88) rfl (congrArg Value.bool hb206)
    refine o_no F rfl rfl (fun a F => ?_)
    refine o_no F rfl rfl (fun a F => ?_)
    refine o_no F rfl rfl (fun a F => ?_)
    refine o_pickt F rfl rfl rfl (fun a F => ?_)
    refine x_end ?_
    refine x_tn ?_
    exact ⟨true, (Option.some.inj hR).symm, F.sub (sc rfl (sc rfl (sc rfl (sc rfl (sc rfl (sc rfl (sc rfl (sc rfl (sc rfl (sc rfl (sc rfl (sc rfl (sc rfl (sc rfl (sc rfl sn))))))))))))))), H⟩
   replace hR := ifF hb206 hR
   have F := F.eq (t := 88) rfl (congrArg Value.bool hb206)
   refine o_move F rfl rfl (fun a F => ?_)
   refine o_move F rfl rfl (fun a F => ?_)
   refine o_neq F rfl rfl rfl (fun a F => ?_)
   refine o_pickf F rfl rfl rfl (fun a F => ?_)
   refine x_end ?_
   refine x_tn ?_
   exact ⟨(z190.2 != z64.2), (Option.some.inj hR).symm, F.sub (sc rfl (sc rfl (sc rfl (sc rfl (sc rfl (sc rfl (sc rfl (sc rfl (sc rfl (sc rfl (sc rfl (sc rfl (sc rfl (sc rfl (sc rfl sn))))))))))))))), H⟩
  intro a w ⟨s203, ho202, F, H⟩
  subst ho202
  have hR := then_nx hk201
  refine x_tn ?_
  refine x_if F rfl (fun hb207 => ?_) (fun hb207 => ?_)
  ·
   replace hR := ifT hb207 hR
   refine x_seq ?_
   refine x_reg ?_
   refine o_assign F rfl rfl (fun a F => ?_)
   refine x_end ?_
   refine x_tn ?_
   refine x_ret ?_
   refine x_tr ?_
   have H := (th75.1 H (Ns.all ⟨n0, ⟨n0, ⟨n0, ⟨n0, ⟨n0, ⟨n0, ⟨n0, ⟨n0, ⟨n0, ⟨n0, ⟨n0, ⟨n0, ⟨n0, ⟨n0, trivial⟩⟩⟩⟩⟩⟩⟩⟩⟩⟩⟩⟩⟩⟩)).um.um.um.um
   refine x_res1 F rfl (rv_t F rfl) ?_
   obtain rfl := Option.some.inj hR
   exact ⟨rfl, H.bl⟩
  replace hR := ifF hb207 hR
  refine x_skip ?_
  refine x_tn ?_
  refine x_seq ?_
  refine x_seq ?_
  obtain ⟨z210, c211, hR⟩ := bnd_some hR
  obtain ⟨w217, rfl⟩ : ∃ x, x = w := ⟨_, rfl⟩
  obtain ⟨X212, N213, g214, e215, H, th216⟩ := (H.s [10, 0, 1, 2, 3, 4, 5, 6, 7, 8, 9, 11, 12, 13] rfl rfl).fz
  have K218 := g214.bk
  refine xD H (by kernel_rfl) (fun w H => ?_)
  refine b_q 0 (by kernel_rfl) rfl (by kernel_rfl) (by kernel_rfl) (by kernel_rfl) (by kernel_rfl) ?_
  refine vBA Tryz.isAgg33 Tryz.sizeOf33 F rfl rfl (K218.v H.sm) rfl rfl (fun a F => ?_)
  refine b_q 1 (by kernel_rfl) rfl (by kernel_rfl) (by kernel_rfl) (by kernel_rfl) (by kernel_rfl) ?_
  refine vBA Tryz.isAgg24 Tryz.sizeOf24 F rfl rfl ((K81.lf e215).v H.sm) rfl rfl (fun a F => ?_)
  refine xE H 2 rfl (by kernel_rfl) ?_
  refine nTo (V := Agg 2 RTemplate) F rfl Tryz.call13 rfl H (RTemplate.m i11 (H.a (e215 (e74 h13)))) (fun h => toTemplate_any _ _ _ _ h.r h.m (toq_some c45)) (fun a w v219 H F => ?_)
  refine x_end ?_
  refine x_tn ?_
  refine ⟨⟨_, H⟩, ?_⟩
  refine xE H 3 rfl (by kernel_rfl) ?_
  refine nEq (V := Agg 2 RTemplate) F rfl Tryz.call16 rfl H (H.o 11 rfl) (H.o 0 rfl) c211 (fun h g => eqTemplate_any _ _ _ _ _ _ h.r g.r h.m g.m) (fun a w H F => ?_)
  refine x_end ?_
  refine x_tn ?_
  refine ⟨⟨_, H⟩, ?_⟩
  refine b_q0 4 rfl (by kernel_rfl) (by kernel_rfl) (by kernel_rfl) ?_
  refine v_val F rfl (fun w l => r_not F rfl) (fun a F => ?_)
  refine b_end (by kernel_rfl) ?_
  refine x_tn ?_
  refine x_if F rfl (fun hb221 => ?_) (fun hb221 => ?_)
  ·
   replace hR := ifT hb221 hR
   refine x_seq ?_
   refine x_reg ?_
   refine o_assign F rfl rfl (fun a F => ?_)
   refine x_end ?_
   refine x_tn ?_
   refine x_ret ?_
   refine x_tr ?_
   have H := (th75.1 (th216.1 H (Ns.all ⟨n0, ⟨n0, ⟨n0, ⟨n0, ⟨n0, ⟨n0, ⟨n0, ⟨n0, ⟨n0, ⟨n0, ⟨n0, ⟨n0, ⟨n0, ⟨n0, trivial⟩⟩⟩⟩⟩⟩⟩⟩⟩⟩⟩⟩⟩⟩)) (Ns.all ⟨n0, ⟨n0, ⟨n0, ⟨n0, ⟨n0, ⟨n0, ⟨n0, ⟨n0, ⟨n0, ⟨n0, ⟨n0, ⟨n0, ⟨n0, ⟨n0, ⟨n0, trivial⟩⟩⟩⟩⟩⟩⟩⟩⟩⟩⟩⟩⟩⟩⟩)).um.um.um.um
   refine x_res1 F rfl (rv_t F rfl) ?_
   obtain rfl := Option.some.inj hR
   exact ⟨rfl, H.bl⟩
  replace hR := ifF hb221 hR
  refine x_skip ?_
  refine x_tn ?_
  refine x_seq ?_
  refine x_seq ?_
  obtain ⟨z224, c225, hR⟩ := bnd_some hR
  obtain ⟨w231, rfl⟩ : ∃ x, x = w := ⟨_, rfl⟩
  obtain ⟨X226, N227, g228, e229, H, th230⟩ := (H.s [9, 0, 1, 2, 3, 4, 5, 6, 7, 8, 10, 11, 12, 13] rfl rfl).fz
  have K232 := g228.bk
  refine xD H (by kernel_rfl) (fun w H => ?_)
  refine b_q 0 (by kernel_rfl) rfl (by kernel_rfl) (by kernel_rfl) (by kernel_rfl) (by kernel_rfl) ?_
  refine vBA Tryz.isAgg33 Tryz.sizeOf33 F rfl rfl (K232.v H.sm) rfl rfl (fun a F => ?_)
  refine b_q 1 (by kernel_rfl) rfl (by kernel_rfl) (by kernel_rfl) (by kernel_rfl) (by kernel_rfl) ?_
  refine vBA Tryz.isAgg24 Tryz.sizeOf24 F rfl rfl (((K80.lf e215).lf e229).v H.sm) rfl rfl (fun a F => ?_)
  refine xE H 2 rfl (by kernel_rfl) ?_
  refine nTo (V := Agg 2 RTemplate) F rfl Tryz.call13 rfl H (RTemplate.m i15 (H.a (e229 (e215 (e74 h17))))) (fun h => toTemplate_any _ _ _ _ h.r h.m (toq_some c49)) (fun a w v233 H F => ?_)
  refine x_end ?_
  refine x_tn ?_
  refine ⟨⟨_, H⟩, ?_⟩
  refine xE H 3 rfl (by kernel_rfl) ?_
  refine nEq (V := Agg 2 RTemplate) F rfl Tryz.call16 rfl H (H.o 10 rfl) (H.o 0 rfl) c225 (fun h g => eqTemplate_any _ _ _ _ _ _ h.r g.r h.m g.m) (fun a w H F => ?_)
  refine x_end ?_
  refine x_tn ?_
  refine ⟨⟨_, H⟩, ?_⟩
  refine b_q0 4 rfl (by kernel_rfl) (by kernel_rfl) (by kernel_rfl) ?_
  refine v_val F rfl (fun w l => r_not F rfl) (fun a F => ?_)
  refine b_end (by kernel_rfl) ?_
  refine x_tn ?_
  refine x_if F rfl (fun hb235 => ?_) (fun hb235 => ?_)
  ·
   replace hR := ifT hb235 hR
   refine x_seq ?_
   refine x_reg ?_
   refine o_assign F rfl rfl (fun a F => ?_)
   refine x_end ?_
   refine x_tn ?_
   refine x_ret ?_
   refine x_tr ?_
   have H := (th75.1 (th216.1 (th230.1 H (Ns.all ⟨n0, ⟨n0, ⟨n0, ⟨n0, ⟨n0, ⟨n0, ⟨n0, ⟨n0, ⟨n0, ⟨n0, ⟨n0, ⟨n0, ⟨n0, ⟨n0, trivial⟩⟩⟩⟩⟩⟩⟩⟩⟩⟩⟩⟩⟩⟩)) (Ns.all ⟨n0, ⟨n0, ⟨n0, ⟨n0, ⟨n0, ⟨n0, ⟨n0, ⟨n0, ⟨n0, ⟨n0, ⟨n0, ⟨n0, ⟨n0, ⟨n0, ⟨n0, trivial⟩⟩⟩⟩⟩⟩⟩⟩⟩⟩⟩⟩⟩⟩⟩)) (Ns.all ⟨n0, ⟨n0, ⟨n0, ⟨n0, ⟨n0, ⟨n0, ⟨n0, ⟨n0, ⟨n0, ⟨n0, ⟨n0, ⟨n0, ⟨n0, ⟨n0, ⟨n0, ⟨n0, trivial⟩⟩⟩⟩⟩⟩⟩⟩⟩⟩⟩⟩⟩⟩⟩⟩)).um.um.um.um
   refine x_res1 F rfl (rv_t F rfl) ?_
   obtain rfl := Option.some.inj hR
   exact ⟨rfl, H.bl⟩
  replace hR := ifF hb235 hR
  refine x_skip ?_
  refine x_tn ?_
  refine x_seq ?_
  refine x_seq ?_
  obtain ⟨z238, c239, hR⟩ := bnd_some hR
  obtain ⟨w245, rfl⟩ : ∃ x, x = w := ⟨_, rfl⟩
  obtain ⟨X240, N241, g242, e243, H, th244⟩ := (H.s [8, 0, 1, 2, 3, 4, 5, 6, 7, 9, 10, 11, 12, 13] rfl rfl).fz
  have K246 := g242.bk
  refine xD H (by kernel_rfl) (fun w H => ?_)
  refine b_q 0 (by kernel_rfl) rfl (by kernel_rfl) (by kernel_rfl) (by kernel_rfl) (by kernel_rfl) ?_
  refine vBA Tryz.isAgg33 Tryz.sizeOf33 F rfl rfl (K246.v H.sm) rfl rfl (fun a F => ?_)
  refine b_q 1 (by kernel_rfl) rfl (by kernel_rfl) (by kernel_rfl) (by kernel_rfl) (by kernel_rfl) ?_
  refine vBA Tryz.isAgg24 Tryz.sizeOf24 F rfl rfl ((((K79.lf e215).lf e229).lf e243).v H.sm) rfl rfl (fun a F => ?_)
  refine xE H 2 rfl (by kernel_rfl) ?_
  refine nTo (V := Agg 2 RTemplate) F rfl Tryz.call13 rfl H (RTemplate.m i19 (H.a (e243 (e229 (e215 (e74 h21)))))) (fun h => toTemplate_any _ _ _ _ h.r h.m (toq_some c53)) (fun a w v247 H F => ?_)
  refine x_end ?_
  refine x_tn ?_
  refine ⟨⟨_, H⟩, ?_⟩
  refine xE H 3 rfl (by kernel_rfl) ?_
  refine nEq (V := Agg 2 RTemplate) F rfl Tryz.call16 rfl H (H.o 9 rfl) (H.o 0 rfl) c239 (fun h g => eqTemplate_any _ _ _ _ _ _ h.r g.r h.m g.m) (fun a w H F => ?_)
  refine x_end ?_
  refine x_tn ?_
  refine ⟨⟨_, H⟩, ?_⟩
  refine b_q0 4 rfl (by kernel_rfl) (by kernel_rfl) (by kernel_rfl) ?_
  refine v_val F rfl (fun w l => r_not F rfl) (fun a F => ?_)
  refine b_end (by kernel_rfl) ?_
  refine x_tn ?_
  refine x_if F rfl (fun hb249 => ?_) (fun hb249 => ?_)
  ·
   replace hR := ifT hb249 hR
   refine x_seq ?_
   refine x_reg ?_
   refine o_assign F rfl rfl (fun a F => ?_)
   refine x_end ?_
   refine x_tn ?_
   refine x_ret ?_
   refine x_tr ?_
   have H := (th75.1 (th216.1 (th230.1 (th244.1 H (Ns.all ⟨n0, ⟨n0, ⟨n0, ⟨n0, ⟨n0, ⟨n0, ⟨n0, ⟨n0, ⟨n0, ⟨n0, ⟨n0, ⟨n0, ⟨n0, ⟨n0, trivial⟩⟩⟩⟩⟩⟩⟩⟩⟩⟩⟩⟩⟩⟩)) (Ns.all ⟨n0, ⟨n0, ⟨n0, ⟨n0, ⟨n0, ⟨n0, ⟨n0, ⟨n0, ⟨n0, ⟨n0, ⟨n0, ⟨n0, ⟨n0, ⟨n0, ⟨n0, trivial⟩⟩⟩⟩⟩⟩⟩⟩⟩⟩⟩⟩⟩⟩⟩)) (Ns.all ⟨n0, ⟨n0, ⟨n0, ⟨n0, ⟨n0, ⟨n0, ⟨n0, ⟨n0, ⟨n0, ⟨n0, ⟨n0, ⟨n0, ⟨n0, ⟨n0, ⟨n0, ⟨n0, trivial⟩⟩⟩⟩⟩⟩⟩⟩⟩⟩⟩⟩⟩⟩⟩⟩)) (Ns.all ⟨n0, ⟨n0, ⟨n0, ⟨n0, ⟨n0, ⟨n0, ⟨n0, ⟨n0, ⟨n0, ⟨n0, ⟨n0, ⟨n0, ⟨n0, ⟨n0, ⟨n0, ⟨n0, ⟨n0, trivial⟩⟩⟩⟩⟩⟩⟩⟩⟩⟩⟩⟩⟩⟩⟩⟩⟩)).um.um.um.um
   refine x_res1 F rfl (rv_t F rfl) ?_
   obtain rfl := Option.some.inj hR
   exact ⟨rfl, H.bl⟩
  replace hR := ifF hb249 hR
  refine x_skip ?_
  refine x_tn ?_
  refine x_seq ?_
  refine x_seq ?_
  obtain ⟨z252, c253, hR⟩ := bnd_some hR
  obtain ⟨w259, rfl⟩ : ∃ x, x = w := ⟨_, rfl⟩
  obtain ⟨X254, N255, g256, e257, H, th258⟩ := (H.s [7, 0, 1, 2, 3, 4, 5, 6, 8, 9, 10, 11, 12, 13] rfl rfl).fz
  have K260 := g256.bk
  refine xD H (by kernel_rfl) (fun w H => ?_)
  refine b_q 0 (by kernel_rfl) rfl (by kernel_rfl) (by kernel_rfl) (by kernel_rfl) (by kernel_rfl) ?_
  refine vBA Tryz.isAgg37 Tryz.sizeOf37 F rfl rfl (K260.v H.sm) rfl rfl (fun a F => ?_)
  refine b_q 1 (by kernel_rfl) rfl (by kernel_rfl) (by kernel_rfl) (by kernel_rfl) (by kernel_rfl) ?_
  refine vBA Tryz.isAgg27 Tryz.sizeOf27 F rfl rfl (((((K78.lf e215).lf e229).lf e243).lf e257).v H.sm) rfl rfl (fun a F => ?_)
  refine xE H 2 rfl (by kernel_rfl) ?_
  refine nTo (V := Agg 1 RGadgets) F rfl Tryz.call14 rfl H (RGadgets.m (H.a (e257 (e243 (e229 (e215 (e74 h24))))))) (fun h => toGadgets_any _ _ _ _ h.r h.m (toq_some c57)) (fun a w v261 H F => ?_)
  refine x_end ?_
  refine x_tn ?_
  refine ⟨⟨_, H⟩, ?_⟩
  refine xE H 3 rfl (by kernel_rfl) ?_
  refine nEq (V := Agg 1 RGadgets) F rfl Tryz.call17 rfl H (H.o 8 rfl) (H.o 0 rfl) c253 (fun h g => eqGadgets_any _ _ _ _ _ _ h.r g.r h.m g.m) (fun a w H F => ?_)
  refine x_end ?_
  refine x_tn ?_
  refine ⟨⟨_, H⟩, ?_⟩
  refine b_q0 4 rfl (by kernel_rfl) (by kernel_rfl) (by kernel_rfl) ?_
  refine v_val F rfl (fun w l => r_not F rfl) (fun a F => ?_)
  refine b_end (by kernel_rfl) ?_
  refine x_tn ?_
  refine x_if F rfl (fun hb263 => ?_) (fun hb263 => ?_)
  ·
   replace hR := ifT hb263 hR
   refine x_seq ?_
   refine x_reg ?_
   refine o_assign F rfl rfl (fun a F => ?_)
   refine x_end ?_
   refine x_tn ?_
   refine x_ret ?_
   refine x_tr ?_
   have H := (th75.1 (th216.1 (th230.1 (th244.1 (th258.1 H (Ns.all ⟨n0, ⟨n0, ⟨n0, ⟨n0, ⟨n0, ⟨n0, ⟨n0, ⟨n0, ⟨n0, ⟨n0, ⟨n0, ⟨n0, ⟨n0, ⟨n0, trivial⟩⟩⟩⟩⟩⟩⟩⟩⟩⟩⟩⟩⟩⟩)) (Ns.all ⟨n0, ⟨n0, ⟨n0, ⟨n0, ⟨n0, ⟨n0, ⟨n0, ⟨n0, ⟨n0, ⟨n0, ⟨n0, ⟨n0, ⟨n0, ⟨n0, ⟨n0, trivial⟩⟩⟩⟩⟩⟩⟩⟩⟩⟩⟩⟩⟩⟩⟩)) (Ns.all ⟨n0, ⟨n0, ⟨n0, ⟨n0, ⟨n0, ⟨n0, ⟨n0, ⟨n0, ⟨n0, ⟨n0, ⟨n0, ⟨n0, ⟨n0, ⟨n0, ⟨n0, ⟨n0, trivial⟩⟩⟩⟩⟩⟩⟩⟩⟩⟩⟩⟩⟩⟩⟩⟩)) (Ns.all ⟨n0, ⟨n0, ⟨n0, ⟨n0, ⟨n0, ⟨n0, ⟨n0, ⟨n0, ⟨n0, ⟨n0, ⟨n0, ⟨n0, ⟨n0, ⟨n0, ⟨n0, ⟨n0, ⟨n0, trivial⟩⟩⟩⟩⟩⟩⟩⟩⟩⟩⟩⟩⟩⟩⟩⟩⟩)) (Ns.all ⟨n0, ⟨n0, ⟨n0, ⟨n0, ⟨n0, ⟨n0, ⟨n0, ⟨n0, ⟨n0, ⟨n0, ⟨n0, ⟨n0, ⟨n0, ⟨n0, ⟨n0, ⟨n0, ⟨n0, ⟨n0, trivial⟩⟩⟩⟩⟩⟩⟩⟩⟩⟩⟩⟩⟩⟩⟩⟩⟩⟩)).um.um.um.um
   refine x_res1 F rfl (rv_t F rfl) ?_
   obtain rfl := Option.some.inj hR
   exact ⟨rfl, H.bl⟩
  replace hR := ifF hb263 hR
  refine x_skip ?_
  refine x_tn ?_
  refine x_seq ?_
  refine x_seq ?_
  obtain ⟨z266, c267, hR⟩ := bnd_some hR
  obtain ⟨w273, rfl⟩ : ∃ x, x = w := ⟨_, rfl⟩
  obtain ⟨X268, N269, g270, e271, H, th272⟩ := (H.s [6, 0, 1, 2, 3, 4, 5, 7, 8, 9, 10, 11, 12, 13] rfl rfl).fz
  have K274 := g270.bk
  refine xD H (by kernel_rfl) (fun w H => ?_)
  refine b_q 0 (by kernel_rfl) rfl (by kernel_rfl) (by kernel_rfl) (by kernel_rfl) (by kernel_rfl) ?_
  refine vBA Tryz.isAgg37 Tryz.sizeOf37 F rfl rfl (K274.v H.sm) rfl rfl (fun a F => ?_)
  refine b_q 1 (by kernel_rfl) rfl (by kernel_rfl) (by kernel_rfl) (by kernel_rfl) (by kernel_rfl) ?_
  refine vBA Tryz.isAgg27 Tryz.sizeOf27 F rfl rfl ((((((K77.lf e215).lf e229).lf e243).lf e257).lf e271).v H.sm) rfl rfl (fun a F => ?_)
  refine xE H 2 rfl (by kernel_rfl) ?_
  refine nTo (V := Agg 1 RGadgets) F rfl Tryz.call14 rfl H (RGadgets.m (H.a (e271 (e257 (e243 (e229 (e215 (e74 h27)))))))) (fun h => toGadgets_any _ _ _ _ h.r h.m (toq_some c61)) (fun a w v275 H F => ?_)
  refine x_end ?_
  refine x_tn ?_
  refine ⟨⟨_, H⟩, ?_⟩
  refine xE H 3 rfl (by kernel_rfl) ?_
  refine nEq (V := Agg 1 RGadgets) F rfl Tryz.call17 rfl H (H.o 7 rfl) (H.o 0 rfl) c267 (fun h g => eqGadgets_any _ _ _ _ _ _ h.r g.r h.m g.m) (fun a w H F => ?_)
  refine x_end ?_
  refine x_tn ?_
  refine ⟨⟨_, H⟩, ?_⟩
  refine b_q0 4 rfl (by kernel_rfl) (by kernel_rfl) (by kernel_rfl) ?_
  refine v_val F rfl (fun w l => r_not F rfl) (fun a F => ?_)
  refine b_end (by kernel_rfl) ?_
  refine x_tn ?_
  refine x_if F rfl (fun hb277 => ?_) (fun hb277 => ?_)
  ·
   replace hR := ifT hb277 hR
   refine x_seq ?_
   refine x_reg ?_
   refine o_assign F rfl rfl (fun a F => ?_)
   refine x_end ?_
   refine x_tn ?_
   refine x_ret ?_
   refine x_tr ?_
   have H := (th75.1 (th216.1 (th230.1 (th244.1 (th258.1 (th272.1 H (Ns.all ⟨n0, ⟨n0, ⟨n0, ⟨n0, ⟨n0, ⟨n0, ⟨n0, ⟨n0, ⟨n0, ⟨n0, ⟨n0, ⟨n0, ⟨n0, ⟨n0, trivial⟩⟩⟩⟩⟩⟩⟩⟩⟩⟩⟩⟩⟩⟩)) (Ns.all ⟨n0, ⟨n0, ⟨n0, ⟨n0, ⟨n0, ⟨n0, ⟨n0, ⟨n0, ⟨n0, ⟨n0, ⟨n0, ⟨n0, ⟨n0, ⟨n0, ⟨n0, trivial⟩⟩⟩⟩⟩⟩⟩⟩⟩⟩⟩⟩⟩⟩⟩)) (Ns.all ⟨n0, ⟨n0, ⟨n0, ⟨n0, ⟨n0, ⟨n0, ⟨n0, ⟨n0, ⟨n0, ⟨n0, ⟨n0, ⟨n0, ⟨n0, ⟨n0, ⟨n0, ⟨n0, trivial⟩⟩⟩⟩⟩⟩⟩⟩⟩⟩⟩⟩⟩⟩⟩⟩)) (Ns.all ⟨n0, ⟨n0, ⟨n0, ⟨n0, ⟨n0, ⟨n0, ⟨n0, ⟨n0, ⟨n0, ⟨n0, ⟨n0, ⟨n0, ⟨n0, ⟨n0, ⟨n0, ⟨n0, ⟨n0, trivial⟩⟩⟩⟩⟩⟩⟩⟩⟩⟩⟩⟩⟩⟩⟩⟩⟩)) (Ns.all ⟨n0, ⟨n0, ⟨n0, ⟨n0, ⟨n0, ⟨n0, ⟨n0, ⟨n0, ⟨n0, ⟨n0, ⟨n0, ⟨n0, ⟨n0, ⟨n0, ⟨n0, ⟨n0, ⟨n0, ⟨n0, trivial⟩⟩⟩⟩⟩⟩⟩⟩⟩⟩⟩⟩⟩⟩⟩⟩⟩⟩)) (Ns.all ⟨n0, ⟨n0, ⟨n0, ⟨n0, ⟨n0, ⟨n0, ⟨n0, ⟨n0, ⟨n0, ⟨n0, ⟨n0, ⟨n0, ⟨n0, ⟨n0, ⟨n0, ⟨n0, ⟨n0, ⟨n0, ⟨n0, trivial⟩⟩⟩⟩⟩⟩⟩⟩⟩⟩⟩⟩⟩⟩⟩⟩⟩⟩⟩)).um.um.um.um
   refine x_res1 F rfl (rv_t F rfl) ?_
   obtain rfl := Option.some.inj hR
   exact ⟨rfl, H.bl⟩
  replace hR := ifF hb277 hR
  refine x_skip ?_
  refine x_tn ?_
  refine x_seq ?_
  refine x_reg ?_
  refine o_assign F rfl rfl (fun a F => ?_)
  refine x_end ?_
  refine x_tn ?_
  refine x_seq ?_
  refine x_reg ?_
  refine oBA Tryz.isAgg33 Tryz.sizeOf33 F rfl rfl (((((K218.lf e229).lf e243).lf e257).lf e271).o H.sm) rfl rfl (fun a F => ?_)
  refine o_move F rfl rfl (fun a F => ?_)
  obtain ⟨z278, c279, hR⟩ := bnd_some hR
  refine nMk (V := Agg 2 RTemplate) (x' := ((Template.mk x0.size x0.rels).mkv 1)) F rfl Tryz.call21 rfl (H.s [11, 0, 1, 2, 3, 4, 5, 6, 7, 8, 9, 10, 12, 13] rfl rfl) c279 (fun h o h0 h1 => markTemplate_any _ _ _ _ _ _ h.r o h0 h1) (fun a w H iz278 F => ?_)
  refine o_assign F rfl rfl (fun a F => ?_)
  refine x_end ?_
  refine x_tn ?_
  refine x_seq ?_
  refine x_reg ?_
  refine oBA Tryz.isAgg33 Tryz.sizeOf33 F rfl rfl ((((K232.lf e243).lf e257).lf e271).o H.sm) rfl rfl (fun a F => ?_)
  refine o_move F rfl rfl (fun a F => ?_)
  obtain ⟨z280, c281, hR⟩ := bnd_some hR
  refine nMk (V := Agg 2 RTemplate) (x' := ((Template.mk x1.size x1.rels).mkv z278)) F rfl Tryz.call21 rfl (H.s [11, 0, 1, 2, 3, 4, 5, 6, 7, 8, 9, 10, 12, 13] rfl rfl) c281 (fun h o h0 h1 => markTemplate_any _ _ _ _ _ _ h.r o h0 h1) (fun a w H iz280 F => ?_)
  refine o_assign F rfl rfl (fun a F => ?_)
  refine x_end ?_
  refine x_tn ?_
  refine x_seq ?_
  refine x_reg ?_
  refine oBA Tryz.isAgg33 Tryz.sizeOf33 F rfl rfl (((K246.lf e257).lf e271).o H.sm) rfl rfl (fun a F => ?_)
  refine o_move F rfl rfl (fun a F => ?_)
  obtain ⟨z282, c283, hR⟩ := bnd_some hR
  refine nMk (V := Agg 2 RTemplate) (x' := ((Template.mk x2.size x2.rels).mkv z280)) F rfl Tryz.call21 rfl (H.s [11, 0, 1, 2, 3, 4, 5, 6, 7, 8, 9, 10, 12, 13] rfl rfl) c283 (fun h o h0 h1 => markTemplate_any _ _ _ _ _ _ h.r o h0 h1) (fun a w H iz282 F => ?_)
  refine o_assign F rfl rfl (fun a F => ?_)
  refine x_end ?_
  refine x_tn ?_
  refine x_seq ?_
  refine x_reg ?_
  refine oBA Tryz.isAgg37 Tryz.sizeOf37 F rfl rfl ((K260.lf e271).o H.sm) rfl rfl (fun a F => ?_)
  refine o_move F rfl rfl (fun a F => ?_)
  obtain ⟨z284, c285, hR⟩ := bnd_some hR
  refine nMk (V := Agg 1 RGadgets) (x' := ((Gadgets.mk x3.formulas).mkv z282)) F rfl Tryz.call22 rfl (H.s [11, 0, 1, 2, 3, 4, 5, 6, 7, 8, 9, 10, 12, 13] rfl rfl) c285 (fun h o h0 h1 => markGadgets_any _ _ _ _ _ _ h.r o h0 h1) (fun a w H iz284 F => ?_)
  refine o_assign F rfl rfl (fun a F => ?_)
  refine x_end ?_
  refine x_tn ?_
  refine x_seq ?_
  refine x_reg ?_
  refine oBA Tryz.isAgg37 Tryz.sizeOf37 F rfl rfl (K274.o H.sm) rfl rfl (fun a F => ?_)
  refine o_move F rfl rfl (fun a F => ?_)
  obtain ⟨z286, c287, hR⟩ := bnd_some hR
  refine nMk (V := Agg 1 RGadgets) (x' := ((Gadgets.mk x4.formulas).mkv z284)) F rfl Tryz.call22 rfl (H.s [11, 0, 1, 2, 3, 4, 5, 6, 7, 8, 9, 10, 12, 13] rfl rfl) c287 (fun h o h0 h1 => markGadgets_any _ _ _ _ _ _ h.r o h0 h1) (fun a w H iz286 F => ?_)
  refine o_assign F rfl rfl (fun a F => ?_)
  refine x_end ?_
  refine x_tn ?_
  refine x_seq ?_
  refine x_seq ?_
  obtain ⟨o292, hR, hk293⟩ := thn_some hR
  refine x_cutQ (fun a w => ∃ (s295 : Bool), o292 = .nx s295 ∧ Sk a 188 [(5, .pointer (some ⟨b14, 0, none⟩)), (6, .pointer (some ⟨b18, 0, none⟩)), (7, .pointer (some ⟨b22, 0, none⟩)), (8, .pointer (some ⟨b25, 0, none⟩)), (9, .pointer (some ⟨b28, 0, none⟩)), (12, .pointer (some ⟨b157, 0, none⟩)), (13, .int .i64 z64.2), (19, .pointer (some ⟨b196, 0, none⟩)), (145, .bool s295)] ∧ Sep X268 N269 w273 w [bx b196 [v192] 37, rl 3 RFormula 95 v192 z190.1.formulas, bx b157 [v159] 37, rl 3 RFormula 95 v159 z64.1.formulas]) ?_ ?_
  ·
   refine x_reg ?_
   refine o_move F rfl rfl (fun a F => ?_)
   refine o_lss F rfl rfl rfl (fun a F => ?_)
   refine o_move F rfl rfl (fun a F => ?_)
   rcases bcases (decide (z286 < 0)) with hb296 | hb296
   ·
    replace hR := ifT hb296 hR
    have F := F.eq (t := 135) rfl (congrArg Value.bool hb296)
    refine o_no F rfl rfl (fun a F => ?_)
    refine o_no F rfl rfl (fun a F => ?_)
    refine o_no F rfl rfl (fun a F => ?_)
    refine o_no F rfl rfl (fun a F => ?_)
    refine o_pickt F rfl rfl rfl (fun a F => ?_)
    refine o_move F rfl rfl (fun a F => ?_)
    refine o_no F rfl rfl (fun a F => ?_)
    refine o_no F rfl rfl (fun a F => ?_)
    refine o_no F rfl rfl (fun a F => ?_)
    refine o_pickt F rfl rfl rfl (fun a F => ?_)
    refine x_end ?_
    refine x_tn ?_
    exact ⟨true, (Option.some.inj hR).symm, F.sub (sc rfl (sc rfl (sc rfl (sc rfl (sc rfl (sc rfl (sc rfl (sc rfl (sc rfl sn))))))))), (H.s [10, 11, 12, 13] rfl rfl)⟩
   replace hR := ifF hb296 hR
   have F := F.eq (t := 135) rfl (congrArg Value.bool hb296)
   refine oBA Tryz.isAgg37 Tryz.sizeOf37 F rfl rfl (H.b 10 rfl) rfl rfl (fun a F => ?_)
   refine oBA Tryz.isAgg37 Tryz.sizeOf37 F rfl rfl (H.b 12 rfl) rfl rfl (fun a F => ?_)
   obtain ⟨z297, c298, hR⟩ := bnd_some hR
   refine nEq (V := Agg 1 RGadgets) F rfl Tryz.call17 rfl H (RGadgets.m (H.l 11 rfl)) (RGadgets.m (H.l 13 rfl)) c298 (fun h g => eqGadgets_any _ _ _ _ _ _ h.r g.r h.m g.m) (fun a w H F => ?_)
   refine o_not F rfl rfl (fun a F => ?_)
   refine o_pickf F rfl rfl rfl (fun a F => ?_)
   refine o_move F rfl rfl (fun a F => ?_)
   rcases bcases (!z297) with hb299 | hb299
   ·
    replace hR := ifT hb299 hR
    have F := F.eq (t := 141) rfl (congrArg Value.bool hb299)
    refine o_no F rfl rfl (fun a F => ?_)
    refine o_no F rfl rfl (fun a F => ?_)
    refine o_no F rfl rfl (fun a F => ?_)
    refine o_pickt F rfl rfl rfl (fun a F => ?_)
    refine x_end ?_
    refine x_tn ?_
    exact ⟨true, (Option.some.inj hR).symm, F.sub (sc rfl (sc rfl (sc rfl (sc rfl (sc rfl (sc rfl (sc rfl (sc rfl (sc rfl sn))))))))), (H.s [10, 11, 12, 13] rfl rfl)⟩
   replace hR := ifF hb299 hR
   have F := F.eq (t := 141) rfl (congrArg Value.bool hb299)
   refine o_move F rfl rfl (fun a F => ?_)
   refine o_move F rfl rfl (fun a F => ?_)
   refine o_neq F rfl rfl rfl (fun a F => ?_)
   refine o_pickf F rfl rfl rfl (fun a F => ?_)
   refine x_end ?_
   refine x_tn ?_
   exact ⟨(z190.2 != z64.2), (Option.some.inj hR).symm, F.sub (sc rfl (sc rfl (sc rfl (sc rfl (sc rfl (sc rfl (sc rfl (sc rfl (sc rfl sn))))))))), (H.s [10, 11, 12, 13] rfl rfl)⟩
  intro a w ⟨s295, ho294, F, H⟩
  subst ho294
  have hR := then_nx hk293
  refine x_tn ?_
  refine x_if F rfl (fun hb300 => ?_) (fun hb300 => ?_)
  ·
   replace hR := ifT hb300 hR
   refine x_seq ?_
   refine x_reg ?_
   refine o_assign F rfl rfl (fun a F => ?_)
   refine x_end ?_
   refine x_tn ?_
   refine x_ret ?_
   refine x_tr ?_
   have H := (th75.1 (th216.1 (th230.1 (th244.1 (th258.1 (th272.1 H (Ns.all ⟨n0, ⟨n0, ⟨n0, ⟨n0, trivial⟩⟩⟩⟩)) (Ns.all ⟨n0, ⟨n0, ⟨n0, ⟨n0, ⟨n0, trivial⟩⟩⟩⟩⟩)) (Ns.all ⟨n0, ⟨n0, ⟨n0, ⟨n0, ⟨n0, ⟨n0, trivial⟩⟩⟩⟩⟩⟩)) (Ns.all ⟨n0, ⟨n0, ⟨n0, ⟨n0, ⟨n0, ⟨n0, ⟨n0, trivial⟩⟩⟩⟩⟩⟩⟩)) (Ns.all ⟨n0, ⟨n0, ⟨n0, ⟨n0, ⟨n0, ⟨n0, ⟨n0, ⟨n0, trivial⟩⟩⟩⟩⟩⟩⟩⟩)) (Ns.all ⟨n0, ⟨n0, ⟨n0, ⟨n0, ⟨n0, ⟨n0, ⟨n0, ⟨n0, ⟨n0, trivial⟩⟩⟩⟩⟩⟩⟩⟩⟩)).um.um.um.um
   refine x_res1 F rfl (rv_t F rfl) ?_
   obtain rfl := Option.some.inj hR
   exact ⟨rfl, H.bl⟩
  replace hR := ifF hb300 hR
  refine x_skip ?_
  refine x_tn ?_
  refine x_seq ?_
  refine x_reg ?_
  refine o_assign F rfl rfl (fun a F => ?_)
  refine x_end ?_
  refine x_tn ?_
  refine x_seq ?_
  refine x_reg ?_
  refine oBA Tryz.isAgg37 Tryz.sizeOf37 F rfl rfl (H.b 0 rfl) rfl rfl (fun a F => ?_)
  refine o_move F rfl rfl (fun a F => ?_)
  have H := (RGadgets.w (H.s [1, 0, 2, 3] rfl rfl))
  obtain ⟨z302, c303, hR⟩ := bnd_some hR
  refine nMk (V := Agg 1 RGadgets) (x' := ((Gadgets.mk z190.1.formulas).mkv 1)) F rfl Tryz.call22 rfl H c303 (fun h o h0 h1 => markGadgets_any _ _ _ _ _ _ h.r o h0 h1) (fun a w H iz302 F => ?_)
  refine o_assign F rfl rfl (fun a F => ?_)
  refine x_end ?_
  refine x_tn ?_
  refine x_seq ?_
  refine x_reg ?_
  refine o_assign F rfl rfl (fun a F => ?_)
  refine x_end ?_
  refine x_tn ?_
  refine x_seq ?_
  refine x_reg ?_
  refine oBA Tryz.isAgg37 Tryz.sizeOf37 F rfl rfl (H.b 1 rfl) rfl rfl (fun a F => ?_)
  refine o_move F rfl rfl (fun a F => ?_)
  refine nHl (V := Agg 1 RGadgets) F rfl Tryz.call27 rfl H (H.o 0 rfl) c303 (fun h h0 h1 => heldGadgets_any _ _ _ _ _ h.r h.m h0 h1) (fun a w H iz302 F => ?_)
  refine o_assign F rfl rfl (fun a F => ?_)
  refine x_end ?_
  refine x_tn ?_
  refine x_seq ?_
  refine x_seq ?_
  refine x_reg ?_
  refine o_move F rfl rfl (fun a F => ?_)
  refine o_lss F rfl rfl rfl (fun a F => ?_)
  refine x_end ?_
  refine x_tn ?_
  refine x_if F rfl (fun hb304 => ?_) (fun hb304 => ?_)
  ·
   replace hR := ifT hb304 hR
   refine x_seq ?_
   refine x_reg ?_
   refine o_assign F rfl rfl (fun a F => ?_)
   refine x_end ?_
   refine x_tn ?_
   refine x_ret ?_
   refine x_tr ?_
   have H := (th75.1 (th216.1 (th230.1 (th244.1 (th258.1 (th272.1 H (Ns.all ⟨n0, ⟨n0, ⟨n0, ⟨n0, trivial⟩⟩⟩⟩)) (Ns.all ⟨n0, ⟨n0, ⟨n0, ⟨n0, ⟨n0, trivial⟩⟩⟩⟩⟩)) (Ns.all ⟨n0, ⟨n0, ⟨n0, ⟨n0, ⟨n0, ⟨n0, trivial⟩⟩⟩⟩⟩⟩)) (Ns.all ⟨n0, ⟨n0, ⟨n0, ⟨n0, ⟨n0, ⟨n0, ⟨n0, trivial⟩⟩⟩⟩⟩⟩⟩)) (Ns.all ⟨n0, ⟨n0, ⟨n0, ⟨n0, ⟨n0, ⟨n0, ⟨n0, ⟨n0, trivial⟩⟩⟩⟩⟩⟩⟩⟩)) (Ns.all ⟨n0, ⟨n0, ⟨n0, ⟨n0, ⟨n0, ⟨n0, ⟨n0, ⟨n0, ⟨n0, trivial⟩⟩⟩⟩⟩⟩⟩⟩⟩)).um.um.um.um
   refine x_res1 F rfl (rv_t F rfl) ?_
   obtain rfl := Option.some.inj hR
   exact ⟨rfl, H.bl⟩
  replace hR := ifF hb304 hR
  refine x_skip ?_
  refine x_tn ?_
  refine x_seq ?_
  refine x_seq ?_
  refine x_reg ?_
  refine o_move F rfl rfl (fun a F => ?_)
  refine o_move F rfl rfl (fun a F => ?_)
  refine o_neq F rfl rfl rfl (fun a F => ?_)
  refine x_end ?_
  refine x_tn ?_
  refine x_if F rfl (fun hb305 => ?_) (fun hb305 => ?_)
  ·
   replace hR := ifT hb305 hR
   refine x_seq ?_
   refine x_reg ?_
   refine o_assign F rfl rfl (fun a F => ?_)
   refine x_end ?_
   refine x_tn ?_
   refine x_ret ?_
   refine x_tr ?_
   have H := (th75.1 (th216.1 (th230.1 (th244.1 (th258.1 (th272.1 H (Ns.all ⟨n0, ⟨n0, ⟨n0, ⟨n0, trivial⟩⟩⟩⟩)) (Ns.all ⟨n0, ⟨n0, ⟨n0, ⟨n0, ⟨n0, trivial⟩⟩⟩⟩⟩)) (Ns.all ⟨n0, ⟨n0, ⟨n0, ⟨n0, ⟨n0, ⟨n0, trivial⟩⟩⟩⟩⟩⟩)) (Ns.all ⟨n0, ⟨n0, ⟨n0, ⟨n0, ⟨n0, ⟨n0, ⟨n0, trivial⟩⟩⟩⟩⟩⟩⟩)) (Ns.all ⟨n0, ⟨n0, ⟨n0, ⟨n0, ⟨n0, ⟨n0, ⟨n0, ⟨n0, trivial⟩⟩⟩⟩⟩⟩⟩⟩)) (Ns.all ⟨n0, ⟨n0, ⟨n0, ⟨n0, ⟨n0, ⟨n0, ⟨n0, ⟨n0, ⟨n0, trivial⟩⟩⟩⟩⟩⟩⟩⟩⟩)).um.um.um.um
   refine x_res1 F rfl (rv_t F rfl) ?_
   obtain rfl := Option.some.inj hR
   exact ⟨rfl, H.bl⟩
  replace hR := ifF hb305 hR
  refine x_skip ?_
  refine x_tn ?_
  refine x_seq ?_
  refine xD H (by kernel_rfl) (fun w H => ?_)
  refine dp (fun G => ∀ (b402 : Nat) (v404 : Value) (a : Act) (w : World), Sk a 188 [(12, .pointer (some ⟨b157, 0, none⟩)), (13, .int .i64 z64.2), (19, .pointer (some ⟨b196, 0, none⟩)), (22, .int .i64 z302), (24, .pointer (some ⟨b402, 0, none⟩)), (169, (.agg #[v404])), (170, .int .i64 z190.2)] → Sep X268 N269 w273 w [bx b402 [(.slice none 0 0)] 37, rl 3 RFormula 95 v404 z190.1.formulas, ow (V := (Agg 1 RGadgets)) (.agg #[v192]) ((Gadgets.mk z190.1.formulas).mkv 1), bx b196 [v192] 37, bx b157 [v159] 37, rl 3 RFormula 95 v159 z64.1.formulas] → I64 z302 → I64 z190.2 → ∀ ls, ls = #[true, true, true, true, true, true, true, true, true, true, true, true, true, true, true, false, false] → G 2 ls a w) ?_ (fun H406 => ?_)
  ·
   intro b402 v404 a w F H i401 i405 ls hls
   subst hls
   refine xE H 15 rfl (by kernel_rfl) ?_
   refine oWA (vs := [v404]) Tryz.sizeOf37 F rfl rfl rfl H (oc (H.l 1 rfl).one on) rfl rfl (fun w H => ?_)
   refine x_end ?_
   refine x_tn ?_
   refine ⟨⟨_, H⟩, ?_⟩
   refine b_q0 16 rfl (by kernel_rfl) (by kernel_rfl) (by kernel_rfl) ?_
   refine v_val F rfl (fun w l => r_assign F rfl) (fun a F => ?_)
   refine b_end (by kernel_rfl) ?_
   refine x_tn ?_
   refine x_seq ?_
   refine x_seq ?_
   obtain ⟨o410, hR, hk411⟩ := thn_some hR
   refine x_cutQ (fun a w => ∃ (s413 : Bool), o410 = .nx s413 ∧ Sk a 188 [(19, .pointer (some ⟨b196, 0, none⟩)), (22, .int .i64 z302), (179, .bool s413)] ∧ Sep X268 N269 w273 w [ow (V := (Agg 1 RGadgets)) (.agg #[v192]) ((Gadgets.mk z190.1.formulas).mkv 1), bx b196 [v192] 37]) ?_ ?_
   ·
    refine x_reg ?_
    refine oBA Tryz.isAgg37 Tryz.sizeOf37 F rfl rfl (H.b 0 rfl) rfl rfl (fun a F => ?_)
    refine oBA Tryz.isAgg37 Tryz.sizeOf37 F rfl rfl (H.b 4 rfl) rfl rfl (fun a F => ?_)
    obtain ⟨z414, c415, hR⟩ := bnd_some hR
    refine nEq (V := Agg 1 RGadgets) F rfl Tryz.call17 rfl H (RGadgets.m (H.l 1 rfl)) (RGadgets.m (H.l 5 rfl)) c415 (fun h g => eqGadgets_any _ _ _ _ _ _ h.r g.r h.m g.m) (fun a w H F => ?_)
    refine o_not F rfl rfl (fun a F => ?_)
    refine o_move F rfl rfl (fun a F => ?_)
    rcases bcases (!z414) with hb416 | hb416
    ·
     replace hR := ifT hb416 hR
     have F := F.eq (t := 175) rfl (congrArg Value.bool hb416)
     refine o_no F rfl rfl (fun a F => ?_)
     refine o_no F rfl rfl (fun a F => ?_)
     refine o_no F rfl rfl (fun a F => ?_)
     refine o_pickt F rfl rfl rfl (fun a F => ?_)
     refine x_end ?_
     refine x_tn ?_
     exact ⟨true, (Option.some.inj hR).symm, F.sub (sc rfl (sc rfl (sc rfl sn))), (H.s [2, 3] rfl rfl)⟩
    replace hR := ifF hb416 hR
    have F := F.eq (t := 175) rfl (congrArg Value.bool hb416)
    refine o_move F rfl rfl (fun a F => ?_)
    refine o_move F rfl rfl (fun a F => ?_)
    refine o_neq F rfl rfl rfl (fun a F => ?_)
    refine o_pickf F rfl rfl rfl (fun a F => ?_)
    refine x_end ?_
    refine x_tn ?_
    exact ⟨(z190.2 != z64.2), (Option.some.inj hR).symm, F.sub (sc rfl (sc rfl (sc rfl sn))), (H.s [2, 3] rfl rfl)⟩
   intro a w ⟨s413, ho412, F, H⟩
   subst ho412
   have hR := then_nx hk411
   refine x_tn ?_
   refine x_if F rfl (fun hb417 => ?_) (fun hb417 => ?_)
   ·
    replace hR := ifT hb417 hR
    refine x_seq ?_
    refine x_reg ?_
    refine o_assign F rfl rfl (fun a F => ?_)
    refine x_end ?_
    refine x_tn ?_
    refine x_ret ?_
    refine x_tr ?_
    have H := (th75.1 (th216.1 (th230.1 (th244.1 (th258.1 (th272.1 H (Ns.all ⟨n0, ⟨n0, trivial⟩⟩)) (Ns.all ⟨n0, ⟨n0, ⟨n0, trivial⟩⟩⟩)) (Ns.all ⟨n0, ⟨n0, ⟨n0, ⟨n0, trivial⟩⟩⟩⟩)) (Ns.all ⟨n0, ⟨n0, ⟨n0, ⟨n0, ⟨n0, trivial⟩⟩⟩⟩⟩)) (Ns.all ⟨n0, ⟨n0, ⟨n0, ⟨n0, ⟨n0, ⟨n0, trivial⟩⟩⟩⟩⟩⟩)) (Ns.all ⟨n0, ⟨n0, ⟨n0, ⟨n0, ⟨n0, ⟨n0, ⟨n0, trivial⟩⟩⟩⟩⟩⟩⟩)).um.um.um.um
    refine x_res1 F rfl (rv_t F rfl) ?_
    obtain rfl := Option.some.inj hR
    exact ⟨rfl, H.bl⟩
   replace hR := ifF hb417 hR
   refine x_skip ?_
   refine x_tn ?_
   refine x_seq ?_
   refine x_reg ?_
   refine o_assign F rfl rfl (fun a F => ?_)
   refine x_end ?_
   refine x_tn ?_
   refine x_seq ?_
   refine x_reg ?_
   refine oBA Tryz.isAgg37 Tryz.sizeOf37 F rfl rfl (H.b 1 rfl) rfl rfl (fun a F => ?_)
   refine o_move F rfl rfl (fun a F => ?_)
   refine nHl (V := Agg 1 RGadgets) F rfl Tryz.call27 rfl H (H.o 0 rfl) c303 (fun h h0 h1 => heldGadgets_any _ _ _ _ _ h.r h.m h0 h1) (fun a w H iz302 F => ?_)
   refine o_assign F rfl rfl (fun a F => ?_)
   refine x_end ?_
   refine x_tn ?_
   refine x_seq ?_
   refine x_seq ?_
   refine x_reg ?_
   refine o_move F rfl rfl (fun a F => ?_)
   refine o_lss F rfl rfl rfl (fun a F => ?_)
   refine x_end ?_
   refine x_tn ?_
   refine x_if F rfl (fun hb418 => ?_) (fun hb418 => ?_)
   ·
    replace hR := ifT hb418 hR
    refine x_seq ?_
    refine x_reg ?_
    refine o_assign F rfl rfl (fun a F => ?_)
    refine x_end ?_
    refine x_tn ?_
    refine x_ret ?_
    refine x_tr ?_
    have H := (th75.1 (th216.1 (th230.1 (th244.1 (th258.1 (th272.1 H (Ns.all ⟨n0, ⟨n0, trivial⟩⟩)) (Ns.all ⟨n0, ⟨n0, ⟨n0, trivial⟩⟩⟩)) (Ns.all ⟨n0, ⟨n0, ⟨n0, ⟨n0, trivial⟩⟩⟩⟩)) (Ns.all ⟨n0, ⟨n0, ⟨n0, ⟨n0, ⟨n0, trivial⟩⟩⟩⟩⟩)) (Ns.all ⟨n0, ⟨n0, ⟨n0, ⟨n0, ⟨n0, ⟨n0, trivial⟩⟩⟩⟩⟩⟩)) (Ns.all ⟨n0, ⟨n0, ⟨n0, ⟨n0, ⟨n0, ⟨n0, ⟨n0, trivial⟩⟩⟩⟩⟩⟩⟩)).um.um.um.um
    refine x_res1 F rfl (rv_t F rfl) ?_
    obtain rfl := Option.some.inj hR
    exact ⟨rfl, H.bl⟩
   replace hR := ifF hb418 hR
   refine x_skip ?_
   refine x_tn ?_
   refine x_seq ?_
   refine x_seq ?_
   refine x_reg ?_
   refine o_move F rfl rfl (fun a F => ?_)
   refine o_move F rfl rfl (fun a F => ?_)
   refine o_neq F rfl rfl rfl (fun a F => ?_)
   refine x_end ?_
   refine x_tn ?_
   refine x_if F rfl (fun hb419 => ?_) (fun hb419 => ?_)
   ·
    replace hR := ifT hb419 hR
    refine x_seq ?_
    refine x_reg ?_
    refine o_assign F rfl rfl (fun a F => ?_)
    refine x_end ?_
    refine x_tn ?_
    refine x_ret ?_
    refine x_tr ?_
    have H := (th75.1 (th216.1 (th230.1 (th244.1 (th258.1 (th272.1 H (Ns.all ⟨n0, ⟨n0, trivial⟩⟩)) (Ns.all ⟨n0, ⟨n0, ⟨n0, trivial⟩⟩⟩)) (Ns.all ⟨n0, ⟨n0, ⟨n0, ⟨n0, trivial⟩⟩⟩⟩)) (Ns.all ⟨n0, ⟨n0, ⟨n0, ⟨n0, ⟨n0, trivial⟩⟩⟩⟩⟩)) (Ns.all ⟨n0, ⟨n0, ⟨n0, ⟨n0, ⟨n0, ⟨n0, trivial⟩⟩⟩⟩⟩⟩)) (Ns.all ⟨n0, ⟨n0, ⟨n0, ⟨n0, ⟨n0, ⟨n0, ⟨n0, trivial⟩⟩⟩⟩⟩⟩⟩)).um.um.um.um
    refine x_res1 F rfl (rv_t F rfl) ?_
    obtain rfl := Option.some.inj hR
    exact ⟨rfl, H.bl⟩
   replace hR := ifF hb419 hR
   refine x_skip ?_
   refine x_tn ?_
   refine x_seq ?_
   refine x_reg ?_
   refine o_assign F rfl rfl (fun a F => ?_)
   refine x_end ?_
   refine x_tn ?_
   refine x_ret ?_
   have H := (th75.1 (th216.1 (th230.1 (th244.1 (th258.1 (th272.1 H (Ns.all ⟨n0, ⟨n0, trivial⟩⟩)) (Ns.all ⟨n0, ⟨n0, ⟨n0, trivial⟩⟩⟩)) (Ns.all ⟨n0, ⟨n0, ⟨n0, ⟨n0, trivial⟩⟩⟩⟩)) (Ns.all ⟨n0, ⟨n0, ⟨n0, ⟨n0, ⟨n0, trivial⟩⟩⟩⟩⟩)) (Ns.all ⟨n0, ⟨n0, ⟨n0, ⟨n0, ⟨n0, ⟨n0, trivial⟩⟩⟩⟩⟩⟩)) (Ns.all ⟨n0, ⟨n0, ⟨n0, ⟨n0, ⟨n0, ⟨n0, ⟨n0, trivial⟩⟩⟩⟩⟩⟩⟩)).um.um.um.um
   refine x_res1 F rfl (rv_t F rfl) ?_
   obtain rfl := Option.some.inj hR
   exact ⟨rfl, H.bl⟩
  refine dp (fun G => ∀ (b385 : Nat) (v387 : Value) (v389 : Value) (v391 : Value) (v393 : Value) (v395 : Value) (a : Act) (w : World), Sk a 188 [(12, .pointer (some ⟨b157, 0, none⟩)), (13, .int .i64 z64.2), (19, .pointer (some ⟨b196, 0, none⟩)), (22, .int .i64 z302), (24, .pointer (some ⟨b385, 0, none⟩)), (159, v387), (161, v389), (163, v391), (165, v393), (167, v395)] → Sep X268 N269 w273 w [bx b385 [(.slice none 0 0)] 37, ow (V := (Agg 2 RTemplate)) v387 (Template.mk x0.size x0.rels), ow (V := (Agg 2 RTemplate)) v389 (Template.mk x1.size x1.rels), ow (V := (Agg 2 RTemplate)) v391 (Template.mk x2.size x2.rels), ow (V := (Agg 1 RGadgets)) v393 (Gadgets.mk x3.formulas), ow (V := (Agg 1 RGadgets)) v395 (Gadgets.mk x4.formulas), ow (V := (Agg 1 RGadgets)) (.agg #[v192]) ((Gadgets.mk z190.1.formulas).mkv 1), bx b196 [v192] 37, bx b157 [v159] 37, rl 3 RFormula 95 v159 z64.1.formulas] → I64 z302 → ∀ ls, ls = #[true, true, true, true, true, true, true, true, true, true, false, false, false, false, true, false, false] → G 6 ls a w) ?_ (fun H396 => ?_)
  ·
   intro b385 v387 v389 v391 v393 v395 a w F H i384 ls hls
   subst hls
   refine xE H 10 rfl (by kernel_rfl) ?_
   refine oG F rfl Tryz.call26 rfl (impl_ComposeGadgets_c z190 c191 _ aA (H.o 1 rfl) (H.o 2 rfl) (H.o 3 rfl) (H.o 4 rfl) (H.o 5 rfl)) (fun a vv w ⟨v397, hv400, S, i399⟩ F => ?_)
   subst vv
   have H := H.r1 S n0
   refine x_end ?_
   refine x_tn ?_
   refine ⟨⟨_, H⟩, ?_⟩
   refine b_q0 11 rfl (by kernel_rfl) (by kernel_rfl) (by kernel_rfl) ?_
   refine v_val F rfl (fun w l => r_move F rfl) (fun a F => ?_)
   refine b_q0 12 rfl (by kernel_rfl) (by kernel_rfl) (by kernel_rfl) ?_
   refine v_val F rfl (fun w l => r_extract F rfl rfl) (fun a F => ?_)
   refine b_q0 13 rfl (by kernel_rfl) (by kernel_rfl) (by kernel_rfl) ?_
   refine v_val F rfl (fun w l => r_extract F rfl rfl) (fun a F => ?_)
   exact H406 b385 v397 _ _ (F.sub (sc rfl (sc rfl (sc rfl (sc rfl (sc rfl (sc rfl (sc rfl sn)))))))) (H.s [1, 0, 7, 8, 9, 10] rfl rfl) i384 i399 _ (by kernel_rfl)
  refine dp (fun G => ∀ (b372 : Nat) (v374 : Value) (v376 : Value) (v378 : Value) (v380 : Value) (a : Act) (w : World), Sk a 188 [(12, .pointer (some ⟨b157, 0, none⟩)), (13, .int .i64 z64.2), (19, .pointer (some ⟨b196, 0, none⟩)), (22, .int .i64 z302), (24, .pointer (some ⟨b372, 0, none⟩)), (159, v374), (161, v376), (163, v378), (165, v380), (166, (.agg #[v26]))] → Sep X268 N269 w273 w [bx b372 [(.slice none 0 0)] 37, ow (V := (Agg 2 RTemplate)) v374 (Template.mk x0.size x0.rels), ow (V := (Agg 2 RTemplate)) v376 (Template.mk x1.size x1.rels), ow (V := (Agg 2 RTemplate)) v378 (Template.mk x2.size x2.rels), ow (V := (Agg 1 RGadgets)) v380 (Gadgets.mk x3.formulas), ow (V := (Agg 1 RGadgets)) (.agg #[v192]) ((Gadgets.mk z190.1.formulas).mkv 1), bx b196 [v192] 37, bx b157 [v159] 37, rl 3 RFormula 95 v159 z64.1.formulas] → I64 z302 → ∀ ls, ls = #[true, true, true, true, true, true, true, true, true, false, false, false, false, false, true, false, false] → G 7 ls a w) ?_ (fun H381 => ?_)
  ·
   intro b372 v374 v376 v378 v380 a w F H i371 ls hls
   subst hls
   refine xE H 9 rfl (by kernel_rfl) ?_
   refine nTo (V := Agg 1 RGadgets) F rfl Tryz.call14 rfl H (RGadgets.m (H.a (e271 (e257 (e243 (e229 (e215 (e74 h27)))))))) (fun h => toGadgets_any _ _ _ _ h.r h.m (toq_some c61)) (fun a w v382 H F => ?_)
   refine x_end ?_
   refine x_tn ?_
   refine ⟨⟨_, H⟩, ?_⟩
   exact H396 b372 v374 v376 v378 v380 v382 _ _ (F.sub (sc rfl (sc rfl (sc rfl (sc rfl (sc rfl (sc rfl (sc rfl (sc rfl (sc rfl (sc rfl sn))))))))))) (H.s [1, 2, 3, 4, 5, 0, 6, 7, 8, 9] rfl rfl) i371 _ (by kernel_rfl)
  refine dp (fun G => ∀ (b361 : Nat) (v363 : Value) (v365 : Value) (v367 : Value) (a : Act) (w : World), Sk a 188 [(12, .pointer (some ⟨b157, 0, none⟩)), (13, .int .i64 z64.2), (19, .pointer (some ⟨b196, 0, none⟩)), (22, .int .i64 z302), (24, .pointer (some ⟨b361, 0, none⟩)), (159, v363), (161, v365), (163, v367), (164, (.agg #[v23])), (166, (.agg #[v26]))] → Sep X268 N269 w273 w [bx b361 [(.slice none 0 0)] 37, ow (V := (Agg 2 RTemplate)) v363 (Template.mk x0.size x0.rels), ow (V := (Agg 2 RTemplate)) v365 (Template.mk x1.size x1.rels), ow (V := (Agg 2 RTemplate)) v367 (Template.mk x2.size x2.rels), ow (V := (Agg 1 RGadgets)) (.agg #[v192]) ((Gadgets.mk z190.1.formulas).mkv 1), bx b196 [v192] 37, bx b157 [v159] 37, rl 3 RFormula 95 v159 z64.1.formulas] → I64 z302 → ∀ ls, ls = #[true, true, true, true, true, true, true, false, true, false, false, false, false, false, true, false, false] → G 8 ls a w) ?_ (fun H368 => ?_)
  ·
   intro b361 v363 v365 v367 a w F H i360 ls hls
   subst hls
   refine xE H 7 rfl (by kernel_rfl) ?_
   refine nTo (V := Agg 1 RGadgets) F rfl Tryz.call14 rfl H (RGadgets.m (H.a (e271 (e257 (e243 (e229 (e215 (e74 h24)))))))) (fun h => toGadgets_any _ _ _ _ h.r h.m (toq_some c57)) (fun a w v369 H F => ?_)
   refine x_end ?_
   refine x_tn ?_
   refine ⟨⟨_, H⟩, ?_⟩
   exact H381 b361 v363 v365 v367 v369 _ _ (F.sub (sc rfl (sc rfl (sc rfl (sc rfl (sc rfl (sc rfl (sc rfl (sc rfl (sc rfl (sc rfl sn))))))))))) (H.s [1, 2, 3, 4, 0, 5, 6, 7, 8] rfl rfl) i360 _ (by kernel_rfl)
  refine dp (fun G => ∀ (b352 : Nat) (v354 : Value) (v356 : Value) (a : Act) (w : World), Sk a 188 [(12, .pointer (some ⟨b157, 0, none⟩)), (13, .int .i64 z64.2), (19, .pointer (some ⟨b196, 0, none⟩)), (22, .int .i64 z302), (24, .pointer (some ⟨b352, 0, none⟩)), (159, v354), (161, v356), (162, (.agg #[.int .i64 x2.size, v20])), (164, (.agg #[v23])), (166, (.agg #[v26]))] → Sep X268 N269 w273 w [bx b352 [(.slice none 0 0)] 37, ow (V := (Agg 2 RTemplate)) v354 (Template.mk x0.size x0.rels), ow (V := (Agg 2 RTemplate)) v356 (Template.mk x1.size x1.rels), ow (V := (Agg 1 RGadgets)) (.agg #[v192]) ((Gadgets.mk z190.1.formulas).mkv 1), bx b196 [v192] 37, bx b157 [v159] 37, rl 3 RFormula 95 v159 z64.1.formulas] → I64 z302 → ∀ ls, ls = #[true, true, true, true, true, false, true, false, true, false, false, false, false, false, true, false, false] → G 9 ls a w) ?_ (fun H357 => ?_)
  ·
   intro b352 v354 v356 a w F H i351 ls hls
   subst hls
   refine xE H 5 rfl (by kernel_rfl) ?_
   refine nTo (V := Agg 2 RTemplate) F rfl Tryz.call13 rfl H (RTemplate.m i19 (H.a (e271 (e257 (e243 (e229 (e215 (e74 h21)))))))) (fun h => toTemplate_any _ _ _ _ h.r h.m (toq_some c53)) (fun a w v358 H F => ?_)
   refine x_end ?_
   refine x_tn ?_
   refine ⟨⟨_, H⟩, ?_⟩
   exact H368 b352 v354 v356 v358 _ _ (F.sub (sc rfl (sc rfl (sc rfl (sc rfl (sc rfl (sc rfl (sc rfl (sc rfl (sc rfl (sc rfl sn))))))))))) (H.s [1, 2, 3, 0, 4, 5, 6, 7] rfl rfl) i351 _ (by kernel_rfl)
  refine dp (fun G => ∀ (b345 : Nat) (v347 : Value) (a : Act) (w : World), Sk a 188 [(12, .pointer (some ⟨b157, 0, none⟩)), (13, .int .i64 z64.2), (19, .pointer (some ⟨b196, 0, none⟩)), (22, .int .i64 z302), (24, .pointer (some ⟨b345, 0, none⟩)), (159, v347), (160, (.agg #[.int .i64 x1.size, v16])), (162, (.agg #[.int .i64 x2.size, v20])), (164, (.agg #[v23])), (166, (.agg #[v26]))] → Sep X268 N269 w273 w [bx b345 [(.slice none 0 0)] 37, ow (V := (Agg 2 RTemplate)) v347 (Template.mk x0.size x0.rels), ow (V := (Agg 1 RGadgets)) (.agg #[v192]) ((Gadgets.mk z190.1.formulas).mkv 1), bx b196 [v192] 37, bx b157 [v159] 37, rl 3 RFormula 95 v159 z64.1.formulas] → I64 z302 → ∀ ls, ls = #[true, true, true, false, true, false, true, false, true, false, false, false, false, false, true, false, false] → G 10 ls a w) ?_ (fun H348 => ?_)
  ·
   intro b345 v347 a w F H i344 ls hls
   subst hls
   refine xE H 3 rfl (by kernel_rfl) ?_
   refine nTo (V := Agg 2 RTemplate) F rfl Tryz.call13 rfl H (RTemplate.m i15 (H.a (e271 (e257 (e243 (e229 (e215 (e74 h17)))))))) (fun h => toTemplate_any _ _ _ _ h.r h.m (toq_some c49)) (fun a w v349 H F => ?_)
   refine x_end ?_
   refine x_tn ?_
   refine ⟨⟨_, H⟩, ?_⟩
   exact H357 b345 v347 v349 _ _ (F.sub (sc rfl (sc rfl (sc rfl (sc rfl (sc rfl (sc rfl (sc rfl (sc rfl (sc rfl (sc rfl sn))))))))))) (H.s [1, 2, 0, 3, 4, 5, 6] rfl rfl) i344 _ (by kernel_rfl)
  refine b_q 0 (by kernel_rfl) rfl (by kernel_rfl) (by kernel_rfl) (by kernel_rfl) (by kernel_rfl) ?_
  refine vBA Tryz.isAgg24 Tryz.sizeOf24 F rfl rfl ((((((K81.lf e215).lf e229).lf e243).lf e257).lf e271).v H.sm) rfl rfl (fun a F => ?_)
  refine b_q 2 (by kernel_rfl) rfl (by kernel_rfl) (by kernel_rfl) (by kernel_rfl) (by kernel_rfl) ?_
  refine vBA Tryz.isAgg24 Tryz.sizeOf24 F rfl rfl ((((((K80.lf e215).lf e229).lf e243).lf e257).lf e271).v H.sm) rfl rfl (fun a F => ?_)
  refine b_q 4 (by kernel_rfl) rfl (by kernel_rfl) (by kernel_rfl) (by kernel_rfl) (by kernel_rfl) ?_
  refine vBA Tryz.isAgg24 Tryz.sizeOf24 F rfl rfl ((((((K79.lf e215).lf e229).lf e243).lf e257).lf e271).v H.sm) rfl rfl (fun a F => ?_)
  refine b_q 6 (by kernel_rfl) rfl (by kernel_rfl) (by kernel_rfl) (by kernel_rfl) (by kernel_rfl) ?_
  refine vBA Tryz.isAgg27 Tryz.sizeOf27 F rfl rfl ((((((K78.lf e215).lf e229).lf e243).lf e257).lf e271).v H.sm) rfl rfl (fun a F => ?_)
  refine b_q 8 (by kernel_rfl) rfl (by kernel_rfl) (by kernel_rfl) (by kernel_rfl) (by kernel_rfl) ?_
  refine vBA Tryz.isAgg27 Tryz.sizeOf27 F rfl rfl ((((((K77.lf e215).lf e229).lf e243).lf e257).lf e271).v H.sm) rfl rfl (fun a F => ?_)
  refine b_es [1, 14] (by kernel_rfl) (by simp) ⟨⟨_, rfl, ?_⟩, ⟨_, rfl, ?_⟩, trivial⟩
  ·
   refine xEs H ?_
   refine nTo (V := Agg 2 RTemplate) F rfl Tryz.call13 rfl H (RTemplate.m i11 (H.a (e271 (e257 (e243 (e229 (e215 (e74 h13)))))))) (fun h => toTemplate_any _ _ _ _ h.r h.m (toq_some c45)) (fun a w v321 H F => ?_)
   refine x_end ?_
   refine x_tn ?_
   refine ⟨⟨_, H⟩, ?_⟩
   refine b_es [3, 14] (by kernel_rfl) (by simp) ⟨⟨_, rfl, ?_⟩, ⟨_, rfl, ?_⟩, trivial⟩
   ·
    refine xEs H ?_
    refine nTo (V := Agg 2 RTemplate) F rfl Tryz.call13 rfl H (RTemplate.m i15 (H.a (e271 (e257 (e243 (e229 (e215 (e74 h17)))))))) (fun h => toTemplate_any _ _ _ _ h.r h.m (toq_some c49)) (fun a w v323 H F => ?_)
    refine x_end ?_
    refine x_tn ?_
    refine ⟨⟨_, H⟩, ?_⟩
    refine b_es [5, 14] (by kernel_rfl) (by simp) ⟨⟨_, rfl, ?_⟩, ⟨_, rfl, ?_⟩, trivial⟩
    ·
     refine xEs H ?_
     refine nTo (V := Agg 2 RTemplate) F rfl Tryz.call13 rfl H (RTemplate.m i19 (H.a (e271 (e257 (e243 (e229 (e215 (e74 h21)))))))) (fun h => toTemplate_any _ _ _ _ h.r h.m (toq_some c53)) (fun a w v325 H F => ?_)
     refine x_end ?_
     refine x_tn ?_
     refine ⟨⟨_, H⟩, ?_⟩
     refine b_es [7, 14] (by kernel_rfl) (by simp) ⟨⟨_, rfl, ?_⟩, ⟨_, rfl, ?_⟩, trivial⟩
     ·
      refine xEs H ?_
      refine nTo (V := Agg 1 RGadgets) F rfl Tryz.call14 rfl H (RGadgets.m (H.a (e271 (e257 (e243 (e229 (e215 (e74 h24)))))))) (fun h => toGadgets_any _ _ _ _ h.r h.m (toq_some c57)) (fun a w v327 H F => ?_)
      refine x_end ?_
      refine x_tn ?_
      refine ⟨⟨_, H⟩, ?_⟩
      refine b_es [9, 14] (by kernel_rfl) (by simp) ⟨⟨_, rfl, ?_⟩, ⟨_, rfl, ?_⟩, trivial⟩
      ·
       refine xEs H ?_
       refine nTo (V := Agg 1 RGadgets) F rfl Tryz.call14 rfl H (RGadgets.m (H.a (e271 (e257 (e243 (e229 (e215 (e74 h27)))))))) (fun h => toGadgets_any _ _ _ _ h.r h.m (toq_some c61)) (fun a w v329 H F => ?_)
       refine x_end ?_
       refine x_tn ?_
       refine ⟨⟨_, H⟩, ?_⟩
       refine b_es [10, 14] (by kernel_rfl) (by simp) ⟨⟨_, rfl, ?_⟩, ⟨_, rfl, ?_⟩, trivial⟩
       ·
        refine xEs H ?_
        refine oG F rfl Tryz.call26 rfl (impl_ComposeGadgets_c z190 c191 _ aA (H.o 4 rfl) (H.o 3 rfl) (H.o 2 rfl) (H.o 1 rfl) (H.o 0 rfl)) (fun a vv w ⟨v331, hv334, S, i333⟩ F => ?_)
        subst vv
        have H := H.r1 S n0
        refine x_end ?_
        refine x_tn ?_
        refine ⟨⟨_, H⟩, ?_⟩
        refine b_q0 11 rfl (by kernel_rfl) (by kernel_rfl) (by kernel_rfl) ?_
        refine v_val F rfl (fun w l => r_move F rfl) (fun a F => ?_)
        refine b_q0 12 rfl (by kernel_rfl) (by kernel_rfl) (by kernel_rfl) ?_
        refine v_val F rfl (fun w l => r_extract F rfl rfl) (fun a F => ?_)
        refine b_q0 13 rfl (by kernel_rfl) (by kernel_rfl) (by kernel_rfl) ?_
        refine v_val F rfl (fun w l => r_extract F rfl rfl) (fun a F => ?_)
        refine xE H 14 rfl (by kernel_rfl) ?_
        refine oA Tryz.zeroValue37 F rfl rfl H (fun a w b335 H F => ?_)
        refine x_end ?_
        refine x_tn ?_
        refine ⟨⟨_, H⟩, ?_⟩
        exact H406 b335 v331 _ _ (F.sub (sc rfl (sc rfl (sc rfl (sc rfl (sc rfl (sc rfl (sc rfl sn)))))))) (H.s [0, 1, 7, 8, 9, 10] rfl rfl) iz302 i333 _ (by kernel_rfl)
       refine xEs H ?_
       refine oA Tryz.zeroValue37 F rfl rfl H (fun a w b336 H F => ?_)
       refine x_end ?_
       refine x_tn ?_
       refine ⟨⟨_, H⟩, ?_⟩
       exact H396 b336 v321 v323 v325 v327 v329 _ _ (F.sub (sc rfl (sc rfl (sc rfl (sc rfl (sc rfl (sc rfl (sc rfl (sc rfl (sc rfl (sc rfl sn))))))))))) (H.s [0, 5, 4, 3, 2, 1, 6, 7, 8, 9] rfl rfl) iz302 _ (by kernel_rfl)
      refine xEs H ?_
      refine oA Tryz.zeroValue37 F rfl rfl H (fun a w b337 H F => ?_)
      refine x_end ?_
      refine x_tn ?_
      refine ⟨⟨_, H⟩, ?_⟩
      exact H381 b337 v321 v323 v325 v327 _ _ (F.sub (sc rfl (sc rfl (sc rfl (sc rfl (sc rfl (sc rfl (sc rfl (sc rfl (sc rfl (sc rfl sn))))))))))) (H.s [0, 4, 3, 2, 1, 5, 6, 7, 8] rfl rfl) iz302 _ (by kernel_rfl)
     refine xEs H ?_
     refine oA Tryz.zeroValue37 F rfl rfl H (fun a w b338 H F => ?_)
     refine x_end ?_
     refine x_tn ?_
     refine ⟨⟨_, H⟩, ?_⟩
     exact H368 b338 v321 v323 v325 _ _ (F.sub (sc rfl (sc rfl (sc rfl (sc rfl (sc rfl (sc rfl (sc rfl (sc rfl (sc rfl (sc rfl sn))))))))))) (H.s [0, 3, 2, 1, 4, 5, 6, 7] rfl rfl) iz302 _ (by kernel_rfl)
    refine xEs H ?_
    refine oA Tryz.zeroValue37 F rfl rfl H (fun a w b339 H F => ?_)
    refine x_end ?_
    refine x_tn ?_
    refine ⟨⟨_, H⟩, ?_⟩
    exact H357 b339 v321 v323 _ _ (F.sub (sc rfl (sc rfl (sc rfl (sc rfl (sc rfl (sc rfl (sc rfl (sc rfl (sc rfl (sc rfl sn))))))))))) (H.s [0, 2, 1, 3, 4, 5, 6] rfl rfl) iz302 _ (by kernel_rfl)
   refine xEs H ?_
   refine oA Tryz.zeroValue37 F rfl rfl H (fun a w b340 H F => ?_)
   refine x_end ?_
   refine x_tn ?_
   refine ⟨⟨_, H⟩, ?_⟩
   exact H348 b340 v321 _ _ (F.sub (sc rfl (sc rfl (sc rfl (sc rfl (sc rfl (sc rfl (sc rfl (sc rfl (sc rfl (sc rfl sn))))))))))) H iz302 _ (by kernel_rfl)
  refine xEs H ?_
  refine oA Tryz.zeroValue37 F rfl rfl H (fun a w b341 H F => ?_)
  refine x_end ?_
  refine x_tn ?_
  refine ⟨⟨_, H⟩, ?_⟩
  refine xE H 1 rfl (by kernel_rfl) ?_
  refine nTo (V := Agg 2 RTemplate) F rfl Tryz.call13 rfl H (RTemplate.m i11 (H.a (e271 (e257 (e243 (e229 (e215 (e74 h13)))))))) (fun h => toTemplate_any _ _ _ _ h.r h.m (toq_some c45)) (fun a w v342 H F => ?_)
  refine x_end ?_
  refine x_tn ?_
  refine ⟨⟨_, H⟩, ?_⟩
  exact H348 b341 v342 _ _ (F.sub (sc rfl (sc rfl (sc rfl (sc rfl (sc rfl (sc rfl (sc rfl (sc rfl (sc rfl (sc rfl sn))))))))))) (H.s [1, 0, 2, 3, 4, 5] rfl rfl) iz302 _ (by kernel_rfl)
 refine dp (fun G => ∀ (b141 : Nat) (v143 : Value) (v145 : Value) (v147 : Value) (v149 : Value) (v151 : Value) (a : Act) (w : World), Sk a 188 [(5, .pointer (some ⟨b14, 0, none⟩)), (6, .pointer (some ⟨b18, 0, none⟩)), (7, .pointer (some ⟨b22, 0, none⟩)), (8, .pointer (some ⟨b25, 0, none⟩)), (9, .pointer (some ⟨b28, 0, none⟩)), (12, .pointer (some ⟨b141, 0, none⟩)), (53, v143), (55, v145), (57, v147), (59, v149), (61, v151)] → Sep X71 N72 w76 w [bx b141 [(.slice none 0 0)] 37, ow (V := (Agg 2 RTemplate)) v143 (Template.mk x0.size x0.rels), ow (V := (Agg 2 RTemplate)) v145 (Template.mk x1.size x1.rels), ow (V := (Agg 2 RTemplate)) v147 (Template.mk x2.size x2.rels), ow (V := (Agg 1 RGadgets)) v149 (Gadgets.mk x3.formulas), ow (V := (Agg 1 RGadgets)) v151 (Gadgets.mk x4.formulas)] → ∀ ls, ls = #[true, true, true, true, true, true, true, true, true, true, false, false, false, false, true, false, false] → G 6 ls a w) ?_ (fun H152 => ?_)
 ·
  intro b141 v143 v145 v147 v149 v151 a w F H ls hls
  subst hls
  refine xE H 10 rfl (by kernel_rfl) ?_
  refine oG F rfl Tryz.call25 rfl (spec_ComposeGadgets_c z64 c65 _ aA (H.o 1 rfl) (H.o 2 rfl) (H.o 3 rfl) (H.o 4 rfl) (H.o 5 rfl)) (fun a vv w ⟨v153, hv156, S, i155⟩ F => ?_)
  subst vv
  have H := H.r1 S n0
  refine x_end ?_
  refine x_tn ?_
  refine ⟨⟨_, H⟩, ?_⟩
  refine b_q0 11 rfl (by kernel_rfl) (by kernel_rfl) (by kernel_rfl) ?_
  refine v_val F rfl (fun w l => r_move F rfl) (fun a F => ?_)
  refine b_q0 12 rfl (by kernel_rfl) (by kernel_rfl) (by kernel_rfl) ?_
  refine v_val F rfl (fun w l => r_extract F rfl rfl) (fun a F => ?_)
  refine b_q0 13 rfl (by kernel_rfl) (by kernel_rfl) (by kernel_rfl) ?_
  refine v_val F rfl (fun w l => r_extract F rfl rfl) (fun a F => ?_)
  exact H161 b141 v153 _ _ (F.sub (sc rfl (sc rfl (sc rfl (sc rfl (sc rfl (sc rfl (sc rfl (sc rfl sn))))))))) (H.s [1, 0] rfl rfl) i155 _ (by kernel_rfl)
 refine dp (fun G => ∀ (b129 : Nat) (v131 : Value) (v133 : Value) (v135 : Value) (v137 : Value) (a : Act) (w : World), Sk a 188 [(5, .pointer (some ⟨b14, 0, none⟩)), (6, .pointer (some ⟨b18, 0, none⟩)), (7, .pointer (some ⟨b22, 0, none⟩)), (8, .pointer (some ⟨b25, 0, none⟩)), (9, .pointer (some ⟨b28, 0, none⟩)), (12, .pointer (some ⟨b129, 0, none⟩)), (53, v131), (55, v133), (57, v135), (59, v137), (60, (.agg #[v26]))] → Sep X71 N72 w76 w [bx b129 [(.slice none 0 0)] 37, ow (V := (Agg 2 RTemplate)) v131 (Template.mk x0.size x0.rels), ow (V := (Agg 2 RTemplate)) v133 (Template.mk x1.size x1.rels), ow (V := (Agg 2 RTemplate)) v135 (Template.mk x2.size x2.rels), ow (V := (Agg 1 RGadgets)) v137 (Gadgets.mk x3.formulas)] → ∀ ls, ls = #[true, true, true, true, true, true, true, true, true, false, false, false, false, false, true, false, false] → G 7 ls a w) ?_ (fun H138 => ?_)
 ·
  intro b129 v131 v133 v135 v137 a w F H ls hls
  subst hls
  refine xE H 9 rfl (by kernel_rfl) ?_
  refine nTo (V := Agg 1 RGadgets) F rfl Tryz.call14 rfl H (RGadgets.m (H.a (e74 h27))) (fun h => toGadgets_any _ _ _ _ h.r h.m (toq_some c61)) (fun a w v139 H F => ?_)
  refine x_end ?_
  refine x_tn ?_
  refine ⟨⟨_, H⟩, ?_⟩
  exact H152 b129 v131 v133 v135 v137 v139 _ _ (F.sub (sc rfl (sc rfl (sc rfl (sc rfl (sc rfl (sc rfl (sc rfl (sc rfl (sc rfl (sc rfl (sc rfl sn)))))))))))) (H.s [1, 2, 3, 4, 5, 0] rfl rfl) _ (by kernel_rfl)
 refine dp (fun G => ∀ (b119 : Nat) (v121 : Value) (v123 : Value) (v125 : Value) (a : Act) (w : World), Sk a 188 [(5, .pointer (some ⟨b14, 0, none⟩)), (6, .pointer (some ⟨b18, 0, none⟩)), (7, .pointer (some ⟨b22, 0, none⟩)), (8, .pointer (some ⟨b25, 0, none⟩)), (9, .pointer (some ⟨b28, 0, none⟩)), (12, .pointer (some ⟨b119, 0, none⟩)), (53, v121), (55, v123), (57, v125), (58, (.agg #[v23])), (60, (.agg #[v26]))] → Sep X71 N72 w76 w [bx b119 [(.slice none 0 0)] 37, ow (V := (Agg 2 RTemplate)) v121 (Template.mk x0.size x0.rels), ow (V := (Agg 2 RTemplate)) v123 (Template.mk x1.size x1.rels), ow (V := (Agg 2 RTemplate)) v125 (Template.mk x2.size x2.rels)] → ∀ ls, ls = #[true, true, true, true, true, true, true, false, true, false, false, false, false, false, true, false, false] → G 8 ls a w) ?_ (fun H126 => ?_)
 ·
  intro b119 v121 v123 v125 a w F H ls hls
  subst hls
  refine xE H 7 rfl (by kernel_rfl) ?_
  refine nTo (V := Agg 1 RGadgets) F rfl Tryz.call14 rfl H (RGadgets.m (H.a (e74 h24))) (fun h => toGadgets_any _ _ _ _ h.r h.m (toq_some c57)) (fun a w v127 H F => ?_)
  refine x_end ?_
  refine x_tn ?_
  refine ⟨⟨_, H⟩, ?_⟩
  exact H138 b119 v121 v123 v125 v127 _ _ (F.sub (sc rfl (sc rfl (sc rfl (sc rfl (sc rfl (sc rfl (sc rfl (sc rfl (sc rfl (sc rfl (sc rfl sn)))))))))))) (H.s [1, 2, 3, 4, 0] rfl rfl) _ (by kernel_rfl)
 refine dp (fun G => ∀ (b111 : Nat) (v113 : Value) (v115 : Value) (a : Act) (w : World), Sk a 188 [(5, .pointer (some ⟨b14, 0, none⟩)), (6, .pointer (some ⟨b18, 0, none⟩)), (7, .pointer (some ⟨b22, 0, none⟩)), (8, .pointer (some ⟨b25, 0, none⟩)), (9, .pointer (some ⟨b28, 0, none⟩)), (12, .pointer (some ⟨b111, 0, none⟩)), (53, v113), (55, v115), (56, (.agg #[.int .i64 x2.size, v20])), (58, (.agg #[v23])), (60, (.agg #[v26]))] → Sep X71 N72 w76 w [bx b111 [(.slice none 0 0)] 37, ow (V := (Agg 2 RTemplate)) v113 (Template.mk x0.size x0.rels), ow (V := (Agg 2 RTemplate)) v115 (Template.mk x1.size x1.rels)] → ∀ ls, ls = #[true, true, true, true, true, false, true, false, true, false, false, false, false, false, true, false, false] → G 9 ls a w) ?_ (fun H116 => ?_)
 ·
  intro b111 v113 v115 a w F H ls hls
  subst hls
  refine xE H 5 rfl (by kernel_rfl) ?_
  refine nTo (V := Agg 2 RTemplate) F rfl Tryz.call13 rfl H (RTemplate.m i19 (H.a (e74 h21))) (fun h => toTemplate_any _ _ _ _ h.r h.m (toq_some c53)) (fun a w v117 H F => ?_)
  refine x_end ?_
  refine x_tn ?_
  refine ⟨⟨_, H⟩, ?_⟩
  exact H126 b111 v113 v115 v117 _ _ (F.sub (sc rfl (sc rfl (sc rfl (sc rfl (sc rfl (sc rfl (sc rfl (sc rfl (sc rfl (sc rfl (sc rfl sn)))))))))))) (H.s [1, 2, 3, 0] rfl rfl) _ (by kernel_rfl)
 refine dp (fun G => ∀ (b105 : Nat) (v107 : Value) (a : Act) (w : World), Sk a 188 [(5, .pointer (some ⟨b14, 0, none⟩)), (6, .pointer (some ⟨b18, 0, none⟩)), (7, .pointer (some ⟨b22, 0, none⟩)), (8, .pointer (some ⟨b25, 0, none⟩)), (9, .pointer (some ⟨b28, 0, none⟩)), (12, .pointer (some ⟨b105, 0, none⟩)), (53, v107), (54, (.agg #[.int .i64 x1.size, v16])), (56, (.agg #[.int .i64 x2.size, v20])), (58, (.agg #[v23])), (60, (.agg #[v26]))] → Sep X71 N72 w76 w [bx b105 [(.slice none 0 0)] 37, ow (V := (Agg 2 RTemplate)) v107 (Template.mk x0.size x0.rels)] → ∀ ls, ls = #[true, true, true, false, true, false, true, false, true, false, false, false, false, false, true, false, false] → G 10 ls a w) ?_ (fun H108 => ?_)
 ·
  intro b105 v107 a w F H ls hls
  subst hls
  refine xE H 3 rfl (by kernel_rfl) ?_
  refine nTo (V := Agg 2 RTemplate) F rfl Tryz.call13 rfl H (RTemplate.m i15 (H.a (e74 h17))) (fun h => toTemplate_any _ _ _ _ h.r h.m (toq_some c49)) (fun a w v109 H F => ?_)
  refine x_end ?_
  refine x_tn ?_
  refine ⟨⟨_, H⟩, ?_⟩
  exact H116 b105 v107 v109 _ _ (F.sub (sc rfl (sc rfl (sc rfl (sc rfl (sc rfl (sc rfl (sc rfl (sc rfl (sc rfl (sc rfl (sc rfl sn)))))))))))) (H.s [1, 2, 0] rfl rfl) _ (by kernel_rfl)
 refine b_q 0 (by kernel_rfl) rfl (by kernel_rfl) (by kernel_rfl) (by kernel_rfl) (by kernel_rfl) ?_
 refine vBA Tryz.isAgg24 Tryz.sizeOf24 F rfl rfl (K81.v H.sm) rfl rfl (fun a F => ?_)
 refine b_q 2 (by kernel_rfl) rfl (by kernel_rfl) (by kernel_rfl) (by kernel_rfl) (by kernel_rfl) ?_
 refine vBA Tryz.isAgg24 Tryz.sizeOf24 F rfl rfl (K80.v H.sm) rfl rfl (fun a F => ?_)
 refine b_q 4 (by kernel_rfl) rfl (by kernel_rfl) (by kernel_rfl) (by kernel_rfl) (by kernel_rfl) ?_
 refine vBA Tryz.isAgg24 Tryz.sizeOf24 F rfl rfl (K79.v H.sm) rfl rfl (fun a F => ?_)
 refine b_q 6 (by kernel_rfl) rfl (by kernel_rfl) (by kernel_rfl) (by kernel_rfl) (by kernel_rfl) ?_
 refine vBA Tryz.isAgg27 Tryz.sizeOf27 F rfl rfl (K78.v H.sm) rfl rfl (fun a F => ?_)
 refine b_q 8 (by kernel_rfl) rfl (by kernel_rfl) (by kernel_rfl) (by kernel_rfl) (by kernel_rfl) ?_
 refine vBA Tryz.isAgg27 Tryz.sizeOf27 F rfl rfl (K77.v H.sm) rfl rfl (fun a F => ?_)
 refine b_es [1, 14] (by kernel_rfl) (by simp) ⟨⟨_, rfl, ?_⟩, ⟨_, rfl, ?_⟩, trivial⟩
 ·
  refine xEs H ?_
  refine nTo (V := Agg 2 RTemplate) F rfl Tryz.call13 rfl H (RTemplate.m i11 (H.a (e74 h13))) (fun h => toTemplate_any _ _ _ _ h.r h.m (toq_some c45)) (fun a w v82 H F => ?_)
  refine x_end ?_
  refine x_tn ?_
  refine ⟨⟨_, H⟩, ?_⟩
  refine b_es [3, 14] (by kernel_rfl) (by simp) ⟨⟨_, rfl, ?_⟩, ⟨_, rfl, ?_⟩, trivial⟩
  ·
   refine xEs H ?_
   refine nTo (V := Agg 2 RTemplate) F rfl Tryz.call13 rfl H (RTemplate.m i15 (H.a (e74 h17))) (fun h => toTemplate_any _ _ _ _ h.r h.m (toq_some c49)) (fun a w v84 H F => ?_)
   refine x_end ?_
   refine x_tn ?_
   refine ⟨⟨_, H⟩, ?_⟩
   refine b_es [5, 14] (by kernel_rfl) (by simp) ⟨⟨_, rfl, ?_⟩, ⟨_, rfl, ?_⟩, trivial⟩
   ·
    refine xEs H ?_
    refine nTo (V := Agg 2 RTemplate) F rfl Tryz.call13 rfl H (RTemplate.m i19 (H.a (e74 h21))) (fun h => toTemplate_any _ _ _ _ h.r h.m (toq_some c53)) (fun a w v86 H F => ?_)
    refine x_end ?_
    refine x_tn ?_
    refine ⟨⟨_, H⟩, ?_⟩
    refine b_es [7, 14] (by kernel_rfl) (by simp) ⟨⟨_, rfl, ?_⟩, ⟨_, rfl, ?_⟩, trivial⟩
    ·
     refine xEs H ?_
     refine nTo (V := Agg 1 RGadgets) F rfl Tryz.call14 rfl H (RGadgets.m (H.a (e74 h24))) (fun h => toGadgets_any _ _ _ _ h.r h.m (toq_some c57)) (fun a w v88 H F => ?_)
     refine x_end ?_
     refine x_tn ?_
     refine ⟨⟨_, H⟩, ?_⟩
     refine b_es [9, 14] (by kernel_rfl) (by simp) ⟨⟨_, rfl, ?_⟩, ⟨_, rfl, ?_⟩, trivial⟩
     ·
      refine xEs H ?_
      refine nTo (V := Agg 1 RGadgets) F rfl Tryz.call14 rfl H (RGadgets.m (H.a (e74 h27))) (fun h => toGadgets_any _ _ _ _ h.r h.m (toq_some c61)) (fun a w v90 H F => ?_)
      refine x_end ?_
      refine x_tn ?_
      refine ⟨⟨_, H⟩, ?_⟩
      refine b_es [10, 14] (by kernel_rfl) (by simp) ⟨⟨_, rfl, ?_⟩, ⟨_, rfl, ?_⟩, trivial⟩
      ·
       refine xEs H ?_
       refine oG F rfl Tryz.call25 rfl (spec_ComposeGadgets_c z64 c65 _ aA (H.o 4 rfl) (H.o 3 rfl) (H.o 2 rfl) (H.o 1 rfl) (H.o 0 rfl)) (fun a vv w ⟨v92, hv95, S, i94⟩ F => ?_)
       subst vv
       have H := H.r1 S n0
       refine x_end ?_
       refine x_tn ?_
       refine ⟨⟨_, H⟩, ?_⟩
       refine b_q0 11 rfl (by kernel_rfl) (by kernel_rfl) (by kernel_rfl) ?_
       refine v_val F rfl (fun w l => r_move F rfl) (fun a F => ?_)
       refine b_q0 12 rfl (by kernel_rfl) (by kernel_rfl) (by kernel_rfl) ?_
       refine v_val F rfl (fun w l => r_extract F rfl rfl) (fun a F => ?_)
       refine b_q0 13 rfl (by kernel_rfl) (by kernel_rfl) (by kernel_rfl) ?_
       refine v_val F rfl (fun w l => r_extract F rfl rfl) (fun a F => ?_)
       refine xE H 14 rfl (by kernel_rfl) ?_
       refine oA Tryz.zeroValue37 F rfl rfl H (fun a w b96 H F => ?_)
       refine x_end ?_
       refine x_tn ?_
       refine ⟨⟨_, H⟩, ?_⟩
       exact H161 b96 v92 _ _ (F.sub (sc rfl (sc rfl (sc rfl (sc rfl (sc rfl (sc rfl (sc rfl (sc rfl sn))))))))) (H.s [0, 1] rfl rfl) i94 _ (by kernel_rfl)
      refine xEs H ?_
      refine oA Tryz.zeroValue37 F rfl rfl H (fun a w b97 H F => ?_)
      refine x_end ?_
      refine x_tn ?_
      refine ⟨⟨_, H⟩, ?_⟩
      exact H152 b97 v82 v84 v86 v88 v90 _ _ (F.sub (sc rfl (sc rfl (sc rfl (sc rfl (sc rfl (sc rfl (sc rfl (sc rfl (sc rfl (sc rfl (sc rfl sn)))))))))))) (H.s [0, 5, 4, 3, 2, 1] rfl rfl) _ (by kernel_rfl)
     refine xEs H ?_
     refine oA Tryz.zeroValue37 F rfl rfl H (fun a w b98 H F => ?_)
     refine x_end ?_
     refine x_tn ?_
     refine ⟨⟨_, H⟩, ?_⟩
     exact H138 b98 v82 v84 v86 v88 _ _ (F.sub (sc rfl (sc rfl (sc rfl (sc rfl (sc rfl (sc rfl (sc rfl (sc rfl (sc rfl (sc rfl (sc rfl sn)))))))))))) (H.s [0, 4, 3, 2, 1] rfl rfl) _ (by kernel_rfl)
    refine xEs H ?_
    refine oA Tryz.zeroValue37 F rfl rfl H (fun a w b99 H F => ?_)
    refine x_end ?_
    refine x_tn ?_
    refine ⟨⟨_, H⟩, ?_⟩
    exact H126 b99 v82 v84 v86 _ _ (F.sub (sc rfl (sc rfl (sc rfl (sc rfl (sc rfl (sc rfl (sc rfl (sc rfl (sc rfl (sc rfl (sc rfl sn)))))))))))) (H.s [0, 3, 2, 1] rfl rfl) _ (by kernel_rfl)
   refine xEs H ?_
   refine oA Tryz.zeroValue37 F rfl rfl H (fun a w b100 H F => ?_)
   refine x_end ?_
   refine x_tn ?_
   refine ⟨⟨_, H⟩, ?_⟩
   exact H116 b100 v82 v84 _ _ (F.sub (sc rfl (sc rfl (sc rfl (sc rfl (sc rfl (sc rfl (sc rfl (sc rfl (sc rfl (sc rfl (sc rfl sn)))))))))))) (H.s [0, 2, 1] rfl rfl) _ (by kernel_rfl)
  refine xEs H ?_
  refine oA Tryz.zeroValue37 F rfl rfl H (fun a w b101 H F => ?_)
  refine x_end ?_
  refine x_tn ?_
  refine ⟨⟨_, H⟩, ?_⟩
  exact H108 b101 v82 _ _ (F.sub (sc rfl (sc rfl (sc rfl (sc rfl (sc rfl (sc rfl (sc rfl (sc rfl (sc rfl (sc rfl (sc rfl sn)))))))))))) H _ (by kernel_rfl)
 refine xEs H ?_
 refine oA Tryz.zeroValue37 F rfl rfl H (fun a w b102 H F => ?_)
 refine x_end ?_
 refine x_tn ?_
 refine ⟨⟨_, H⟩, ?_⟩
 refine xE H 1 rfl (by kernel_rfl) ?_
 refine nTo (V := Agg 2 RTemplate) F rfl Tryz.call13 rfl H (RTemplate.m i11 (H.a (e74 h13))) (fun h => toTemplate_any _ _ _ _ h.r h.m (toq_some c45)) (fun a w v103 H F => ?_)
 refine x_end ?_
 refine x_tn ?_
 refine ⟨⟨_, H⟩, ?_⟩
 exact H108 b102 v103 _ _ (F.sub (sc rfl (sc rfl (sc rfl (sc rfl (sc rfl (sc rfl (sc rfl (sc rfl (sc rfl (sc rfl (sc rfl sn)))))))))))) (H.s [1, 0] rfl rfl) _ (by kernel_rfl)
end
end Go.Proofs.YtmgdjaiaekhkgaaGreat
