/-
  Laws of the program as plain functions, and that they compute them. Printed by slaw.py.
-/
import Derived.Test.YtmgdjaiaekhkgaaGreatS3
import Derived.Test.YtmgdjaiaekhkgaaGreatNY
import Derived.Test.YtmgdjaiaekhkgaaGreatL2
import Derived.Test.YtmgdjaiaekhkgaaGreatL3
namespace Go.Proofs.YtmgdjaiaekhkgaaGreat
set_option linter.unusedVariables false
set_option linter.unusedSimpArgs false
set_option maxRecDepth 100000
open Go.RowKit
noncomputable section
def laws_FnExactValidGadgets (N : Nat) (x0 : Template) (x1 : Template) (x2 : Gadgets) : Option Bool :=
 bnd (szq 1048576 ((Template.mk x0.size x0.rels).sz)) fun z22 =>
 if (decide (z22 < 0)) then
  some true
 else
  bnd (szq z22 ((Template.mk x1.size x1.rels).sz)) fun z25 =>
  if (decide (z25 < 0)) then
   some true
  else
   bnd (szq z25 ((Gadgets.mk x2.formulas).sz)) fun z28 =>
   if (decide (z28 < 0)) then
    some true
   else
    bnd (toq ((Template.mk x0.size x0.rels).sz)) fun z31 =>
    bnd (toq ((Template.mk x1.size x1.rels).sz)) fun z35 =>
    bnd (toq ((Gadgets.mk x2.formulas).sz)) fun z39 =>
    bnd (spec_ValidGadgets N (Template.mk x0.size x0.rels) (Template.mk x1.size x1.rels) (Gadgets.mk x2.formulas)) fun z43 =>
    bnd (impl_ValidGadgets N (Template.mk x0.size x0.rels) (Template.mk x1.size x1.rels) (Gadgets.mk x2.formulas)) fun z77 =>
    if (z77 != z43) then
     some false
    else
     bnd (eqq (Template.mk x0.size x0.rels) (Template.mk x0.size x0.rels)) fun z82 =>
     if (!z82) then
      some false
     else
      bnd (eqq (Template.mk x1.size x1.rels) (Template.mk x1.size x1.rels)) fun z96 =>
      if (!z96) then
       some false
      else
       bnd (eqq (Gadgets.mk x2.formulas) (Gadgets.mk x2.formulas)) fun z110 =>
       if (!z110) then
        some false
       else
        some true
set_option maxHeartbeats 1000000 in
theorem laws_FnExactValidGadgets_c {B : Nat → Prop} {N : Nat} {x0 : Template} {x1 : Template} {x2 : Gadgets} (r : Bool) (hR : laws_FnExactValidGadgets N x0 x1 x2 = some r) {v0 : Value} {v1 : Value} {v2 : Value} (w0 : World) (hN : ∀ c, B c → c < w0.heap.size) (A0 : Bo B w0 (Agg 2 RTemplate) v0 x0) (A1 : Bo B w0 (Agg 2 RTemplate) v1 x1) (A2 : Bo B w0 (Agg 1 RGadgets) v2 x2) : Calls Tryz.prog 3 #[v0, v1, v2] w0 (Says (.bool r) w0) := by
 unfold laws_FnExactValidGadgets at hR
 refine x_enter (L := [(0, v0), (1, v1), (2, v2)]) Tryz.func3 rfl rfl rfl (sc rfl (sc rfl (sc rfl sn))) (fun a F => ?_)
 have H := Sep.start hN
 refine x_seq ?_
 refine x_reg ?_
 obtain ⟨v12, rfl, i11, h13⟩ := RTemplate.o A0
 refine oX F rfl rfl rfl H (fun a w b14 H F => ?_)
 obtain ⟨v16, rfl, i15, h17⟩ := RTemplate.o A1
 refine oX F rfl rfl rfl H (fun a w b18 H F => ?_)
 obtain ⟨v19, rfl, h20⟩ := RGadgets.o A2
 refine oX F rfl rfl rfl H (fun a w b21 H F => ?_)
 refine o_assign F rfl rfl (fun a F => ?_)
 refine x_end ?_
 refine x_tn ?_
 refine x_seq ?_
 refine x_reg ?_
 refine o_assign F rfl rfl (fun a F => ?_)
 refine x_end ?_
 refine x_tn ?_
 refine x_seq ?_
 refine x_reg ?_
 refine oBA Tryz.isAgg24 Tryz.sizeOf24 F rfl rfl (H.b 2 rfl) rfl rfl (fun a F => ?_)
 refine o_move F rfl rfl (fun a F => ?_)
 obtain ⟨z22, c23, hR⟩ := bnd_some hR
 refine nSz (V := Agg 2 RTemplate) F rfl Tryz.call10 rfl H (RTemplate.m i11 (H.a h13)) c23 (fun h h0 h1 => szTemplate_any _ _ _ _ _ h.r h.m h0 h1) (fun a w H iz22 F => ?_)
 refine o_assign F rfl rfl (fun a F => ?_)
 refine x_end ?_
 refine x_tn ?_
 refine x_seq ?_
 refine x_seq ?_
 refine x_reg ?_
 refine o_move F rfl rfl (fun a F => ?_)
 refine o_lss F rfl rfl rfl (fun a F => ?_)
 refine x_end ?_
 refine x_tn ?_
 refine x_if F rfl (fun hb24 => ?_) (fun hb24 => ?_)
 ·
  replace hR := ifT hb24 hR
  refine x_seq ?_
  refine x_reg ?_
  refine o_assign F rfl rfl (fun a F => ?_)
  refine x_end ?_
  refine x_tn ?_
  refine x_ret ?_
  refine x_tr ?_
  refine x_res1 F rfl (rv_t F rfl) ?_
  obtain rfl := Option.some.inj hR
  exact ⟨rfl, H.bl⟩
 replace hR := ifF hb24 hR
 refine x_skip ?_
 refine x_tn ?_
 refine x_seq ?_
 refine x_reg ?_
 refine oBA Tryz.isAgg24 Tryz.sizeOf24 F rfl rfl (H.b 1 rfl) rfl rfl (fun a F => ?_)
 refine o_move F rfl rfl (fun a F => ?_)
 obtain ⟨z25, c26, hR⟩ := bnd_some hR
 refine nSz (V := Agg 2 RTemplate) F rfl Tryz.call10 rfl H (RTemplate.m i15 (H.a h17)) c26 (fun h h0 h1 => szTemplate_any _ _ _ _ _ h.r h.m h0 h1) (fun a w H iz25 F => ?_)
 refine o_assign F rfl rfl (fun a F => ?_)
 refine x_end ?_
 refine x_tn ?_
 refine x_seq ?_
 refine x_seq ?_
 refine x_reg ?_
 refine o_move F rfl rfl (fun a F => ?_)
 refine o_lss F rfl rfl rfl (fun a F => ?_)
 refine x_end ?_
 refine x_tn ?_
 refine x_if F rfl (fun hb27 => ?_) (fun hb27 => ?_)
 ·
  replace hR := ifT hb27 hR
  refine x_seq ?_
  refine x_reg ?_
  refine o_assign F rfl rfl (fun a F => ?_)
  refine x_end ?_
  refine x_tn ?_
  refine x_ret ?_
  refine x_tr ?_
  refine x_res1 F rfl (rv_t F rfl) ?_
  obtain rfl := Option.some.inj hR
  exact ⟨rfl, H.bl⟩
 replace hR := ifF hb27 hR
 refine x_skip ?_
 refine x_tn ?_
 refine x_seq ?_
 refine x_reg ?_
 refine oBA Tryz.isAgg27 Tryz.sizeOf27 F rfl rfl (H.b 0 rfl) rfl rfl (fun a F => ?_)
 refine o_move F rfl rfl (fun a F => ?_)
 obtain ⟨z28, c29, hR⟩ := bnd_some hR
 refine nSz (V := Agg 1 RGadgets) F rfl Tryz.call11 rfl H (RGadgets.m (H.a h20)) c29 (fun h h0 h1 => szGadgets_any _ _ _ _ _ h.r h.m h0 h1) (fun a w H iz28 F => ?_)
 refine o_assign F rfl rfl (fun a F => ?_)
 refine x_end ?_
 refine x_tn ?_
 refine x_seq ?_
 refine x_seq ?_
 refine x_reg ?_
 refine o_move F rfl rfl (fun a F => ?_)
 refine o_lss F rfl rfl rfl (fun a F => ?_)
 refine x_end ?_
 refine x_tn ?_
 refine x_if F rfl (fun hb30 => ?_) (fun hb30 => ?_)
 ·
  replace hR := ifT hb30 hR
  refine x_seq ?_
  refine x_reg ?_
  refine o_assign F rfl rfl (fun a F => ?_)
  refine x_end ?_
  refine x_tn ?_
  refine x_ret ?_
  refine x_tr ?_
  refine x_res1 F rfl (rv_t F rfl) ?_
  obtain rfl := Option.some.inj hR
  exact ⟨rfl, H.bl⟩
 replace hR := ifF hb30 hR
 refine x_skip ?_
 refine x_tn ?_
 refine x_seq ?_
 obtain ⟨z31, c32, hR⟩ := bnd_some hR
 obtain ⟨z35, c36, hR⟩ := bnd_some hR
 obtain ⟨z39, c40, hR⟩ := bnd_some hR
 obtain ⟨z43, c44, hR⟩ := bnd_some hR
 obtain ⟨w50, rfl⟩ : ∃ x, x = w := ⟨_, rfl⟩
 obtain ⟨X45, N46, g47, e48, H, th49⟩ := H.mg.mg.fz
 have K51 := g47.l.l.bk
 have K52 := g47.l.r.bk
 have K53 := g47.r.bk
 refine xD H (by kernel_rfl) (fun w H => ?_)
 refine b_q 0 (by kernel_rfl) rfl (by kernel_rfl) (by kernel_rfl) (by kernel_rfl) (by kernel_rfl) ?_
 refine vBA Tryz.isAgg24 Tryz.sizeOf24 F rfl rfl (K53.v H.sm) rfl rfl (fun a F => ?_)
 refine b_q 2 (by kernel_rfl) rfl (by kernel_rfl) (by kernel_rfl) (by kernel_rfl) (by kernel_rfl) ?_
 refine vBA Tryz.isAgg24 Tryz.sizeOf24 F rfl rfl (K52.v H.sm) rfl rfl (fun a F => ?_)
 refine b_q 4 (by kernel_rfl) rfl (by kernel_rfl) (by kernel_rfl) (by kernel_rfl) (by kernel_rfl) ?_
 refine vBA Tryz.isAgg27 Tryz.sizeOf27 F rfl rfl (K51.v H.sm) rfl rfl (fun a F => ?_)
 refine xE H 1 rfl (by kernel_rfl) ?_
 refine nTo (V := Agg 2 RTemplate) F rfl Tryz.call13 rfl H (RTemplate.m i11 (H.a (e48 h13))) (fun h => toTemplate_any _ _ _ _ h.r h.m (toq_some c32)) (fun a w v54 H F => ?_)
 refine x_end ?_
 refine x_tn ?_
 refine ⟨⟨_, H⟩, ?_⟩
 refine xE H 3 rfl (by kernel_rfl) ?_
 refine nTo (V := Agg 2 RTemplate) F rfl Tryz.call13 rfl H (RTemplate.m i15 (H.a (e48 h17))) (fun h => toTemplate_any _ _ _ _ h.r h.m (toq_some c36)) (fun a w v56 H F => ?_)
 refine x_end ?_
 refine x_tn ?_
 refine ⟨⟨_, H⟩, ?_⟩
 refine xE H 5 rfl (by kernel_rfl) ?_
 refine nTo (V := Agg 1 RGadgets) F rfl Tryz.call14 rfl H (RGadgets.m (H.a (e48 h20))) (fun h => toGadgets_any _ _ _ _ h.r h.m (toq_some c40)) (fun a w v58 H F => ?_)
 refine x_end ?_
 refine x_tn ?_
 refine ⟨⟨_, H⟩, ?_⟩
 refine xE H 6 rfl (by kernel_rfl) ?_
 refine oK F rfl Tryz.call12 rfl H (spec_ValidGadgets_c z43 c44 _ aA (H.o 2 rfl) (H.o 1 rfl) (H.o 0 rfl)) (fun a w H F => ?_)
 refine x_end ?_
 refine x_tn ?_
 refine ⟨⟨_, H⟩, ?_⟩
 refine b_q0 7 rfl (by kernel_rfl) (by kernel_rfl) (by kernel_rfl) ?_
 refine v_val F rfl (fun w l => r_assign F rfl) (fun a F => ?_)
 refine b_end (by kernel_rfl) ?_
 refine x_tn ?_
 refine x_seq ?_
 refine x_reg ?_
 refine oBA Tryz.isAgg24 Tryz.sizeOf24 F rfl rfl (K53.o H.sm) rfl rfl (fun a F => ?_)
 refine nTo (V := Agg 2 RTemplate) F rfl Tryz.call13 rfl H (RTemplate.m i11 (H.a (e48 h13))) (fun h => toTemplate_any _ _ _ _ h.r h.m (toq_some c32)) (fun a w v60 H F => ?_)
 refine oA Tryz.zeroValue33 F rfl rfl H (fun a w b62 H F => ?_)
 obtain ⟨v64, rfl, i63, h65⟩ := RTemplate.o (H.o 1 rfl)
 refine oWA (vs := [.int .i64 ((Template.mk x0.size x0.rels).size), v64]) Tryz.sizeOf33 F rfl rfl rfl H (oc rfl (oc h65.one on)) rfl rfl (fun w H => ?_)
 refine x_end ?_
 refine x_tn ?_
 refine x_seq ?_
 refine x_reg ?_
 refine oBA Tryz.isAgg24 Tryz.sizeOf24 F rfl rfl (K52.o H.sm) rfl rfl (fun a F => ?_)
 refine nTo (V := Agg 2 RTemplate) F rfl Tryz.call13 rfl H (RTemplate.m i15 (H.a (e48 h17))) (fun h => toTemplate_any _ _ _ _ h.r h.m (toq_some c36)) (fun a w v66 H F => ?_)
 refine oA Tryz.zeroValue33 F rfl rfl H (fun a w b68 H F => ?_)
 obtain ⟨v70, rfl, i69, h71⟩ := RTemplate.o (H.o 1 rfl)
 refine oWA (vs := [.int .i64 ((Template.mk x1.size x1.rels).size), v70]) Tryz.sizeOf33 F rfl rfl rfl H (oc rfl (oc h71.one on)) rfl rfl (fun w H => ?_)
 refine x_end ?_
 refine x_tn ?_
 refine x_seq ?_
 refine x_reg ?_
 refine oBA Tryz.isAgg27 Tryz.sizeOf27 F rfl rfl (K51.o H.sm) rfl rfl (fun a F => ?_)
 refine nTo (V := Agg 1 RGadgets) F rfl Tryz.call14 rfl H (RGadgets.m (H.a (e48 h20))) (fun h => toGadgets_any _ _ _ _ h.r h.m (toq_some c40)) (fun a w v72 H F => ?_)
 refine oA Tryz.zeroValue37 F rfl rfl H (fun a w b74 H F => ?_)
 obtain ⟨v75, rfl, h76⟩ := RGadgets.o (H.o 1 rfl)
 refine oWA (vs := [v75]) Tryz.sizeOf37 F rfl rfl rfl H (oc h76.one on) rfl rfl (fun w H => ?_)
 refine x_end ?_
 refine x_tn ?_
 refine x_seq ?_
 refine x_reg ?_
 refine oBA Tryz.isAgg33 Tryz.sizeOf33 F rfl rfl (H.b 4 rfl) rfl rfl (fun a F => ?_)
 refine oBA Tryz.isAgg33 Tryz.sizeOf33 F rfl rfl (H.b 2 rfl) rfl rfl (fun a F => ?_)
 refine oBA Tryz.isAgg37 Tryz.sizeOf37 F rfl rfl (H.b 0 rfl) rfl rfl (fun a F => ?_)
 obtain ⟨z77, c78, hR⟩ := bnd_some hR
 refine oK F rfl Tryz.call15 rfl H (impl_ValidGadgets_c z77 c78 _ aA (H.o 5 rfl) (H.o 3 rfl) (H.o 1 rfl)) (fun a w H F => ?_)
 refine o_assign F rfl rfl (fun a F => ?_)
 refine x_end ?_
 refine x_tn ?_
 refine x_seq ?_
 refine x_seq ?_
 refine x_reg ?_
 refine o_move F rfl rfl (fun a F => ?_)
 refine o_move F rfl rfl (fun a F => ?_)
 refine o_neqB Tryz.underlying4 F rfl rfl rfl (fun a F => ?_)
 refine x_end ?_
 refine x_tn ?_
 refine x_if F rfl (fun hb79 => ?_) (fun hb79 => ?_)
 ·
  replace hR := ifT hb79 hR
  refine x_seq ?_
  refine x_reg ?_
  refine o_assign F rfl rfl (fun a F => ?_)
  refine x_end ?_
  refine x_tn ?_
  refine x_ret ?_
  refine x_tr ?_
  have H := (th49.1 H (Ns.all ⟨n0, ⟨n0, ⟨n0, ⟨n0, ⟨n0, ⟨n0, ⟨n0, ⟨n0, ⟨n0, trivial⟩⟩⟩⟩⟩⟩⟩⟩⟩)).um.um
  refine x_res1 F rfl (rv_t F rfl) ?_
  obtain rfl := Option.some.inj hR
  exact ⟨rfl, H.bl⟩
 replace hR := ifF hb79 hR
 refine x_skip ?_
 refine x_tn ?_
 refine x_seq ?_
 refine x_seq ?_
 obtain ⟨z82, c83, hR⟩ := bnd_some hR
 obtain ⟨w89, rfl⟩ : ∃ x, x = w := ⟨_, rfl⟩
 obtain ⟨X84, N85, g86, e87, H, th88⟩ := (H.s [4, 0, 1, 2, 3, 5, 6, 7, 8] rfl rfl).fz
 have K90 := g86.bk
 refine xD H (by kernel_rfl) (fun w H => ?_)
 refine b_q 0 (by kernel_rfl) rfl (by kernel_rfl) (by kernel_rfl) (by kernel_rfl) (by kernel_rfl) ?_
 refine vBA Tryz.isAgg33 Tryz.sizeOf33 F rfl rfl (K90.v H.sm) rfl rfl (fun a F => ?_)
 refine b_q 1 (by kernel_rfl) rfl (by kernel_rfl) (by kernel_rfl) (by kernel_rfl) (by kernel_rfl) ?_
 refine vBA Tryz.isAgg24 Tryz.sizeOf24 F rfl rfl ((K53.lf e87).v H.sm) rfl rfl (fun a F => ?_)
 refine xE H 2 rfl (by kernel_rfl) ?_
 refine nTo (V := Agg 2 RTemplate) F rfl Tryz.call13 rfl H (RTemplate.m i11 (H.a (e87 (e48 h13)))) (fun h => toTemplate_any _ _ _ _ h.r h.m (toq_some c32)) (fun a w v91 H F => ?_)
 refine x_end ?_
 refine x_tn ?_
 refine ⟨⟨_, H⟩, ?_⟩
 refine xE H 3 rfl (by kernel_rfl) ?_
 refine nEq (V := Agg 2 RTemplate) F rfl Tryz.call16 rfl H (H.o 5 rfl) (H.o 0 rfl) c83 (fun h g => eqTemplate_any _ _ _ _ _ _ h.r g.r h.m g.m) (fun a w H F => ?_)
 refine x_end ?_
 refine x_tn ?_
 refine ⟨⟨_, H⟩, ?_⟩
 refine b_q0 4 rfl (by kernel_rfl) (by kernel_rfl) (by kernel_rfl) ?_
 refine v_val F rfl (fun w l => r_not F rfl) (fun a F => ?_)
 refine b_end (by kernel_rfl) ?_
 refine x_tn ?_
 refine x_if F rfl (fun hb93 => ?_) (fun hb93 => ?_)
 ·
  replace hR := ifT hb93 hR
  refine x_seq ?_
  refine x_reg ?_
  refine o_assign F rfl rfl (fun a F => ?_)
  refine x_end ?_
  refine x_tn ?_
  refine x_ret ?_
  refine x_tr ?_
  have H := (th49.1 (th88.1 H (Ns.all ⟨n0, ⟨n0, ⟨n0, ⟨n0, ⟨n0, ⟨n0, ⟨n0, ⟨n0, ⟨n0, trivial⟩⟩⟩⟩⟩⟩⟩⟩⟩)) (Ns.all ⟨n0, ⟨n0, ⟨n0, ⟨n0, ⟨n0, ⟨n0, ⟨n0, ⟨n0, ⟨n0, ⟨n0, trivial⟩⟩⟩⟩⟩⟩⟩⟩⟩⟩)).um.um
  refine x_res1 F rfl (rv_t F rfl) ?_
  obtain rfl := Option.some.inj hR
  exact ⟨rfl, H.bl⟩
 replace hR := ifF hb93 hR
 refine x_skip ?_
 refine x_tn ?_
 refine x_seq ?_
 refine x_seq ?_
 obtain ⟨z96, c97, hR⟩ := bnd_some hR
 obtain ⟨w103, rfl⟩ : ∃ x, x = w := ⟨_, rfl⟩
 obtain ⟨X98, N99, g100, e101, H, th102⟩ := (H.s [3, 0, 1, 2, 4, 5, 6, 7, 8] rfl rfl).fz
 have K104 := g100.bk
 refine xD H (by kernel_rfl) (fun w H => ?_)
 refine b_q 0 (by kernel_rfl) rfl (by kernel_rfl) (by kernel_rfl) (by kernel_rfl) (by kernel_rfl) ?_
 refine vBA Tryz.isAgg33 Tryz.sizeOf33 F rfl rfl (K104.v H.sm) rfl rfl (fun a F => ?_)
 refine b_q 1 (by kernel_rfl) rfl (by kernel_rfl) (by kernel_rfl) (by kernel_rfl) (by kernel_rfl) ?_
 refine vBA Tryz.isAgg24 Tryz.sizeOf24 F rfl rfl (((K52.lf e87).lf e101).v H.sm) rfl rfl (fun a F => ?_)
 refine xE H 2 rfl (by kernel_rfl) ?_
 refine nTo (V := Agg 2 RTemplate) F rfl Tryz.call13 rfl H (RTemplate.m i15 (H.a (e101 (e87 (e48 h17))))) (fun h => toTemplate_any _ _ _ _ h.r h.m (toq_some c36)) (fun a w v105 H F => ?_)
 refine x_end ?_
 refine x_tn ?_
 refine ⟨⟨_, H⟩, ?_⟩
 refine xE H 3 rfl (by kernel_rfl) ?_
 refine nEq (V := Agg 2 RTemplate) F rfl Tryz.call16 rfl H (H.o 4 rfl) (H.o 0 rfl) c97 (fun h g => eqTemplate_any _ _ _ _ _ _ h.r g.r h.m g.m) (fun a w H F => ?_)
 refine x_end ?_
 refine x_tn ?_
 refine ⟨⟨_, H⟩, ?_⟩
 refine b_q0 4 rfl (by kernel_rfl) (by kernel_rfl) (by kernel_rfl) ?_
 refine v_val F rfl (fun w l => r_not F rfl) (fun a F => ?_)
 refine b_end (by kernel_rfl) ?_
 refine x_tn ?_
 refine x_if F rfl (fun hb107 => ?_) (fun hb107 => ?_)
 ·
  replace hR := ifT hb107 hR
  refine x_seq ?_
  refine x_reg ?_
  refine o_assign F rfl rfl (fun a F => ?_)
  refine x_end ?_
  refine x_tn ?_
  refine x_ret ?_
  refine x_tr ?_
  have H := (th49.1 (th88.1 (th102.1 H (Ns.all ⟨n0, ⟨n0, ⟨n0, ⟨n0, ⟨n0, ⟨n0, ⟨n0, ⟨n0, ⟨n0, trivial⟩⟩⟩⟩⟩⟩⟩⟩⟩)) (Ns.all ⟨n0, ⟨n0, ⟨n0, ⟨n0, ⟨n0, ⟨n0, ⟨n0, ⟨n0, ⟨n0, ⟨n0, trivial⟩⟩⟩⟩⟩⟩⟩⟩⟩⟩)) (Ns.all ⟨n0, ⟨n0, ⟨n0, ⟨n0, ⟨n0, ⟨n0, ⟨n0, ⟨n0, ⟨n0, ⟨n0, ⟨n0, trivial⟩⟩⟩⟩⟩⟩⟩⟩⟩⟩⟩)).um.um
  refine x_res1 F rfl (rv_t F rfl) ?_
  obtain rfl := Option.some.inj hR
  exact ⟨rfl, H.bl⟩
 replace hR := ifF hb107 hR
 refine x_skip ?_
 refine x_tn ?_
 refine x_seq ?_
 refine x_seq ?_
 obtain ⟨z110, c111, hR⟩ := bnd_some hR
 obtain ⟨w117, rfl⟩ : ∃ x, x = w := ⟨_, rfl⟩
 obtain ⟨X112, N113, g114, e115, H, th116⟩ := (H.s [2, 0, 1, 3, 4, 5, 6, 7, 8] rfl rfl).fz
 have K118 := g114.bk
 refine xD H (by kernel_rfl) (fun w H => ?_)
 refine b_q 0 (by kernel_rfl) rfl (by kernel_rfl) (by kernel_rfl) (by kernel_rfl) (by kernel_rfl) ?_
 refine vBA Tryz.isAgg37 Tryz.sizeOf37 F rfl rfl (K118.v H.sm) rfl rfl (fun a F => ?_)
 refine b_q 1 (by kernel_rfl) rfl (by kernel_rfl) (by kernel_rfl) (by kernel_rfl) (by kernel_rfl) ?_
 refine vBA Tryz.isAgg27 Tryz.sizeOf27 F rfl rfl ((((K51.lf e87).lf e101).lf e115).v H.sm) rfl rfl (fun a F => ?_)
 refine xE H 2 rfl (by kernel_rfl) ?_
 refine nTo (V := Agg 1 RGadgets) F rfl Tryz.call14 rfl H (RGadgets.m (H.a (e115 (e101 (e87 (e48 h20)))))) (fun h => toGadgets_any _ _ _ _ h.r h.m (toq_some c40)) (fun a w v119 H F => ?_)
 refine x_end ?_
 refine x_tn ?_
 refine ⟨⟨_, H⟩, ?_⟩
 refine xE H 3 rfl (by kernel_rfl) ?_
 refine nEq (V := Agg 1 RGadgets) F rfl Tryz.call17 rfl H (H.o 3 rfl) (H.o 0 rfl) c111 (fun h g => eqGadgets_any _ _ _ _ _ _ h.r g.r h.m g.m) (fun a w H F => ?_)
 refine x_end ?_
 refine x_tn ?_
 refine ⟨⟨_, H⟩, ?_⟩
 refine b_q0 4 rfl (by kernel_rfl) (by kernel_rfl) (by kernel_rfl) ?_
 refine v_val F rfl (fun w l => r_not F rfl) (fun a F => ?_)
 refine b_end (by kernel_rfl) ?_
 refine x_tn ?_
 refine x_if F rfl (fun hb121 => ?_) (fun hb121 => ?_)
 ·
  replace hR := ifT hb121 hR
  refine x_seq ?_
  refine x_reg ?_
  refine o_assign F rfl rfl (fun a F => ?_)
  refine x_end ?_
  refine x_tn ?_
  refine x_ret ?_
  refine x_tr ?_
  have H := (th49.1 (th88.1 (th102.1 (th116.1 H (Ns.all ⟨n0, ⟨n0, ⟨n0, ⟨n0, ⟨n0, ⟨n0, ⟨n0, ⟨n0, ⟨n0, trivial⟩⟩⟩⟩⟩⟩⟩⟩⟩)) (Ns.all ⟨n0, ⟨n0, ⟨n0, ⟨n0, ⟨n0, ⟨n0, ⟨n0, ⟨n0, ⟨n0, ⟨n0, trivial⟩⟩⟩⟩⟩⟩⟩⟩⟩⟩)) (Ns.all ⟨n0, ⟨n0, ⟨n0, ⟨n0, ⟨n0, ⟨n0, ⟨n0, ⟨n0, ⟨n0, ⟨n0, ⟨n0, trivial⟩⟩⟩⟩⟩⟩⟩⟩⟩⟩⟩)) (Ns.all ⟨n0, ⟨n0, ⟨n0, ⟨n0, ⟨n0, ⟨n0, ⟨n0, ⟨n0, ⟨n0, ⟨n0, ⟨n0, ⟨n0, trivial⟩⟩⟩⟩⟩⟩⟩⟩⟩⟩⟩⟩)).um.um
  refine x_res1 F rfl (rv_t F rfl) ?_
  obtain rfl := Option.some.inj hR
  exact ⟨rfl, H.bl⟩
 replace hR := ifF hb121 hR
 refine x_skip ?_
 refine x_tn ?_
 refine x_seq ?_
 refine x_reg ?_
 refine o_assign F rfl rfl (fun a F => ?_)
 refine x_end ?_
 refine x_tn ?_
 refine x_ret ?_
 have H := (th49.1 (th88.1 (th102.1 (th116.1 H (Ns.all ⟨n0, ⟨n0, ⟨n0, ⟨n0, ⟨n0, ⟨n0, ⟨n0, ⟨n0, ⟨n0, trivial⟩⟩⟩⟩⟩⟩⟩⟩⟩)) (Ns.all ⟨n0, ⟨n0, ⟨n0, ⟨n0, ⟨n0, ⟨n0, ⟨n0, ⟨n0, ⟨n0, ⟨n0, trivial⟩⟩⟩⟩⟩⟩⟩⟩⟩⟩)) (Ns.all ⟨n0, ⟨n0, ⟨n0, ⟨n0, ⟨n0, ⟨n0, ⟨n0, ⟨n0, ⟨n0, ⟨n0, ⟨n0, trivial⟩⟩⟩⟩⟩⟩⟩⟩⟩⟩⟩)) (Ns.all ⟨n0, ⟨n0, ⟨n0, ⟨n0, ⟨n0, ⟨n0, ⟨n0, ⟨n0, ⟨n0, ⟨n0, ⟨n0, ⟨n0, trivial⟩⟩⟩⟩⟩⟩⟩⟩⟩⟩⟩⟩)).um.um
 refine x_res1 F rfl (rv_t F rfl) ?_
 obtain rfl := Option.some.inj hR
 exact ⟨rfl, H.bl⟩
end
end Go.Proofs.YtmgdjaiaekhkgaaGreat
