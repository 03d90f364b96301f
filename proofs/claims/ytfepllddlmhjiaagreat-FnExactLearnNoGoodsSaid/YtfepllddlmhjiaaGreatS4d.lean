/-
  Functions of the program as plain functions, and that they compute them. Printed by fxio.py.
-/
import Derived.Test.YtfepllddlmhjiaaGreatS3b
namespace Go.Proofs.YtfepllddlmhjiaaGreat
set_option linter.unusedVariables false
set_option linter.unusedSimpArgs false
set_option maxRecDepth 100000
open Go.RowKit
def slices_Clone_s_Literal_Literal (x0 : List Literal) : Option (List Literal) :=
 bnd (ap ([]) x0) fun z18 =>
 some z18
set_option maxHeartbeats 1000000 in
theorem slices_Clone_s_Literal_Literal_c {x0 : List Literal} (r : (List Literal)) (hR : slices_Clone_s_Literal_Literal x0 = some r) {v0 : Value} {b0 : List Nat} (w0 : World) (A0 : Rd (Sl 2 RLiteral) w0 v0 x0 b0) : Calls Tryz.prog 117 #[v0] w0 (Gives (fun v w' => ∃ (v1' : Value) (rb2' : List Nat), v = v1' ∧ Row 2 RLiteral 136 w0.heap.size w' v1' r rb2' []) w0) := by
 unfold slices_Clone_s_Literal_Literal at hR
 refine x_enter (L := [(0, v0)]) Tryz.func117 rfl rfl rfl (sc rfl sn) (fun a F => ?_)
 have hB := Below.refl w0.heap.size w0
 refine x_seq ?_
 refine x_reg ?_
 refine o_assign F rfl rfl (fun a F => ?_)
 refine x_end ?_
 refine x_tn ?_
 refine x_seq ?_
 refine x_seq ?_
 refine x_reg ?_
 refine o_move F rfl rfl (fun a F => ?_)
 refine o_eqlnilG Tryz.underlying63 F rfl rfl rfl (A0.go hB) (fun a nb11 hn12 F => ?_)
 refine x_end ?_
 refine x_tn ?_
 refine x_if F rfl (fun hb13 => ?_) (fun hb13 => ?_)
 ·
  replace hR : some ([]) = some r := by rw [hn12 hb13] at hR; exact hR
  refine x_seq ?_
  refine x_reg ?_
  refine o_assign F rfl rfl (fun a F => ?_)
  refine x_end ?_
  refine x_tn ?_
  refine x_ret ?_
  refine x_tr ?_
  refine x_res1 F rfl (rv_t F rfl) ?_
  obtain rfl := Option.some.inj hR
  exact ⟨_, rfl, hB, (.slice none 0 0), [], rfl, Row.nil 2 RLiteral 136 _ _⟩
 ·
  refine x_skip ?_
  refine x_tn ?_
  refine x_seq ?_
  refine x_reg ?_
  refine o_lit0 (R := RLiteral) Tryz.underlying63 Tryz.sizeOf136 F rfl (fun a w v14 rb15 h16 l F => ?_)
  replace h16 := h16.base hB.size
  replace hB := Below.through l hB
  refine o_move F rfl rfl (fun a F => ?_)
  obtain ⟨z18, c19, hR⟩ := bnd_some hR
  obtain ⟨ib23, sr24, sn25⟩ := Rd.src (by decide) (A0.go hB)
  refine o_append (sz := 2) (R := RLiteral) (z := (.agg #[.int .i64 0, .int .i64 0])) (bytes := 16) Tryz.underlying63 (by kernel_rfl) rfl (by decide) (by decide) (by decide) F rfl rfl rfl h16 sr24 hB.size (Dj.symm (Dj.sub (Dj.new A0.m h16.ownR (Nat.le_refl _)) sn25)) c19 (fun a w v20 rb21 h22 l keep F => ?_)
  obtain rfl : ib23 = [] := src_flat sr24 (fun w f x bs h => by first | exact h.2.2 | exact h.2 | exact h.2.2.2.2 | exact h.2.2.2.2.2.2 | exact h.2.2.2.2.2.2.2.2)
  replace h22 := row_nil2 h22
  replace hB := hB.o l h16.lo hB.size
  refine o_assign F rfl rfl (fun a F => ?_)
  refine x_end ?_
  refine x_tn ?_
  refine x_ret ?_
  refine x_res1 F rfl (rv_t F rfl) ?_
  obtain rfl := Option.some.inj hR
  exact ⟨_, rfl, hB, v20, rb21, rfl, h22⟩

def spec_LearnNoGoods (N : Nat) (x0 : Template) (x1 : Instance) (x2 : Int) : Option ((List (List Literal)) × Int) :=
 bnd (spec_RefuteInstance N (Template.mk x0.size x0.rels) (Instance.mk x1.vars x1.cons) x2) fun z33 =>
 if (z33.2 != 0) then
  some ([], z33.2)
 else
  thn (σ := (List (List Literal)) × (List Literal) × Int) (
   whl (σ := (List (List Literal)) × (List Literal) × Int) (ρ := (List (List Literal)) × Int) (fun (s : (List (List Literal)) × (List Literal) × Int) =>
     match s with
     | (s445, s451, s456) =>
     bnd (ck (s456 + 1)) fun z483 =>
     if (decide (z483 < (z33.1.length : Int))) then
      bnd (ix z33.1 s456) fun z487 =>
      if (z487.kind == 1) then
       bnd (ap s451 ([(Literal.mk z487.var z487.value)])) fun z530 =>
       some (.go (s445, z530, z483))
      else
       if (z487.kind == 3) then
        bnd (ap ([]) s451) fun z550 =>
        bnd (ap s445 ([z550])) fun z570 =>
        bnd (ck ((s451.length : Int) - 1)) fun z581 =>
        bnd (sl s451 0 z581) fun z583 =>
        some (.go (z570, z583, z483))
       else
        some (.go (s445, s451, z483))
     else
      some (.brk (s445, s451, s456))) N ([], [], 0)) fun (s464, s470, s475) =>
  if (decide (200 < (s464.length : Int))) then
   some ([], 3)
  else
   some (s464, 0)
set_option maxHeartbeats 1000000 in
theorem spec_LearnNoGoods_c {N : Nat} {x0 : Template} {x1 : Instance} {x2 : Int} (r : (List (List Literal)) × Int) (hR : spec_LearnNoGoods N x0 x1 x2 = some r) {v0 : Value} {b0 : List Nat} {v1 : Value} {b1 : List Nat} (w0 : World) (A0 : Rd (Agg 2 RTemplate) w0 v0 x0 b0) (A1 : Rd (Agg 2 RInstance) w0 v1 x1 b1) (hx2 : I64 x2) : Calls Tryz.prog 54 #[v0, v1, .int .i64 x2] w0 (Gives (fun v w' => ∃ (v1' : Value) (rb2' : List Nat) (ib3' : List Nat), v = .tuple #[v1', .int .i64 r.2] ∧ Row 1 (RSl 2 RLiteral) 63 w0.heap.size w' v1' r.1 rb2' ib3' ∧ I64 r.2) w0) := by
 unfold spec_LearnNoGoods at hR
 refine x_enter (L := [(0, v0), (1, v1), (2, .int .i64 x2)]) Tryz.func54 rfl rfl rfl (sc rfl (sc rfl (sc rfl sn))) (fun a F => ?_)
 have hB := Below.refl w0.heap.size w0
 refine x_seq ?_
 refine x_reg ?_
 obtain ⟨v15, b16, e18, i14, h17, eb13⟩ := RTemplate.rd (A0.go hB)
 subst e18
 refine o_box F rfl rfl rfl (fun a w b11 K12 l BK12 F => ?_)
 have d19 := (dj1 h17.m BK12).symm
 have CK12 := Nat.le_trans hB.size BK12
 replace hB := Below.through l hB
 replace h17 := h17.go l
 obtain ⟨v24, b25, e27, i23, h26, eb22⟩ := RInstance.rd (A1.go hB)
 subst e27
 refine o_box F rfl rfl rfl (fun a w b20 K21 l BK21 F => ?_)
 have nb28 := Dj.bb K12 BK21
 have d29 := (dj1 h17.m BK21).symm
 have d30 := (dj1 h26.m BK21).symm
 have CK21 := Nat.le_trans hB.size BK21
 replace hB := Below.through l hB
 replace h17 := h17.go l
 replace h26 := h26.go l
 replace K12 := K12.thru l
 refine o_assign F rfl rfl (fun a F => ?_)
 refine o_assign F rfl rfl (fun a F => ?_)
 refine x_end ?_
 refine x_tn ?_
 refine x_seq ?_
 refine x_reg ?_
 refine o_bloadA (cs := [.int .i64 x0.size, v15]) Tryz.isAgg33 Tryz.sizeOf33 F rfl rfl K12 rfl (fun j hj => by match j, hj with | 0, _ => rfl | 1, _ => rfl) (fun a F => ?_)
 have h31 := RTemplate.mk2 (w := w) i14 h17
 refine o_bloadA (cs := [.int .i64 x1.vars, v24]) Tryz.isAgg51 Tryz.sizeOf51 F rfl rfl K21 rfl (fun j hj => by match j, hj with | 0, _ => rfl | 1, _ => rfl) (fun a F => ?_)
 have h32 := RInstance.mk2 (w := w) i23 h26
 refine o_move F rfl rfl (fun a F => ?_)
 obtain ⟨z33, c34, hR⟩ := bnd_some hR
 refine o_gives F rfl Tryz.call51 rfl (spec_RefuteInstance_c z33 c34 _ h31 h32 hx2) (fun a vv w l ⟨v35, rb36, hv40, h38, i39⟩ F => ?_)
 subst vv
 replace h38 := h38.base hB.size
 replace hB := Below.through l hB
 refine o_move F rfl rfl (fun a F => ?_)
 refine o_extract F rfl rfl rfl (fun a F => ?_)
 refine o_extract F rfl rfl rfl (fun a F => ?_)
 refine o_assign F rfl rfl (fun a F => ?_)
 refine o_assign F rfl rfl (fun a F => ?_)
 refine x_end ?_
 refine x_tn ?_
 refine x_seq ?_
 refine x_seq ?_
 refine x_reg ?_
 refine o_move F rfl rfl (fun a F => ?_)
 refine o_neq F rfl rfl rfl (fun a F => ?_)
 refine x_end ?_
 refine x_tn ?_
 refine x_if F rfl (fun hb42 => ?_) (fun hb42 => ?_)
 ·
  replace hR := ifT hb42 hR
  refine x_seq ?_
  refine x_reg ?_
  refine o_lit0 (R := (RSl 2 RLiteral)) Tryz.underlying86 Tryz.sizeOf63 F rfl (fun a w v43 rb44 h45 l F => ?_)
  have d47 := Dj.app' (Dj.new h38.memR h45.ownR (Nat.le_refl _)).symm (Dj.nil' _)
  replace h45 := h45.base hB.size
  replace hB := Below.through l hB
  refine o_move F rfl rfl (fun a F => ?_)
  refine o_assign F rfl rfl (fun a F => ?_)
  refine o_assign F rfl rfl (fun a F => ?_)
  refine x_end ?_
  refine x_tn ?_
  refine x_ret ?_
  refine x_tr ?_
  refine x_res2 F rfl (rv_t F rfl) (rv_t F rfl) ?_
  obtain rfl := Option.some.inj hR
  exact ⟨_, rfl, hB, v43, rb44, [], rfl, h45, i39⟩
 ·
  replace hR := ifF hb42 hR
  refine x_skip ?_
  refine x_tn ?_
  refine x_seq ?_
  refine x_reg ?_
  refine o_lit0 (R := (RSl 2 RLiteral)) Tryz.underlying86 Tryz.sizeOf63 F rfl (fun a w v48 rb49 h50 l F => ?_)
  have d52 := Dj.new h38.rd.m h50.ownR (Nat.le_refl _)
  have d53 := Dj.app' (Dj.new h38.memR h50.ownR (Nat.le_refl _)).symm (Dj.nil' _)
  replace h50 := h50.base hB.size
  replace hB := Below.through l hB
  replace h38 := h38.go l
  refine o_assign F rfl rfl (fun a F => ?_)
  refine x_end ?_
  refine x_tn ?_
  refine x_seq ?_
  refine x_reg ?_
  refine o_lit0 (R := RLiteral) Tryz.underlying63 Tryz.sizeOf136 F rfl (fun a w v54 rb55 h56 l F => ?_)
  have d58 := Dj.new h38.rd.m h56.ownR (Nat.le_refl _)
  have d59 := Dj.new h50.rd.m h56.ownR (Nat.le_refl _)
  have d60 := Dj.app' (Dj.new h38.memR h56.ownR (Nat.le_refl _)).symm (Dj.nil' _)
  have d61 := Dj.app' (Dj.new h50.memR h56.ownR (Nat.le_refl _)).symm (Dj.nil' _)
  replace h56 := h56.base hB.size
  replace hB := Below.through l hB
  replace h38 := h38.go l
  replace h50 := h50.go l
  refine o_assign F rfl rfl (fun a F => ?_)
  refine x_end ?_
  refine x_tn ?_
  refine x_seq ?_
  refine x_seq ?_
  refine x_reg ?_
  refine o_assign F rfl rfl (fun a F => ?_)
  refine x_end ?_
  refine x_tn ?_
  obtain ⟨o439, hR, hk440⟩ := thn_some hR
  refine x_cutQ (fun a w => ∃ (s464 : List (List Literal)) (v467 : Value) (rb468 : List Nat) (ib469 : List Nat) (s470 : List Literal) (v473 : Value) (rb474 : List Nat) (s475 : Int), o439 = .nx (s464, s470, s475) ∧ Sk a 72 [(10, v467)] ∧ Below w0.heap.size w0 w ∧ Row 1 (RSl 2 RLiteral) 63 w0.heap.size w v467 s464 rb468 ib469 ∧ Row 2 RLiteral 136 w0.heap.size w v473 s470 rb474 ([]) ∧ I64 s475) ?_ ?_
  ·
   refine x_blk ?_
   obtain ⟨fl443, hf444, hR⟩ := whl_gen hR
   refine x_loop (fun g a w => ∃ (s445 : List (List Literal)) (v448 : Value) (rb449 : List Nat) (ib450 : List Nat) (s451 : List Literal) (v454 : Value) (rb455 : List Nat) (s456 : Int), whl fl443 g (s445, s451, s456) = some o439 ∧ Sk a 72 [(8, v35), (10, v448), (11, v454), (12, .int .i64 s456)] ∧ Below w0.heap.size w0 w ∧ Row 1 (RSl 2 RLiteral) 63 w0.heap.size w v448 s445 rb449 ib450 ∧ Row 2 RLiteral 136 w0.heap.size w v454 s451 rb455 ([]) ∧ I64 s456 ∧ Row 4 RLine 161 w0.heap.size w v35 z33.1 rb36 ([]) ∧ Dj (rb36 ++ []) rb449 ∧ Dj (rb449 ++ ib450) rb36 ∧ Dj (rb455 ++ []) rb449 ∧ Dj (rb36 ++ []) rb455 ∧ Dj (rb455 ++ []) rb36 ∧ Dj (rb449 ++ ib450) rb455) N ?_ ?_
   ·
    exact ⟨[], v48, rb49, [], [], v54, rb55, 0, hR, F.sub (sc rfl (sc rfl (sc rfl (sc rfl sn)))), hB, h50, h56, (show I64 (0) by decide), h38, d52, d53, d61, d58, d60, d59⟩
   ·
    intro g480 a w ⟨s445, v448, rb449, ib450, s451, v454, rb455, s456, hR, F, hB, h447, h453, i457, h38, d458, d459, d460, d461, d462, d463⟩
    obtain ⟨ck477, rest478, hg482, hR, hn442⟩ := whl_round hR
    rw [hf444] at hR
    refine x_seq ?_
    refine x_seq ?_
    refine x_reg ?_
    refine o_move F rfl rfl (fun a F => ?_)
    obtain ⟨z483, c484, hR⟩ := bnd_some hR
    refine o_add F rfl rfl rfl c484 (fun a F => ?_)
    refine o_move F rfl rfl (fun a F => ?_)
    refine o_len Tryz.underlying75 F rfl rfl h38.rd (fun a F => ?_)
    have i485 := (h38.rd).r.len64
    refine o_lss F rfl rfl rfl (fun a F => ?_)
    refine x_end ?_
    refine x_tn ?_
    refine x_if F rfl (fun hb486 => ?_) (fun hb486 => ?_)
    ·
     replace hR := ifT hb486 hR
     refine x_skip ?_
     refine x_tn ?_
     refine x_seq ?_
     refine x_blk ?_
     refine x_seq ?_
     refine x_reg ?_
     refine o_move F rfl rfl (fun a F => ?_)
     refine o_move F rfl rfl (fun a F => ?_)
     obtain ⟨z487, c488, hR⟩ := bnd_some hR
     refine o_rindex Tryz.underlying75 Tryz.sizeOf161 F rfl rfl rfl h38 c488 (fun a p489 b490 h491 s492 rp493 F => ?_)
     refine o_field (s' := 1) fa161_0 F rfl rfl h491 RLine.f0 (fun a p494 b495 h496 s497 F => ?_)
     have i498 := (h496).i64
     refine o_loadI Tryz.isAgg2 F rfl rfl h496 (fun a F => ?_)
     refine x_end ?_
     refine x_tn ?_
     refine x_blk ?_
     refine x_seq ?_
     refine x_reg ?_
     refine o_eql F rfl rfl rfl (fun a F => ?_)
     refine o_assign F rfl rfl (fun a F => ?_)
     refine x_end ?_
     refine x_tn ?_
     refine x_if F rfl (fun hb499 => ?_) (fun hb499 => ?_)
     ·
      replace hR := ifT hb499 hR
      refine x_drawn (by kernel_rfl) (fun w l => ?_)
      replace hB := Below.through l hB
      replace h38 := h38.go l
      replace h447 := h447.go l
      replace h453 := h453.go l
      refine b_q0 0 rfl (by kernel_rfl) (by kernel_rfl) (by kernel_rfl) ?_
      refine v_val F rfl (fun w l => r_move F rfl) (fun a F => ?_)
      refine b_q0 1 rfl (by kernel_rfl) (by kernel_rfl) (by kernel_rfl) ?_
      refine v_val F rfl (fun w l => r_move F rfl) (fun a F => ?_)
      refine b_q0 2 rfl (by kernel_rfl) (by kernel_rfl) (by kernel_rfl) ?_
      refine v_val F rfl (fun w l => r_move F rfl) (fun a F => ?_)
      refine b_q 3 (by kernel_rfl) rfl (by kernel_rfl) (by kernel_rfl) (by kernel_rfl) (by kernel_rfl) ?_
      refine v_index Tryz.underlying75 Tryz.sizeOf161 F rfl rfl rfl h38.rd c488 (fun a p500 b501 h502 s503 F => ?_)
      refine b_q 4 (by kernel_rfl) rfl (by kernel_rfl) (by kernel_rfl) (by kernel_rfl) (by kernel_rfl) ?_
      refine v_field (s' := 1) fa161_1 F rfl rfl h502 RLine.f1 (fun a p504 b505 h506 s507 F => ?_)
      refine b_q 5 (by kernel_rfl) rfl (by kernel_rfl) (by kernel_rfl) (by kernel_rfl) (by kernel_rfl) ?_
      have i508 := (h506).i64
      refine v_val F rfl (fun w l => r_loadI Tryz.isAgg2 F rfl ((h506).go l)) (fun a F => ?_)
      refine b_q0 6 rfl (by kernel_rfl) (by kernel_rfl) (by kernel_rfl) ?_
      refine v_val F rfl (fun w l => r_move F rfl) (fun a F => ?_)
      refine b_q0 7 rfl (by kernel_rfl) (by kernel_rfl) (by kernel_rfl) ?_
      refine v_val F rfl (fun w l => r_move F rfl) (fun a F => ?_)
      refine b_q 8 (by kernel_rfl) rfl (by kernel_rfl) (by kernel_rfl) (by kernel_rfl) (by kernel_rfl) ?_
      refine v_index Tryz.underlying75 Tryz.sizeOf161 F rfl rfl rfl h38.rd c488 (fun a p509 b510 h511 s512 F => ?_)
      refine b_q 9 (by kernel_rfl) rfl (by kernel_rfl) (by kernel_rfl) (by kernel_rfl) (by kernel_rfl) ?_
      refine v_field (s' := 1) fa161_2 F rfl rfl h511 RLine.f2 (fun a p513 b514 h515 s516 F => ?_)
      refine b_q 10 (by kernel_rfl) rfl (by kernel_rfl) (by kernel_rfl) (by kernel_rfl) (by kernel_rfl) ?_
      have i517 := (h515).i64
      refine v_val F rfl (fun w l => r_loadI Tryz.isAgg2 F rfl ((h515).go l)) (fun a F => ?_)
      refine b_q 11 (by kernel_rfl) rfl (by kernel_rfl) (by kernel_rfl) (by kernel_rfl) (by kernel_rfl) ?_
      refine v_val F rfl (fun w l => r_build Tryz.underlying136 Tryz.zeroValue136 (fun w => by simp [Tryz.sizeOf2]; rfl) F rfl rfl rfl rfl (oc rfl (oc rfl on)) rfl rfl) (fun a F => ?_)
      have h518 := RLiteral.mk2 (w := w) i508 i517
      refine b_e 12 rfl (by kernel_rfl) ?_
      refine o_lit1 (R := RLiteral) (y := (Literal.mk z487.var z487.value)) Tryz.underlying63 Tryz.sizeOf136 Tryz.zeroValue136 rfl (by decide) (by decide) F rfl rfl (El.agg h518) (fun a w v519 rb520 h521 l F => ?_)
      have d523 := Dj.new h38.rd.m h521.ownR (Nat.le_refl _)
      have d524 := Dj.new h447.rd.m h521.ownR (Nat.le_refl _)
      have d525 := Dj.new h453.rd.m h521.ownR (Nat.le_refl _)
      have d526 := Dj.app' (Dj.new h38.memR h521.ownR (Nat.le_refl _)).symm (Dj.nil' _)
      have d527 := Dj.app' (Dj.new h447.memR h521.ownR (Nat.le_refl _)).symm (Dj.nil' _)
      have d528 := Dj.app' (Dj.new h447.mem h521.ownR (Nat.le_refl _)).symm (Dj.nil' _)
      have d529 := Dj.app' (Dj.new h453.memR h521.ownR (Nat.le_refl _)).symm (Dj.nil' _)
      replace h521 := h521.base hB.size
      replace hB := Below.through l hB
      replace h38 := h38.go l
      replace h447 := h447.go l
      replace h453 := h453.go l
      refine x_end ?_
      refine x_tn ?_
      refine ⟨.inl l, ?_⟩
      refine b_e 13 rfl (by kernel_rfl) ?_
      obtain ⟨z530, c531, hR⟩ := bnd_some hR
      refine o_append (sz := 2) (R := RLiteral) (z := (.agg #[.int .i64 0, .int .i64 0])) (bytes := 16) Tryz.underlying63 (by kernel_rfl) rfl (by decide) (by decide) (by decide) F rfl rfl rfl h453 h521.src hB.size (Dj.nil _) c531 (fun a w v532 rb533 h534 l keep F => ?_)
      replace h534 := row_nil2 h534
      have d536 := keep _ h38.rd.m d461
      have d537 := keep _ h447.rd.m d463
      replace hB := hB.o l h453.lo hB.size
      replace h38 := h38.goO l d461
      replace h447 := h447.goO l d463
      refine x_end ?_
      refine x_tn ?_
      refine ⟨.inr (by kernel_rfl), ?_⟩
      refine b_q0 14 rfl (by kernel_rfl) (by kernel_rfl) (by kernel_rfl) ?_
      refine v_val F rfl (fun w l => r_assign F rfl) (fun a F => ?_)
      refine b_end (by kernel_rfl) ?_
      refine x_bn ?_
      refine x_bn ?_
      refine x_tn ?_
      refine x_reg ?_
      refine o_move F rfl rfl (fun a F => ?_)
      refine o_add F rfl rfl rfl c484 (fun a F => ?_)
      refine o_assign F rfl rfl (fun a F => ?_)
      refine x_end ?_
      refine x_tn ?_
      replace hR := l_go hR hn442
      exact ⟨rest478, (by omega), s445, v448, rb449, ib450, z530, v532, rb533, z483, hR, F.sub (sc rfl (sc rfl (sc rfl (sc rfl sn)))), hB, h447, h534, (ck64 c484), h38, d458, d459, (Dj.app' (Dj.symm (Dj.l d537)) (Dj.nil' _)), d536, (Dj.app' (Dj.symm (Dj.l d536)) (Dj.nil' _)), d537⟩
     ·
      replace hR := ifF hb499 hR
      refine x_seq ?_
      refine x_reg ?_
      refine o_eql F rfl rfl rfl (fun a F => ?_)
      refine o_assign F rfl rfl (fun a F => ?_)
      refine x_end ?_
      refine x_tn ?_
      refine x_if F rfl (fun hb538 => ?_) (fun hb538 => ?_)
      ·
       replace hR := ifT hb538 hR
       refine x_seq ?_
       refine x_reg ?_
       refine o_move F rfl rfl (fun a F => ?_)
       refine o_lit0 (R := RLiteral) Tryz.underlying63 Tryz.sizeOf136 F rfl (fun a w v539 rb540 h541 l F => ?_)
       have d543 := Dj.new h38.rd.m h541.ownR (Nat.le_refl _)
       have d544 := Dj.new h447.rd.m h541.ownR (Nat.le_refl _)
       have d545 := Dj.new h453.rd.m h541.ownR (Nat.le_refl _)
       have d546 := Dj.app' (Dj.new h38.memR h541.ownR (Nat.le_refl _)).symm (Dj.nil' _)
       have d547 := Dj.app' (Dj.new h447.memR h541.ownR (Nat.le_refl _)).symm (Dj.nil' _)
       have d548 := Dj.app' (Dj.new h447.mem h541.ownR (Nat.le_refl _)).symm (Dj.nil' _)
       have d549 := Dj.app' (Dj.new h453.memR h541.ownR (Nat.le_refl _)).symm (Dj.nil' _)
       replace h541 := h541.base hB.size
       replace hB := Below.through l hB
       replace h38 := h38.go l
       replace h447 := h447.go l
       replace h453 := h453.go l
       refine o_move F rfl rfl (fun a F => ?_)
       obtain ⟨z550, c551, hR⟩ := bnd_some hR
       refine o_append (sz := 2) (R := RLiteral) (z := (.agg #[.int .i64 0, .int .i64 0])) (bytes := 16) Tryz.underlying63 (by kernel_rfl) rfl (by decide) (by decide) (by decide) F rfl rfl rfl h541 h453.src hB.size (Dj.nil _) c551 (fun a w v552 rb553 h554 l keep F => ?_)
       replace h554 := row_nil2 h554
       have d556 := keep _ h38.rd.m d543
       have d557 := keep _ h447.rd.m d544
       have d558 := keep _ h453.rd.m d545
       replace hB := hB.o l h541.lo hB.size
       replace h38 := h38.goO l d543
       replace h447 := h447.goO l d544
       replace h453 := h453.goO l d545
       refine o_lit1 (R := (RSl 2 RLiteral)) (y := z550) Tryz.underlying86 Tryz.sizeOf63 Tryz.zeroValue63 rfl (by decide) (by decide) F rfl rfl (El.sl h554.rd) (fun a w v559 rb560 h561 l F => ?_)
       have ow562 := Own.go (h554.own (Own.nil _ _)) l
       have d564 := Dj.new h38.rd.m h561.ownR (Nat.le_refl _)
       have d565 := Dj.new h447.rd.m h561.ownR (Nat.le_refl _)
       have d566 := Dj.new h453.rd.m h561.ownR (Nat.le_refl _)
       have d567 := Dj.app' (Dj.new h38.memR h561.ownR (Nat.le_refl _)).symm (Dj.app' (Dj.symm (Dj.l d556)) (Dj.nil' _))
       have d568 := Dj.app' (Dj.new h447.memR h561.ownR (Nat.le_refl _)).symm (Dj.app' (Dj.symm (Dj.l d557)) (Dj.nil' _))
       have d569 := Dj.app' (Dj.new h453.memR h561.ownR (Nat.le_refl _)).symm (Dj.app' (Dj.symm (Dj.l d558)) (Dj.nil' _))
       replace h561 := h561.base hB.size
       replace hB := Below.through l hB
       replace h38 := h38.go l
       replace h447 := h447.go l
       replace h453 := h453.go l
       obtain ⟨z570, c571, hR⟩ := bnd_some hR
       refine o_append (sz := 1) (R := (RSl 2 RLiteral)) (z := ((.slice none 0 0))) (bytes := 24) Tryz.underlying86 (by kernel_rfl) rfl (by decide) (by decide) (by decide) F rfl rfl rfl h447 h561.src hB.size (Dj.symm d568.r) c571 (fun a w v572 rb573 h574 l keep F => ?_)
       have d576 := keep _ h38.rd.m d458
       have d577 := keep _ h453.rd.m d460
       replace hB := hB.o l h447.lo hB.size
       replace h38 := h38.goO l d458
       replace h453 := h453.goO l d460
       have d578 := Dj.app' (Dj.symm (Dj.l d576)) (Dj.app' (Dj.r d459) (Dj.r d567))
       have d579 := Dj.app' (Dj.symm (Dj.l d577)) (Dj.app' (Dj.r d463) (Dj.r d569))
       refine o_assign F rfl rfl (fun a F => ?_)
       refine x_end ?_
       refine x_tn ?_
       refine x_reg ?_
       refine o_move F rfl rfl (fun a F => ?_)
       refine o_move F rfl rfl (fun a F => ?_)
       refine o_len Tryz.underlying63 F rfl rfl h453.rd (fun a F => ?_)
       have i580 := (h453.rd).r.len64
       obtain ⟨z581, c582, hR⟩ := bnd_some hR
       refine o_sub F rfl rfl rfl c582 (fun a F => ?_)
       obtain ⟨z583, c584, hR⟩ := bnd_some hR
       refine o_rtake Tryz.underlying63 Tryz.sizeOf136 F rfl rfl rfl h453 c584 (fun a v585 ib586 h587 s588 F => ?_)
       obtain rfl : ib586 = [] := sub_nil1 s588
       refine o_assign F rfl rfl (fun a F => ?_)
       refine x_end ?_
       refine x_bn ?_
       refine x_bn ?_
       refine x_tn ?_
       refine x_reg ?_
       refine o_move F rfl rfl (fun a F => ?_)
       refine o_add F rfl rfl rfl c484 (fun a F => ?_)
       refine o_assign F rfl rfl (fun a F => ?_)
       refine x_end ?_
       refine x_tn ?_
       replace hR := l_go hR hn442
       exact ⟨rest478, (by omega), z570, v572, rb573, (ib450 ++ (rb553 ++ [])), z583, v585, rb455, z483, hR, F.sub (sc rfl (sc rfl (sc rfl (sc rfl sn)))), hB, h574, h587, (ck64 c484), h38, d576, d578, d577, d461, d462, d579⟩
      ·
       replace hR := ifF hb538 hR
       refine x_skip ?_
       refine x_bn ?_
       refine x_bn ?_
       refine x_tn ?_
       refine x_reg ?_
       refine o_move F rfl rfl (fun a F => ?_)
       refine o_add F rfl rfl rfl c484 (fun a F => ?_)
       refine o_assign F rfl rfl (fun a F => ?_)
       refine x_end ?_
       refine x_tn ?_
       replace hR := l_go hR hn442
       exact ⟨rest478, (by omega), s445, v448, rb449, ib450, s451, v454, rb455, z483, hR, F.sub (sc rfl (sc rfl (sc rfl (sc rfl sn)))), hB, h447, h453, (ck64 c484), h38, d458, d459, d460, d461, d462, d463⟩
    ·
     replace hR := ifF hb486 hR
     refine x_exit ?_
     refine x_te ?_
     refine x_te ?_
     replace hR := l_brk hR hn442
     refine x_be ?_
     refine x_tn ?_
     exact ⟨s445, v448, rb449, ib450, s451, v454, rb455, s456, (Option.some.inj hR).symm, F.sub (sc rfl sn), hB, h447, h453, i457⟩
  ·
   intro a w ⟨s464, v467, rb468, ib469, s470, v473, rb474, s475, ho441, F, hB, h466, h472, i476⟩
   subst ho441
   have hR := then_nx hk440
   refine x_tn ?_
   refine x_seq ?_
   refine x_seq ?_
   refine x_reg ?_
   refine o_move F rfl rfl (fun a F => ?_)
   refine o_len Tryz.underlying86 F rfl rfl h466.rd (fun a F => ?_)
   have i590 := (h466.rd).r.len64
   refine o_gtr F rfl rfl rfl (fun a F => ?_)
   refine x_end ?_
   refine x_tn ?_
   refine x_if F rfl (fun hb591 => ?_) (fun hb591 => ?_)
   ·
    replace hR := ifT hb591 hR
    refine x_seq ?_
    refine x_reg ?_
    refine o_lit0 (R := (RSl 2 RLiteral)) Tryz.underlying86 Tryz.sizeOf63 F rfl (fun a w v592 rb593 h594 l F => ?_)
    have d596 := Dj.app' (Dj.new h466.memR h594.ownR (Nat.le_refl _)).symm (Dj.nil' _)
    have d597 := Dj.app' (Dj.new h466.mem h594.ownR (Nat.le_refl _)).symm (Dj.nil' _)
    replace h594 := h594.base hB.size
    replace hB := Below.through l hB
    refine o_assign F rfl rfl (fun a F => ?_)
    refine o_assign F rfl rfl (fun a F => ?_)
    refine x_end ?_
    refine x_tn ?_
    refine x_ret ?_
    refine x_tr ?_
    refine x_res2 F rfl (rv_t F rfl) (rv_t F rfl) ?_
    obtain rfl := Option.some.inj hR
    exact ⟨_, rfl, hB, v592, rb593, [], rfl, h594, (show I64 (3) by decide)⟩
   ·
    replace hR := ifF hb591 hR
    refine x_skip ?_
    refine x_tn ?_
    refine x_seq ?_
    refine x_reg ?_
    refine o_move F rfl rfl (fun a F => ?_)
    refine o_assign F rfl rfl (fun a F => ?_)
    refine o_assign F rfl rfl (fun a F => ?_)
    refine x_end ?_
    refine x_tn ?_
    refine x_ret ?_
    refine x_res2 F rfl (rv_t F rfl) (rv_t F rfl) ?_
    obtain rfl := Option.some.inj hR
    exact ⟨_, rfl, hB, v467, rb468, ib469, rfl, h466, (show I64 (0) by decide)⟩

def impl_LearnNoGoods (N : Nat) (x0 : Template) (x1 : Instance) (x2 : Int) : Option ((List (List Literal)) × Int) :=
 bnd (impl_RefuteInstance N (Template.mk x0.size x0.rels) (Instance.mk x1.vars x1.cons) x2) fun z33 =>
 if (z33.2 != 0) then
  some ([], z33.2)
 else
  bnd (ck ((z33.1.length : Int) - 1)) fun z58 =>
  bnd (sl z33.1 0 z58) fun z60 =>
  thn (σ := (List (List Literal)) × (List Literal)) (
   forL (σ := (List (List Literal)) × (List Literal)) (ρ := (List (List Literal)) × Int) (fun (k325 : Nat) (x327 : Line) (s : (List (List Literal)) × (List Literal)) =>
     match s with
     | (s295, s302) =>
     if (x327.kind == 1) then
      bnd (ap s302 ([(Literal.mk x327.var x327.value)])) fun z369 =>
      some (.go (s295, z369))
     else
      if (x327.kind == 3) then
       bnd (slices_Clone_s_Literal_Literal s302) fun z378 =>
       bnd (ap s295 ([z378])) fun z405 =>
       bnd (ck ((s302.length : Int) - 1)) fun z417 =>
       bnd (sl s302 0 z417) fun z419 =>
       some (.go (z405, z419))
      else
       some (.go (s295, s302))) z60 0 ([], [])) fun (s313, s320) =>
  if (decide (200 < (s313.length : Int))) then
   some ([], 3)
  else
   some (s313, 0)
set_option maxHeartbeats 1000000 in
theorem impl_LearnNoGoods_c {N : Nat} {x0 : Template} {x1 : Instance} {x2 : Int} (r : (List (List Literal)) × Int) (hR : impl_LearnNoGoods N x0 x1 x2 = some r) {v0 : Value} {b0 : List Nat} {v1 : Value} {b1 : List Nat} (w0 : World) (A0 : Rd (Agg 2 RTemplate) w0 v0 x0 b0) (A1 : Rd (Agg 2 RInstance) w0 v1 x1 b1) (hx2 : I64 x2) : Calls Tryz.prog 55 #[v0, v1, .int .i64 x2] w0 (Gives (fun v w' => ∃ (v1' : Value) (rb2' : List Nat) (ib3' : List Nat), v = .tuple #[v1', .int .i64 r.2] ∧ Row 1 (RSl 2 RLiteral) 63 w0.heap.size w' v1' r.1 rb2' ib3' ∧ Own w0.heap.size ib3' w' ∧ I64 r.2) w0) := by
 unfold impl_LearnNoGoods at hR
 refine x_enter (L := [(0, v0), (1, v1), (2, .int .i64 x2)]) Tryz.func55 rfl rfl rfl (sc rfl (sc rfl (sc rfl sn))) (fun a F => ?_)
 have hB := Below.refl w0.heap.size w0
 refine x_seq ?_
 refine x_reg ?_
 obtain ⟨v15, b16, e18, i14, h17, eb13⟩ := RTemplate.rd (A0.go hB)
 subst e18
 refine o_box F rfl rfl rfl (fun a w b11 K12 l BK12 F => ?_)
 have d19 := (dj1 h17.m BK12).symm
 have CK12 := Nat.le_trans hB.size BK12
 replace hB := Below.through l hB
 replace h17 := h17.go l
 obtain ⟨v24, b25, e27, i23, h26, eb22⟩ := RInstance.rd (A1.go hB)
 subst e27
 refine o_box F rfl rfl rfl (fun a w b20 K21 l BK21 F => ?_)
 have nb28 := Dj.bb K12 BK21
 have d29 := (dj1 h17.m BK21).symm
 have d30 := (dj1 h26.m BK21).symm
 have CK21 := Nat.le_trans hB.size BK21
 replace hB := Below.through l hB
 replace h17 := h17.go l
 replace h26 := h26.go l
 replace K12 := K12.thru l
 refine o_assign F rfl rfl (fun a F => ?_)
 refine o_assign F rfl rfl (fun a F => ?_)
 refine x_end ?_
 refine x_tn ?_
 refine x_seq ?_
 refine x_reg ?_
 refine o_bloadA (cs := [.int .i64 x0.size, v15]) Tryz.isAgg33 Tryz.sizeOf33 F rfl rfl K12 rfl (fun j hj => by match j, hj with | 0, _ => rfl | 1, _ => rfl) (fun a F => ?_)
 have h31 := RTemplate.mk2 (w := w) i14 h17
 refine o_bloadA (cs := [.int .i64 x1.vars, v24]) Tryz.isAgg51 Tryz.sizeOf51 F rfl rfl K21 rfl (fun j hj => by match j, hj with | 0, _ => rfl | 1, _ => rfl) (fun a F => ?_)
 have h32 := RInstance.mk2 (w := w) i23 h26
 refine o_move F rfl rfl (fun a F => ?_)
 obtain ⟨z33, c34, hR⟩ := bnd_some hR
 refine o_gives F rfl Tryz.call52 rfl (impl_RefuteInstance_c z33 c34 _ h31 h32 hx2) (fun a vv w l ⟨v35, rb36, hv40, h38, i39⟩ F => ?_)
 subst vv
 replace h38 := h38.base hB.size
 replace hB := Below.through l hB
 refine o_move F rfl rfl (fun a F => ?_)
 refine o_extract F rfl rfl rfl (fun a F => ?_)
 refine o_extract F rfl rfl rfl (fun a F => ?_)
 refine o_assign F rfl rfl (fun a F => ?_)
 refine o_assign F rfl rfl (fun a F => ?_)
 refine x_end ?_
 refine x_tn ?_
 refine x_seq ?_
 refine x_seq ?_
 refine x_reg ?_
 refine o_move F rfl rfl (fun a F => ?_)
 refine o_neq F rfl rfl rfl (fun a F => ?_)
 refine x_end ?_
 refine x_tn ?_
 refine x_if F rfl (fun hb42 => ?_) (fun hb42 => ?_)
 ·
  replace hR := ifT hb42 hR
  refine x_seq ?_
  refine x_reg ?_
  refine o_move F rfl rfl (fun a F => ?_)
  refine o_assign F rfl rfl (fun a F => ?_)
  refine o_assign F rfl rfl (fun a F => ?_)
  refine x_end ?_
  refine x_tn ?_
  refine x_ret ?_
  refine x_tr ?_
  refine x_res2 F rfl (rv_t F rfl) (rv_t F rfl) ?_
  obtain rfl := Option.some.inj hR
  exact ⟨_, rfl, hB, (.slice none 0 0), [], [], rfl, Row.nil 1 (RSl 2 RLiteral) 63 _ _, Own.nil _ _, i39⟩
 ·
  replace hR := ifF hb42 hR
  refine x_skip ?_
  refine x_tn ?_
  refine x_seq ?_
  refine x_reg ?_
  refine o_lit0 (R := (RSl 2 RLiteral)) Tryz.underlying86 Tryz.sizeOf63 F rfl (fun a w v43 rb44 h45 l F => ?_)
  have d47 := Dj.new h38.rd.m h45.ownR (Nat.le_refl _)
  have d48 := Dj.app' (Dj.new h38.memR h45.ownR (Nat.le_refl _)).symm (Dj.nil' _)
  replace h45 := h45.base hB.size
  replace hB := Below.through l hB
  replace h38 := h38.go l
  refine o_assign F rfl rfl (fun a F => ?_)
  refine x_end ?_
  refine x_tn ?_
  refine x_seq ?_
  refine x_reg ?_
  refine o_lit0 (R := RLiteral) Tryz.underlying63 Tryz.sizeOf136 F rfl (fun a w v49 rb50 h51 l F => ?_)
  have d53 := Dj.new h38.rd.m h51.ownR (Nat.le_refl _)
  have d54 := Dj.new h45.rd.m h51.ownR (Nat.le_refl _)
  have d55 := Dj.app' (Dj.new h38.memR h51.ownR (Nat.le_refl _)).symm (Dj.nil' _)
  have d56 := Dj.app' (Dj.new h45.memR h51.ownR (Nat.le_refl _)).symm (Dj.nil' _)
  replace h51 := h51.base hB.size
  replace hB := Below.through l hB
  replace h38 := h38.go l
  replace h45 := h45.go l
  refine o_assign F rfl rfl (fun a F => ?_)
  refine x_end ?_
  refine x_tn ?_
  refine x_seq ?_
  refine x_seq ?_
  refine x_reg ?_
  refine o_move F rfl rfl (fun a F => ?_)
  refine o_move F rfl rfl (fun a F => ?_)
  refine o_len Tryz.underlying75 F rfl rfl h38.rd (fun a F => ?_)
  have i57 := (h38.rd).r.len64
  obtain ⟨z58, c59, hR⟩ := bnd_some hR
  refine o_sub F rfl rfl rfl c59 (fun a F => ?_)
  obtain ⟨z60, c61, hR⟩ := bnd_some hR
  refine o_rtake Tryz.underlying75 Tryz.sizeOf161 F rfl rfl rfl h38 c61 (fun a v62 ib63 h64 s65 F => ?_)
  obtain rfl : ib63 = [] := sub_nil1 s65
  refine o_len Tryz.underlying75 F rfl rfl h64.rd (fun a F => ?_)
  have i67 := (h64.rd).r.len64
  refine o_move F rfl rfl (fun a F => ?_)
  refine x_end ?_
  refine x_tn ?_
  obtain ⟨o289, hR, hk290⟩ := thn_some hR
  refine x_cutQ (fun a w => ∃ (s313 : List (List Literal)) (v316 : Value) (rb317 : List Nat) (ib318 : List Nat) (s320 : List Literal) (v323 : Value) (rb324 : List Nat), o289 = .nx (s313, s320) ∧ Sk a 65 [(10, v316)] ∧ Below w0.heap.size w0 w ∧ Row 1 (RSl 2 RLiteral) 63 w0.heap.size w v316 s313 rb317 ib318 ∧ Own w0.heap.size ib318 w ∧ Row 2 RLiteral 136 w0.heap.size w v323 s320 rb324 ([])) ?_ ?_
  ·
   refine x_blk ?_
   obtain ⟨fl293, hf294, hR⟩ := forL_gen hR
   refine x_loop (fun g a w => ∃ (k325 : Nat) (rest326 : List Line) (s295 : List (List Literal)) (v298 : Value) (rb299 : List Nat) (ib300 : List Nat) (s302 : List Literal) (v305 : Value) (rb306 : List Nat), (k325 ≤ z60.length ∧ z60.drop k325 = rest326) ∧ rest326.length = g ∧ forL fl293 rest326 k325 (s295, s302) = some o289 ∧ Sk a 65 [(32, .int .i64 (k325 : Int)), (10, v298), (11, v305), (30, v62), (31, .int .i64 (z60.length : Int))] ∧ Below w0.heap.size w0 w ∧ Row 1 (RSl 2 RLiteral) 63 w0.heap.size w v298 s295 rb299 ib300 ∧ Own w0.heap.size ib300 w ∧ Row 2 RLiteral 136 w0.heap.size w v305 s302 rb306 ([]) ∧ Row 4 RLine 161 w0.heap.size w v62 z60 rb36 ([]) ∧ Dj (rb36 ++ []) rb299 ∧ Dj (rb299 ++ ib300) rb36 ∧ Dj (rb306 ++ []) rb299 ∧ Dj (rb36 ++ []) rb306 ∧ Dj (rb306 ++ []) rb36 ∧ Dj (rb299 ++ ib300) rb306) z60.length ?_ ?_
   ·
    exact ⟨0, z60, [], v43, rb44, [], [], v49, rb50, ⟨Nat.zero_le _, rfl⟩, rfl, hR, F.sub (sc rfl (sc rfl (sc rfl (sc rfl (sc rfl sn))))), hB, h45, (Own.nil _ _), h51, h64, d47, d48, d56, d53, d55, d54⟩
   ·
    intro g328 a w ⟨k325, rest326, s295, v298, rb299, ib300, s302, v305, rb306, hd329, hg330, hR, F, hB, h297, ow301, h304, h64, d307, d308, d309, d310, d311, d312⟩
    cases rest326 with
    | nil =>
     replace hR := forL_nil hR
     have hkk325 := drop_nil hd329.1 hd329.2
     have hlk325 := dec_no hkk325
     refine x_seq ?_
     refine x_reg ?_
     refine o_lss F rfl rfl rfl (fun a F => ?_)
     refine x_end ?_
     refine x_tn ?_
     refine x_seq ?_
     refine x_ifF F rfl hlk325 ?_
     refine x_exit ?_
     refine x_te ?_
     refine x_te ?_
     refine x_be ?_
     refine x_tn ?_
     exact ⟨s295, v298, rb299, ib300, s302, v305, rb306, (Option.some.inj hR).symm, F.sub (sc rfl sn), hB, h297, ow301, h304⟩
    | cons x327 rest326 =>
     subst hg330
     replace hd329 := drop_cons hd329.2
     have hxk325 := ix_nat hd329.2.1
     obtain ⟨ck325, hR, hn292⟩ := forL_cons hR
     rw [hf294] at hR
     have hlk325 := dec_yes hd329.1
     refine x_seq ?_
     refine x_reg ?_
     refine o_lss F rfl rfl rfl (fun a F => ?_)
     refine x_end ?_
     refine x_tn ?_
     refine x_seq ?_
     refine x_ifT F rfl hlk325 ?_
     refine x_skip ?_
     refine x_tn ?_
     refine x_seq ?_
     have ikk325 := k64 (Nat.le_of_lt hd329.1) i67
     have ink325 := inc64 hd329.1 i67
     refine x_blk ?_
     refine x_seq ?_
     refine x_reg ?_
     refine o_rindex Tryz.underlying75 Tryz.sizeOf161 F rfl rfl rfl h64 hxk325 (fun a p331 b332 h333 s334 rp335 F => ?_)
     refine o_loadA Tryz.isAgg161 Tryz.sizeOf161 F rfl rfl h333 (fun a v336 b337 h338 s339 F => ?_)
     refine o_alloc Tryz.zeroValue161 F rfl rfl (fun a w b340 K341 l BK341 F => ?_)
     have d342 := dj1 h64.memR BK341
     have d343 := dj1 h297.memR BK341
     have d344 := dj1 h304.memR BK341
     have d345 := (dj1 h333.m BK341).symm
     have d346 := (dj1 h338.m BK341).symm
     have d347 := (dj1 h64.rd.m BK341).symm
     have d348 := (dj1 h297.rd.m BK341).symm
     have d349 := (dj1 h304.rd.m BK341).symm
     have CK341 := Nat.le_trans hB.size BK341
     replace hB := Below.through l hB
     replace h64 := h64.go l
     replace h297 := h297.go l
     replace ow301 := ow301.go l
     replace h304 := h304.go l
     replace h338 := h338.go l
     obtain ⟨e355, i351, i352, i353, i354, eb350⟩ := RLine.rd h338
     subst e355
     refine o_bstoreA (vs := [.int .i64 x327.kind, .int .i64 x327.var, .int .i64 x327.value, .int .i64 x327.con]) Tryz.sizeOf161 F rfl rfl rfl K341 (oc rfl (oc rfl (oc rfl (oc rfl on)))) (Nat.le_of_ble_eq_true rfl) rfl (fun w K341 l => ?_)
     replace hB := hB.o l (fun c hc => by rw [List.mem_singleton] at hc; rw [hc]; exact CK341) hB.size
     replace h64 := h64.goO l d347
     replace h297 := h297.goO l d348
     replace ow301 := ow301.goO l d348.r
     replace h304 := h304.goO l d349
     refine x_end ?_
     refine x_tn ?_
     refine x_seq ?_
     refine x_reg ?_
     refine o_bfield fa161_0 F rfl rfl rfl (fun a F => ?_)
     refine o_bload Tryz.isAgg2 F rfl rfl K341 rfl (fun a F => ?_)
     refine x_end ?_
     refine x_tn ?_
     refine x_blk ?_
     refine x_seq ?_
     refine x_reg ?_
     refine o_eql F rfl rfl rfl (fun a F => ?_)
     refine o_assign F rfl rfl (fun a F => ?_)
     refine x_end ?_
     refine x_tn ?_
     refine x_if F rfl (fun hb356 => ?_) (fun hb356 => ?_)
     ·
      replace hR := ifT hb356 hR
      refine x_reg ?_
      refine o_move F rfl rfl (fun a F => ?_)
      refine o_bfield fa161_1 F rfl rfl rfl (fun a F => ?_)
      refine o_bload Tryz.isAgg2 F rfl rfl K341 rfl (fun a F => ?_)
      refine o_bfield fa161_2 F rfl rfl rfl (fun a F => ?_)
      refine o_bload Tryz.isAgg2 F rfl rfl K341 rfl (fun a F => ?_)
      refine o_build Tryz.underlying136 Tryz.zeroValue136 (fun w => by simp [Tryz.sizeOf2]; rfl) F rfl rfl rfl rfl rfl (oc rfl (oc rfl on)) rfl rfl (fun a F => ?_)
      have h357 := RLiteral.mk2 (w := w) i352 i353
      refine o_lit1 (R := RLiteral) (y := (Literal.mk x327.var x327.value)) Tryz.underlying63 Tryz.sizeOf136 Tryz.zeroValue136 rfl (by decide) (by decide) F rfl rfl (El.agg h357) (fun a w v358 rb359 h360 l F => ?_)
      have d362 := Dj.new h64.rd.m h360.ownR (Nat.le_refl _)
      have d363 := Dj.new h297.rd.m h360.ownR (Nat.le_refl _)
      have d364 := Dj.new h304.rd.m h360.ownR (Nat.le_refl _)
      have d365 := Dj.app' (Dj.new h64.memR h360.ownR (Nat.le_refl _)).symm (Dj.nil' _)
      have d366 := Dj.app' (Dj.new h297.memR h360.ownR (Nat.le_refl _)).symm (Dj.nil' _)
      have d367 := Dj.app' (Dj.new h297.mem h360.ownR (Nat.le_refl _)).symm (Dj.nil' _)
      have d368 := Dj.app' (Dj.new h304.memR h360.ownR (Nat.le_refl _)).symm (Dj.nil' _)
      replace h360 := h360.base hB.size
      replace hB := Below.through l hB
      replace h64 := h64.go l
      replace h297 := h297.go l
      replace ow301 := ow301.go l
      replace h304 := h304.go l
      obtain ⟨z369, c370, hR⟩ := bnd_some hR
      refine o_append (sz := 2) (R := RLiteral) (z := (.agg #[.int .i64 0, .int .i64 0])) (bytes := 16) Tryz.underlying63 (by kernel_rfl) rfl (by decide) (by decide) (by decide) F rfl rfl rfl h304 h360.src hB.size (Dj.nil _) c370 (fun a w v371 rb372 h373 l keep F => ?_)
      replace h373 := row_nil2 h373
      have d375 := keep _ h64.rd.m d310
      have d376 := keep _ h297.rd.m d312
      replace hB := hB.o l h304.lo hB.size
      replace h64 := h64.goO l d310
      replace h297 := h297.goO l d312
      replace ow301 := ow301.goO l (Dj.r d312)
      refine o_assign F rfl rfl (fun a F => ?_)
      refine x_end ?_
      refine x_bn ?_
      refine x_bn ?_
      refine x_tn ?_
      refine x_reg ?_
      refine o_inc F rfl rfl rfl ink325 (fun a F => ?_)
      refine o_move F rfl rfl (fun a F => ?_)
      refine x_end ?_
      refine x_tn ?_
      replace hR := l_go hR hn292
      exact ⟨_, Nat.lt_succ_self _, k325 + 1, rest326, s295, v298, rb299, ib300, z369, v371, rb372, ⟨hd329.1, hd329.2.2⟩, rfl, hR, F.sub (sc rfl (sc rfl (sc rfl (sc rfl (sc rfl sn))))), hB, h297, ow301, h373, h64, d307, d308, (Dj.app' (Dj.symm (Dj.l d376)) (Dj.nil' _)), d375, (Dj.app' (Dj.symm (Dj.l d375)) (Dj.nil' _)), d376⟩
     ·
      replace hR := ifF hb356 hR
      refine x_seq ?_
      refine x_reg ?_
      refine o_eql F rfl rfl rfl (fun a F => ?_)
      refine o_assign F rfl rfl (fun a F => ?_)
      refine x_end ?_
      refine x_tn ?_
      refine x_if F rfl (fun hb377 => ?_) (fun hb377 => ?_)
      ·
       replace hR := ifT hb377 hR
       refine x_seq ?_
       refine x_reg ?_
       refine o_move F rfl rfl (fun a F => ?_)
       refine o_move F rfl rfl (fun a F => ?_)
       obtain ⟨z378, c379, hR⟩ := bnd_some hR
       refine o_gives F rfl Tryz.call117 rfl (slices_Clone_s_Literal_Literal_c z378 c379 _ h304.rd) (fun a vv w l ⟨v380, rb381, hv384, h383⟩ F => ?_)
       subst vv
       have d386 := Dj.new h64.rd.m h383.ownR (Nat.le_refl _)
       have d387 := Dj.new h297.rd.m h383.ownR (Nat.le_refl _)
       have d388 := Dj.new h304.rd.m h383.ownR (Nat.le_refl _)
       have d389 := Dj.app' (Dj.new h64.memR h383.ownR (Nat.le_refl _)).symm (Dj.nil' _)
       have d390 := Dj.app' (Dj.new h297.memR h383.ownR (Nat.le_refl _)).symm (Dj.nil' _)
       have d391 := Dj.app' (Dj.new h297.mem h383.ownR (Nat.le_refl _)).symm (Dj.nil' _)
       have d392 := Dj.app' (Dj.new h304.memR h383.ownR (Nat.le_refl _)).symm (Dj.nil' _)
       replace h383 := h383.base hB.size
       replace hB := Below.through l hB
       replace h64 := h64.go l
       replace h297 := h297.go l
       replace ow301 := ow301.go l
       replace h304 := h304.go l
       refine o_lit1 (R := (RSl 2 RLiteral)) (y := z378) Tryz.underlying86 Tryz.sizeOf63 Tryz.zeroValue63 rfl (by decide) (by decide) F rfl rfl (El.sl h383.rd) (fun a w v393 rb394 h395 l F => ?_)
       have ow396 := Own.go (h383.own (Own.nil _ _)) l
       have d398 := Dj.new h64.rd.m h395.ownR (Nat.le_refl _)
       have d399 := Dj.new h297.rd.m h395.ownR (Nat.le_refl _)
       have d400 := Dj.new h304.rd.m h395.ownR (Nat.le_refl _)
       have d401 := Dj.app' (Dj.new h64.memR h395.ownR (Nat.le_refl _)).symm d389
       have d402 := Dj.app' (Dj.new h297.memR h395.ownR (Nat.le_refl _)).symm d390
       have d403 := Dj.app' (Dj.new h297.mem h395.ownR (Nat.le_refl _)).symm d391
       have d404 := Dj.app' (Dj.new h304.memR h395.ownR (Nat.le_refl _)).symm d392
       replace h395 := h395.base hB.size
       replace hB := Below.through l hB
       replace h64 := h64.go l
       replace h297 := h297.go l
       replace ow301 := ow301.go l
       replace h304 := h304.go l
       obtain ⟨z405, c406, hR⟩ := bnd_some hR
       refine o_append (sz := 1) (R := (RSl 2 RLiteral)) (z := ((.slice none 0 0))) (bytes := 24) Tryz.underlying86 (by kernel_rfl) rfl (by decide) (by decide) (by decide) F rfl rfl rfl h297 h395.src hB.size (Dj.symm d402.r) c406 (fun a w v407 rb408 h409 l keep F => ?_)
       have ow410 := Own.append (Own.goO ow301 l h297.dj.symm) (Own.goO ow396 l (Dj.symm (Dj.symm d402.r))) (Dj.symm d403.r)
       have d412 := keep _ h64.rd.m d307
       have d413 := keep _ h304.rd.m d309
       replace hB := hB.o l h297.lo hB.size
       replace h64 := h64.goO l d307
       replace h304 := h304.goO l d309
       have d414 := Dj.app' (Dj.symm (Dj.l d412)) (Dj.app' (Dj.r d308) (Dj.r d401))
       have d415 := Dj.app' (Dj.symm (Dj.l d413)) (Dj.app' (Dj.r d312) (Dj.r d404))
       refine o_assign F rfl rfl (fun a F => ?_)
       refine x_end ?_
       refine x_tn ?_
       refine x_reg ?_
       refine o_move F rfl rfl (fun a F => ?_)
       refine o_move F rfl rfl (fun a F => ?_)
       refine o_len Tryz.underlying63 F rfl rfl h304.rd (fun a F => ?_)
       have i416 := (h304.rd).r.len64
       obtain ⟨z417, c418, hR⟩ := bnd_some hR
       refine o_sub F rfl rfl rfl c418 (fun a F => ?_)
       obtain ⟨z419, c420, hR⟩ := bnd_some hR
       refine o_rtake Tryz.underlying63 Tryz.sizeOf136 F rfl rfl rfl h304 c420 (fun a v421 ib422 h423 s424 F => ?_)
       obtain rfl : ib422 = [] := sub_nil1 s424
       refine o_assign F rfl rfl (fun a F => ?_)
       refine x_end ?_
       refine x_bn ?_
       refine x_bn ?_
       refine x_tn ?_
       refine x_reg ?_
       refine o_inc F rfl rfl rfl ink325 (fun a F => ?_)
       refine o_move F rfl rfl (fun a F => ?_)
       refine x_end ?_
       refine x_tn ?_
       replace hR := l_go hR hn292
       exact ⟨_, Nat.lt_succ_self _, k325 + 1, rest326, z405, v407, rb408, (ib300 ++ (rb381 ++ [])), z419, v421, rb306, ⟨hd329.1, hd329.2.2⟩, rfl, hR, F.sub (sc rfl (sc rfl (sc rfl (sc rfl (sc rfl sn))))), hB, h409, ow410, h423, h64, d412, d414, d413, d310, d311, d415⟩
      ·
       replace hR := ifF hb377 hR
       refine x_skip ?_
       refine x_bn ?_
       refine x_bn ?_
       refine x_tn ?_
       refine x_reg ?_
       refine o_inc F rfl rfl rfl ink325 (fun a F => ?_)
       refine o_move F rfl rfl (fun a F => ?_)
       refine x_end ?_
       refine x_tn ?_
       replace hR := l_go hR hn292
       exact ⟨_, Nat.lt_succ_self _, k325 + 1, rest326, s295, v298, rb299, ib300, s302, v305, rb306, ⟨hd329.1, hd329.2.2⟩, rfl, hR, F.sub (sc rfl (sc rfl (sc rfl (sc rfl (sc rfl sn))))), hB, h297, ow301, h304, h64, d307, d308, d309, d310, d311, d312⟩
  ·
   intro a w ⟨s313, v316, rb317, ib318, s320, v323, rb324, ho291, F, hB, h315, ow319, h322⟩
   subst ho291
   have hR := then_nx hk290
   refine x_tn ?_
   refine x_seq ?_
   refine x_seq ?_
   refine x_reg ?_
   refine o_move F rfl rfl (fun a F => ?_)
   refine o_len Tryz.underlying86 F rfl rfl h315.rd (fun a F => ?_)
   have i426 := (h315.rd).r.len64
   refine o_gtr F rfl rfl rfl (fun a F => ?_)
   refine x_end ?_
   refine x_tn ?_
   refine x_if F rfl (fun hb427 => ?_) (fun hb427 => ?_)
   ·
    replace hR := ifT hb427 hR
    refine x_seq ?_
    refine x_reg ?_
    refine o_assign F rfl rfl (fun a F => ?_)
    refine o_assign F rfl rfl (fun a F => ?_)
    refine x_end ?_
    refine x_tn ?_
    refine x_ret ?_
    refine x_tr ?_
    refine x_res2 F rfl (rv_t F rfl) (rv_t F rfl) ?_
    obtain rfl := Option.some.inj hR
    exact ⟨_, rfl, hB, (.slice none 0 0), [], [], rfl, Row.nil 1 (RSl 2 RLiteral) 63 _ _, Own.nil _ _, (show I64 (3) by decide)⟩
   ·
    replace hR := ifF hb427 hR
    refine x_skip ?_
    refine x_tn ?_
    refine x_seq ?_
    refine x_reg ?_
    refine o_move F rfl rfl (fun a F => ?_)
    refine o_assign F rfl rfl (fun a F => ?_)
    refine o_assign F rfl rfl (fun a F => ?_)
    refine x_end ?_
    refine x_tn ?_
    refine x_ret ?_
    refine x_res2 F rfl (rv_t F rfl) (rv_t F rfl) ?_
    obtain rfl := Option.some.inj hR
    exact ⟨_, rfl, hB, v316, rb317, ib318, rfl, h315, ow319, (show I64 (0) by decide)⟩
end Go.Proofs.YtfepllddlmhjiaaGreat
