/-
  Functions of the program as plain functions, and that they compute them. Printed by fxio.py.
-/
import Derived.Test.YtfepllddlmhjiaaGreatS3
namespace Go.Proofs.YtfepllddlmhjiaaGreat
set_option linter.unusedVariables false
set_option linter.unusedSimpArgs false
set_option maxRecDepth 100000
open Go.RowKit
def impl_SearchFor (N : Nat) (x0 : Template) (x1 : Instance) (x2 : Int) : Option ((List Int) × Int × Int) :=
 bnd (impl_budgetFault (Template.mk x0.size x0.rels) (Instance.mk x1.vars x1.cons) x2) fun z33 =>
 if (z33 != 0) then
  some ([], 0, z33)
 else
  bnd (impl_fullDomains (Template.mk x0.size x0.rels) (Instance.mk x1.vars x1.cons)) fun z40 =>
  bnd (impl_searched N (Template.mk x0.size x0.rels) (Instance.mk x1.vars x1.cons) z40 x2) fun z56 =>
  if (z56.1.2.2.2.2.2.2 == 7) then
   some ([], 0, 7)
  else
   some (z56.1.2.2.2.2.2.1, z56.1.2.2.2.1, z56.1.2.2.2.2.2.2)
set_option maxHeartbeats 1000000 in
theorem impl_SearchFor_c {N : Nat} {x0 : Template} {x1 : Instance} {x2 : Int} (r : (List Int) × Int × Int) (hR : impl_SearchFor N x0 x1 x2 = some r) {v0 : Value} {b0 : List Nat} {v1 : Value} {b1 : List Nat} (w0 : World) (A0 : Rd (Agg 2 RTemplate) w0 v0 x0 b0) (A1 : Rd (Agg 2 RInstance) w0 v1 x1 b1) (hx2 : I64 x2) : Calls Tryz.prog 25 #[v0, v1, .int .i64 x2] w0 (Gives (fun v w' => ∃ (v1' : Value) (rb2' : List Nat), v = .tuple #[v1', .int .i64 r.2.1, .int .i64 r.2.2] ∧ Row 1 RInt 2 w0.heap.size w' v1' r.1 rb2' [] ∧ I64 r.2.1 ∧ I64 r.2.2) w0) := by
 unfold impl_SearchFor at hR
 refine x_enter (L := [(0, v0), (1, v1), (2, .int .i64 x2)]) Tryz.func25 rfl rfl rfl (sc rfl (sc rfl (sc rfl sn))) (fun a F => ?_)
 have hB := Below.refl w0.heap.size w0
 refine x_seq ?_
 refine x_reg ?_
 obtain ⟨v15, b16, e18, i14, h17, eb13⟩ := RTemplate.rd (A0.go hB)
 subst e18
 refine o_box F rfl rfl rfl (fun a w b11 K12 l BK12 F => ?_)
 have d19 := (dj1 h17.m BK12).symm
 have CK12 := Nat.le_trans hB.size BK12
 replace hB := Below.through l hB
 replace h17 := h17.go l
 obtain ⟨v24, b25, e27, i23, h26, eb22⟩ := RInstance.rd (A1.go hB)
 subst e27
 refine o_box F rfl rfl rfl (fun a w b20 K21 l BK21 F => ?_)
 have nb28 := Dj.bb K12 BK21
 have d29 := (dj1 h17.m BK21).symm
 have d30 := (dj1 h26.m BK21).symm
 have CK21 := Nat.le_trans hB.size BK21
 replace hB := Below.through l hB
 replace h17 := h17.go l
 replace h26 := h26.go l
 replace K12 := K12.thru l
 refine o_assign F rfl rfl (fun a F => ?_)
 refine o_assign F rfl rfl (fun a F => ?_)
 refine o_assign F rfl rfl (fun a F => ?_)
 refine x_end ?_
 refine x_tn ?_
 refine x_seq ?_
 refine x_seq ?_
 refine x_reg ?_
 refine o_bloadA (cs := [.int .i64 x0.size, v15]) Tryz.isAgg33 Tryz.sizeOf33 F rfl rfl K12 rfl (fun j hj => by match j, hj with | 0, _ => rfl | 1, _ => rfl) (fun a F => ?_)
 have h31 := RTemplate.mk2 (w := w) i14 h17
 refine o_bloadA (cs := [.int .i64 x1.vars, v24]) Tryz.isAgg51 Tryz.sizeOf51 F rfl rfl K21 rfl (fun j hj => by match j, hj with | 0, _ => rfl | 1, _ => rfl) (fun a F => ?_)
 have h32 := RInstance.mk2 (w := w) i23 h26
 refine o_move F rfl rfl (fun a F => ?_)
 obtain ⟨z33, c34, hR⟩ := bnd_some hR
 refine o_saysI F rfl Tryz.call86 rfl (impl_budgetFault_c z33 c34 _ h31 h32 hx2) (fun a w l iz33 F => ?_)
 replace hB := Below.through l hB
 replace h17 := h17.go l
 replace h26 := h26.go l
 replace K12 := K12.thru l
 replace K21 := K21.thru l
 refine o_assign F rfl rfl (fun a F => ?_)
 refine x_end ?_
 refine x_tn ?_
 refine x_seq ?_
 refine x_reg ?_
 refine o_move F rfl rfl (fun a F => ?_)
 refine o_neq F rfl rfl rfl (fun a F => ?_)
 refine x_end ?_
 refine x_tn ?_
 refine x_if F rfl (fun hb35 => ?_) (fun hb35 => ?_)
 ·
  replace hR := ifT hb35 hR
  refine x_seq ?_
  refine x_reg ?_
  refine o_move F rfl rfl (fun a F => ?_)
  refine o_assign F rfl rfl (fun a F => ?_)
  refine o_assign F rfl rfl (fun a F => ?_)
  refine o_assign F rfl rfl (fun a F => ?_)
  refine x_end ?_
  refine x_tn ?_
  refine x_ret ?_
  refine x_tr ?_
  refine x_res3 F rfl (rv_t F rfl) (rv_t F rfl) (rv_t F rfl) ?_
  obtain rfl := Option.some.inj hR
  exact ⟨_, rfl, hB, (.slice none 0 0), [], rfl, Row.nil 1 RInt 2 _ _, (show I64 (0) by decide), iz33⟩
 ·
  replace hR := ifF hb35 hR
  refine x_skip ?_
  refine x_tn ?_
  refine x_seq ?_
  refine x_drawn (by kernel_rfl) (fun w l => ?_)
  replace hB := Below.through l hB
  replace h17 := h17.go l
  replace h26 := h26.go l
  replace K12 := K12.thru l
  replace K21 := K21.thru l
  refine b_q 0 (by kernel_rfl) rfl (by kernel_rfl) (by kernel_rfl) (by kernel_rfl) (by kernel_rfl) ?_
  refine v_val F rfl (fun w l => r_bloadA (cs := [.int .i64 x0.size, v15]) Tryz.isAgg33 Tryz.sizeOf33 F rfl (K12.thru l) rfl (fun j hj => by match j, hj with | 0, _ => rfl | 1, _ => rfl)) (fun a F => ?_)
  have h36 := RTemplate.mk2 (w := w) i14 h17
  refine b_q 1 (by kernel_rfl) rfl (by kernel_rfl) (by kernel_rfl) (by kernel_rfl) (by kernel_rfl) ?_
  refine v_val F rfl (fun w l => r_bloadA (cs := [.int .i64 x1.vars, v24]) Tryz.isAgg51 Tryz.sizeOf51 F rfl (K21.thru l) rfl (fun j hj => by match j, hj with | 0, _ => rfl | 1, _ => rfl)) (fun a F => ?_)
  have h37 := RInstance.mk2 (w := w) i23 h26
  refine b_q 2 (by kernel_rfl) rfl (by kernel_rfl) (by kernel_rfl) (by kernel_rfl) (by kernel_rfl) ?_
  refine v_val F rfl (fun w l => r_bloadA (cs := [.int .i64 x0.size, v15]) Tryz.isAgg33 Tryz.sizeOf33 F rfl (K12.thru l) rfl (fun j hj => by match j, hj with | 0, _ => rfl | 1, _ => rfl)) (fun a F => ?_)
  have h38 := RTemplate.mk2 (w := w) i14 h17
  refine b_q 3 (by kernel_rfl) rfl (by kernel_rfl) (by kernel_rfl) (by kernel_rfl) (by kernel_rfl) ?_
  refine v_val F rfl (fun w l => r_bloadA (cs := [.int .i64 x1.vars, v24]) Tryz.isAgg51 Tryz.sizeOf51 F rfl (K21.thru l) rfl (fun j hj => by match j, hj with | 0, _ => rfl | 1, _ => rfl)) (fun a F => ?_)
  have h39 := RInstance.mk2 (w := w) i23 h26
  refine b_q0 5 rfl (by kernel_rfl) (by kernel_rfl) (by kernel_rfl) ?_
  refine v_val F rfl (fun w l => r_move F rfl) (fun a F => ?_)
  refine b_e 4 rfl (by kernel_rfl) ?_
  obtain ⟨z40, c41, hR⟩ := bnd_some hR
  refine o_gives F rfl Tryz.call88 rfl (impl_fullDomains_c z40 c41 _ h38 h39) (fun a vv w l ⟨v42, rb43, ib44, hv47, h45, ow46⟩ F => ?_)
  subst vv
  have o48 := h45.own ow46
  have d49 := (Dj.new (inm1 K12) o48 (Nat.le_refl _)).symm
  have d50 := (Dj.new (inm1 K21) o48 (Nat.le_refl _)).symm
  have d52 := Dj.new h17.m h45.ownR (Nat.le_refl _)
  have d53 := Dj.new h26.m h45.ownR (Nat.le_refl _)
  have d54 := Dj.new h36.m h45.ownR (Nat.le_refl _)
  have d55 := Dj.new h37.m h45.ownR (Nat.le_refl _)
  replace h45 := h45.base hB.size
  replace ow46 := ow46.mono hB.size
  replace hB := Below.through l hB
  replace h17 := h17.go l
  replace h26 := h26.go l
  replace h36 := h36.go l
  replace h37 := h37.go l
  refine x_end ?_
  refine x_tn ?_
  refine ⟨.inl l, ?_⟩
  refine b_e 6 rfl (by kernel_rfl) ?_
  obtain ⟨z56, c57, hR⟩ := bnd_some hR
  refine o_givesX F rfl Tryz.call87 rfl (impl_searched_c z56 c57 _ h36 h37 (h45.base (Nat.zero_le _)) hx2 d54 d55) (fun a vv w l ⟨b58, v61, v63, v66, rb67, v71, rb72, ib80, hv87, K59, BK59, i60, i62, i64, i65, h69, fr70, h74, fr75, i76, d77, d78, dj82, d83, d84, d85, d86, h79, fi81⟩ F => ?_)
  subst vv
  replace h79 := Row.rebase0 h79 h45.lo
  have d88 := dj1 h45.memR BK59
  have d89 := (dj1 h45.rd.m BK59).symm
  have CK59 := Nat.le_trans hB.size BK59
  replace h69 := Row.rebase h69 (Frs.trans0 fr70 h45.lo hB.size)
  replace h74 := Row.rebase h74 (Frs.trans0 fr75 h45.lo hB.size)
  replace hB := hB.o l h45.lo hB.size
  refine x_end ?_
  refine x_tn ?_
  refine ⟨.inr (by kernel_rfl), ?_⟩
  refine b_q0 7 rfl (by kernel_rfl) (by kernel_rfl) (by kernel_rfl) ?_
  refine v_val F rfl (fun w l => r_assign F rfl) (fun a F => ?_)
  refine b_end (by kernel_rfl) ?_
  refine x_tn ?_
  refine x_seq ?_
  refine x_seq ?_
  refine x_reg ?_
  refine o_move F rfl rfl (fun a F => ?_)
  refine o_nilCheck F rfl rfl (fun a F => ?_)
  refine o_bfield fa129_6 F rfl rfl rfl (fun a F => ?_)
  refine o_bload Tryz.isAgg2 F rfl rfl K59 rfl (fun a F => ?_)
  refine o_eql F rfl rfl rfl (fun a F => ?_)
  refine x_end ?_
  refine x_tn ?_
  refine x_if F rfl (fun hb93 => ?_) (fun hb93 => ?_)
  ·
   replace hR := ifT hb93 hR
   refine x_seq ?_
   refine x_reg ?_
   refine o_assign F rfl rfl (fun a F => ?_)
   refine o_assign F rfl rfl (fun a F => ?_)
   refine o_assign F rfl rfl (fun a F => ?_)
   refine x_end ?_
   refine x_tn ?_
   refine x_ret ?_
   refine x_tr ?_
   refine x_res3 F rfl (rv_t F rfl) (rv_t F rfl) (rv_t F rfl) ?_
   obtain rfl := Option.some.inj hR
   exact ⟨_, rfl, hB, (.slice none 0 0), [], rfl, Row.nil 1 RInt 2 _ _, (show I64 (0) by decide), (show I64 (7) by decide)⟩
  ·
   replace hR := ifF hb93 hR
   refine x_skip ?_
   refine x_tn ?_
   refine x_seq ?_
   refine x_draw (by kernel_rfl) (by kernel_rfl) ?_
   refine q_val F rfl (fun w l => r_move F rfl) (fun a F => ?_)
   refine q_val F rfl (fun w l => r_nilCheck F rfl) (fun a F => ?_)
   refine q_val F rfl (fun w l => r_bfield fa129_5 F rfl rfl) (fun a F => ?_)
   refine q_val F rfl (fun w l => r_load1 Tryz.isAgg46 F rfl (((K59.thru l).cell _).trans rfl)) (fun a F => ?_)
   refine q_val F rfl (fun w l => r_move F rfl) (fun a F => ?_)
   refine q_val F rfl (fun w l => r_nilCheck F rfl) (fun a F => ?_)
   refine q_val F rfl (fun w l => r_bfield fa129_3 F rfl rfl) (fun a F => ?_)
   refine q_val F rfl (fun w l => r_load1 Tryz.isAgg2 F rfl (((K59.thru l).cell _).trans rfl)) (fun a F => ?_)
   refine q_val F rfl (fun w l => r_move F rfl) (fun a F => ?_)
   refine q_val F rfl (fun w l => r_nilCheck F rfl) (fun a F => ?_)
   refine q_val F rfl (fun w l => r_bfield fa129_6 F rfl rfl) (fun a F => ?_)
   refine q_val F rfl (fun w l => r_load1 Tryz.isAgg2 F rfl (((K59.thru l).cell _).trans rfl)) (fun a F => ?_)
   refine q_val F rfl (fun w l => r_assign F rfl) (fun a F => ?_)
   refine q_val F rfl (fun w l => r_assign F rfl) (fun a F => ?_)
   refine q_val F rfl (fun w l => r_assign F rfl) (fun a F => ?_)
   refine q_end (fun w l => ?_)
   replace hB := Below.through l hB
   replace h74 := h74.go l
   refine x_tn ?_
   refine x_ret ?_
   refine x_res3 F rfl (rv_t F rfl) (rv_t F rfl) (rv_t F rfl) ?_
   obtain rfl := Option.some.inj hR
   exact ⟨_, rfl, hB, v71, rb72, rfl, h74, i65, i76⟩

def impl_RefuteInstance (N : Nat) (x0 : Template) (x1 : Instance) (x2 : Int) : Option ((List Line) × Int) :=
 bnd (impl_budgetFault (Template.mk x0.size x0.rels) (Instance.mk x1.vars x1.cons) x2) fun z33 =>
 if (z33 != 0) then
  some ([], z33)
 else
  bnd (impl_fullDomains (Template.mk x0.size x0.rels) (Instance.mk x1.vars x1.cons)) fun z40 =>
  bnd (impl_searched N (Template.mk x0.size x0.rels) (Instance.mk x1.vars x1.cons) z40 x2) fun z56 =>
  if (z56.1.2.2.2.2.2.2 == 7) then
   some ([], 7)
  else
   if (z56.1.2.2.2.2.2.2 == 0) then
    some ([], 6)
   else
    if (decide (4000 < (z56.1.2.2.2.2.1.length : Int))) then
     some ([], 3)
    else
     some (z56.1.2.2.2.2.1, 0)
set_option maxHeartbeats 1000000 in
theorem impl_RefuteInstance_c {N : Nat} {x0 : Template} {x1 : Instance} {x2 : Int} (r : (List Line) × Int) (hR : impl_RefuteInstance N x0 x1 x2 = some r) {v0 : Value} {b0 : List Nat} {v1 : Value} {b1 : List Nat} (w0 : World) (A0 : Rd (Agg 2 RTemplate) w0 v0 x0 b0) (A1 : Rd (Agg 2 RInstance) w0 v1 x1 b1) (hx2 : I64 x2) : Calls Tryz.prog 52 #[v0, v1, .int .i64 x2] w0 (Gives (fun v w' => ∃ (v1' : Value) (rb2' : List Nat), v = .tuple #[v1', .int .i64 r.2] ∧ Row 4 RLine 161 w0.heap.size w' v1' r.1 rb2' [] ∧ I64 r.2) w0) := by
 unfold impl_RefuteInstance at hR
 refine x_enter (L := [(0, v0), (1, v1), (2, .int .i64 x2)]) Tryz.func52 rfl rfl rfl (sc rfl (sc rfl (sc rfl sn))) (fun a F => ?_)
 have hB := Below.refl w0.heap.size w0
 refine x_seq ?_
 refine x_reg ?_
 obtain ⟨v15, b16, e18, i14, h17, eb13⟩ := RTemplate.rd (A0.go hB)
 subst e18
 refine o_box F rfl rfl rfl (fun a w b11 K12 l BK12 F => ?_)
 have d19 := (dj1 h17.m BK12).symm
 have CK12 := Nat.le_trans hB.size BK12
 replace hB := Below.through l hB
 replace h17 := h17.go l
 obtain ⟨v24, b25, e27, i23, h26, eb22⟩ := RInstance.rd (A1.go hB)
 subst e27
 refine o_box F rfl rfl rfl (fun a w b20 K21 l BK21 F => ?_)
 have nb28 := Dj.bb K12 BK21
 have d29 := (dj1 h17.m BK21).symm
 have d30 := (dj1 h26.m BK21).symm
 have CK21 := Nat.le_trans hB.size BK21
 replace hB := Below.through l hB
 replace h17 := h17.go l
 replace h26 := h26.go l
 replace K12 := K12.thru l
 refine o_assign F rfl rfl (fun a F => ?_)
 refine o_assign F rfl rfl (fun a F => ?_)
 refine x_end ?_
 refine x_tn ?_
 refine x_seq ?_
 refine x_seq ?_
 refine x_reg ?_
 refine o_bloadA (cs := [.int .i64 x0.size, v15]) Tryz.isAgg33 Tryz.sizeOf33 F rfl rfl K12 rfl (fun j hj => by match j, hj with | 0, _ => rfl | 1, _ => rfl) (fun a F => ?_)
 have h31 := RTemplate.mk2 (w := w) i14 h17
 refine o_bloadA (cs := [.int .i64 x1.vars, v24]) Tryz.isAgg51 Tryz.sizeOf51 F rfl rfl K21 rfl (fun j hj => by match j, hj with | 0, _ => rfl | 1, _ => rfl) (fun a F => ?_)
 have h32 := RInstance.mk2 (w := w) i23 h26
 refine o_move F rfl rfl (fun a F => ?_)
 obtain ⟨z33, c34, hR⟩ := bnd_some hR
 refine o_saysI F rfl Tryz.call86 rfl (impl_budgetFault_c z33 c34 _ h31 h32 hx2) (fun a w l iz33 F => ?_)
 replace hB := Below.through l hB
 replace h17 := h17.go l
 replace h26 := h26.go l
 replace K12 := K12.thru l
 replace K21 := K21.thru l
 refine o_assign F rfl rfl (fun a F => ?_)
 refine x_end ?_
 refine x_tn ?_
 refine x_seq ?_
 refine x_reg ?_
 refine o_move F rfl rfl (fun a F => ?_)
 refine o_neq F rfl rfl rfl (fun a F => ?_)
 refine x_end ?_
 refine x_tn ?_
 refine x_if F rfl (fun hb35 => ?_) (fun hb35 => ?_)
 ·
  replace hR := ifT hb35 hR
  refine x_seq ?_
  refine x_reg ?_
  refine o_move F rfl rfl (fun a F => ?_)
  refine o_assign F rfl rfl (fun a F => ?_)
  refine o_assign F rfl rfl (fun a F => ?_)
  refine x_end ?_
  refine x_tn ?_
  refine x_ret ?_
  refine x_tr ?_
  refine x_res2 F rfl (rv_t F rfl) (rv_t F rfl) ?_
  obtain rfl := Option.some.inj hR
  exact ⟨_, rfl, hB, (.slice none 0 0), [], rfl, Row.nil 4 RLine 161 _ _, iz33⟩
 ·
  replace hR := ifF hb35 hR
  refine x_skip ?_
  refine x_tn ?_
  refine x_seq ?_
  refine x_drawn (by kernel_rfl) (fun w l => ?_)
  replace hB := Below.through l hB
  replace h17 := h17.go l
  replace h26 := h26.go l
  replace K12 := K12.thru l
  replace K21 := K21.thru l
  refine b_q 0 (by kernel_rfl) rfl (by kernel_rfl) (by kernel_rfl) (by kernel_rfl) (by kernel_rfl) ?_
  refine v_val F rfl (fun w l => r_bloadA (cs := [.int .i64 x0.size, v15]) Tryz.isAgg33 Tryz.sizeOf33 F rfl (K12.thru l) rfl (fun j hj => by match j, hj with | 0, _ => rfl | 1, _ => rfl)) (fun a F => ?_)
  have h36 := RTemplate.mk2 (w := w) i14 h17
  refine b_q 1 (by kernel_rfl) rfl (by kernel_rfl) (by kernel_rfl) (by kernel_rfl) (by kernel_rfl) ?_
  refine v_val F rfl (fun w l => r_bloadA (cs := [.int .i64 x1.vars, v24]) Tryz.isAgg51 Tryz.sizeOf51 F rfl (K21.thru l) rfl (fun j hj => by match j, hj with | 0, _ => rfl | 1, _ => rfl)) (fun a F => ?_)
  have h37 := RInstance.mk2 (w := w) i23 h26
  refine b_q 2 (by kernel_rfl) rfl (by kernel_rfl) (by kernel_rfl) (by kernel_rfl) (by kernel_rfl) ?_
  refine v_val F rfl (fun w l => r_bloadA (cs := [.int .i64 x0.size, v15]) Tryz.isAgg33 Tryz.sizeOf33 F rfl (K12.thru l) rfl (fun j hj => by match j, hj with | 0, _ => rfl | 1, _ => rfl)) (fun a F => ?_)
  have h38 := RTemplate.mk2 (w := w) i14 h17
  refine b_q 3 (by kernel_rfl) rfl (by kernel_rfl) (by kernel_rfl) (by kernel_rfl) (by kernel_rfl) ?_
  refine v_val F rfl (fun w l => r_bloadA (cs := [.int .i64 x1.vars, v24]) Tryz.isAgg51 Tryz.sizeOf51 F rfl (K21.thru l) rfl (fun j hj => by match j, hj with | 0, _ => rfl | 1, _ => rfl)) (fun a F => ?_)
  have h39 := RInstance.mk2 (w := w) i23 h26
  refine b_q0 5 rfl (by kernel_rfl) (by kernel_rfl) (by kernel_rfl) ?_
  refine v_val F rfl (fun w l => r_move F rfl) (fun a F => ?_)
  refine b_e 4 rfl (by kernel_rfl) ?_
  obtain ⟨z40, c41, hR⟩ := bnd_some hR
  refine o_gives F rfl Tryz.call88 rfl (impl_fullDomains_c z40 c41 _ h38 h39) (fun a vv w l ⟨v42, rb43, ib44, hv47, h45, ow46⟩ F => ?_)
  subst vv
  have o48 := h45.own ow46
  have d49 := (Dj.new (inm1 K12) o48 (Nat.le_refl _)).symm
  have d50 := (Dj.new (inm1 K21) o48 (Nat.le_refl _)).symm
  have d52 := Dj.new h17.m h45.ownR (Nat.le_refl _)
  have d53 := Dj.new h26.m h45.ownR (Nat.le_refl _)
  have d54 := Dj.new h36.m h45.ownR (Nat.le_refl _)
  have d55 := Dj.new h37.m h45.ownR (Nat.le_refl _)
  replace h45 := h45.base hB.size
  replace ow46 := ow46.mono hB.size
  replace hB := Below.through l hB
  replace h17 := h17.go l
  replace h26 := h26.go l
  replace h36 := h36.go l
  replace h37 := h37.go l
  refine x_end ?_
  refine x_tn ?_
  refine ⟨.inl l, ?_⟩
  refine b_e 6 rfl (by kernel_rfl) ?_
  obtain ⟨z56, c57, hR⟩ := bnd_some hR
  refine o_givesX F rfl Tryz.call87 rfl (impl_searched_c z56 c57 _ h36 h37 (h45.base (Nat.zero_le _)) hx2 d54 d55) (fun a vv w l ⟨b58, v61, v63, v66, rb67, v71, rb72, ib80, hv87, K59, BK59, i60, i62, i64, i65, h69, fr70, h74, fr75, i76, d77, d78, dj82, d83, d84, d85, d86, h79, fi81⟩ F => ?_)
  subst vv
  replace h79 := Row.rebase0 h79 h45.lo
  have d88 := dj1 h45.memR BK59
  have d89 := (dj1 h45.rd.m BK59).symm
  have CK59 := Nat.le_trans hB.size BK59
  replace h69 := Row.rebase h69 (Frs.trans0 fr70 h45.lo hB.size)
  replace h74 := Row.rebase h74 (Frs.trans0 fr75 h45.lo hB.size)
  replace hB := hB.o l h45.lo hB.size
  refine x_end ?_
  refine x_tn ?_
  refine ⟨.inr (by kernel_rfl), ?_⟩
  refine b_q0 7 rfl (by kernel_rfl) (by kernel_rfl) (by kernel_rfl) ?_
  refine v_val F rfl (fun w l => r_assign F rfl) (fun a F => ?_)
  refine b_end (by kernel_rfl) ?_
  refine x_tn ?_
  refine x_blk ?_
  refine x_seq ?_
  refine x_reg ?_
  refine o_move F rfl rfl (fun a F => ?_)
  refine o_nilCheck F rfl rfl (fun a F => ?_)
  refine o_bfield fa129_6 F rfl rfl rfl (fun a F => ?_)
  refine o_bload Tryz.isAgg2 F rfl rfl K59 rfl (fun a F => ?_)
  refine o_eql F rfl rfl rfl (fun a F => ?_)
  refine o_assign F rfl rfl (fun a F => ?_)
  refine x_end ?_
  refine x_tn ?_
  refine x_if F rfl (fun hb93 => ?_) (fun hb93 => ?_)
  ·
   replace hR := ifT hb93 hR
   refine x_seq ?_
   refine x_reg ?_
   refine o_assign F rfl rfl (fun a F => ?_)
   refine o_assign F rfl rfl (fun a F => ?_)
   refine x_end ?_
   refine x_tn ?_
   refine x_ret ?_
   refine x_br ?_
   refine x_res2 F rfl (rv_t F rfl) (rv_t F rfl) ?_
   obtain rfl := Option.some.inj hR
   exact ⟨_, rfl, hB, (.slice none 0 0), [], rfl, Row.nil 4 RLine 161 _ _, (show I64 (7) by decide)⟩
  ·
   replace hR := ifF hb93 hR
   refine x_seq ?_
   refine x_reg ?_
   refine o_move F rfl rfl (fun a F => ?_)
   refine o_nilCheck F rfl rfl (fun a F => ?_)
   refine o_bfield fa129_6 F rfl rfl rfl (fun a F => ?_)
   refine o_bload Tryz.isAgg2 F rfl rfl K59 rfl (fun a F => ?_)
   refine o_eql F rfl rfl rfl (fun a F => ?_)
   refine o_assign F rfl rfl (fun a F => ?_)
   refine x_end ?_
   refine x_tn ?_
   refine x_if F rfl (fun hb94 => ?_) (fun hb94 => ?_)
   ·
    replace hR := ifT hb94 hR
    refine x_seq ?_
    refine x_reg ?_
    refine o_assign F rfl rfl (fun a F => ?_)
    refine o_assign F rfl rfl (fun a F => ?_)
    refine x_end ?_
    refine x_tn ?_
    refine x_ret ?_
    refine x_br ?_
    refine x_res2 F rfl (rv_t F rfl) (rv_t F rfl) ?_
    obtain rfl := Option.some.inj hR
    exact ⟨_, rfl, hB, (.slice none 0 0), [], rfl, Row.nil 4 RLine 161 _ _, (show I64 (6) by decide)⟩
   ·
    replace hR := ifF hb94 hR
    refine x_seq ?_
    refine x_reg ?_
    refine o_move F rfl rfl (fun a F => ?_)
    refine o_nilCheck F rfl rfl (fun a F => ?_)
    refine o_bfield fa129_4 F rfl rfl rfl (fun a F => ?_)
    refine o_bload Tryz.isAgg75 F rfl rfl K59 rfl (fun a F => ?_)
    refine o_len Tryz.underlying75 F rfl rfl h69.rd (fun a F => ?_)
    have i95 := (h69.rd).r.len64
    refine o_gtr F rfl rfl rfl (fun a F => ?_)
    refine o_assign F rfl rfl (fun a F => ?_)
    refine x_end ?_
    refine x_tn ?_
    refine x_if F rfl (fun hb96 => ?_) (fun hb96 => ?_)
    ·
     replace hR := ifT hb96 hR
     refine x_seq ?_
     refine x_reg ?_
     refine o_assign F rfl rfl (fun a F => ?_)
     refine o_assign F rfl rfl (fun a F => ?_)
     refine x_end ?_
     refine x_tn ?_
     refine x_ret ?_
     refine x_br ?_
     refine x_res2 F rfl (rv_t F rfl) (rv_t F rfl) ?_
     obtain rfl := Option.some.inj hR
     exact ⟨_, rfl, hB, (.slice none 0 0), [], rfl, Row.nil 4 RLine 161 _ _, (show I64 (3) by decide)⟩
    ·
     replace hR := ifF hb96 hR
     refine x_seq ?_
     refine x_reg ?_
     refine o_move F rfl rfl (fun a F => ?_)
     refine o_nilCheck F rfl rfl (fun a F => ?_)
     refine o_bfield fa129_4 F rfl rfl rfl (fun a F => ?_)
     refine o_bload Tryz.isAgg75 F rfl rfl K59 rfl (fun a F => ?_)
     refine o_assign F rfl rfl (fun a F => ?_)
     refine o_assign F rfl rfl (fun a F => ?_)
     refine x_end ?_
     refine x_tn ?_
     refine x_ret ?_
     refine x_br ?_
     refine x_res2 F rfl (rv_t F rfl) (rv_t F rfl) ?_
     obtain rfl := Option.some.inj hR
     exact ⟨_, rfl, hB, v66, rb67, rfl, h69, (show I64 (0) by decide)⟩

def spec_SearchFor (N : Nat) (x0 : Template) (x1 : Instance) (x2 : Int) : Option ((List Int) × Int × Int) :=
 bnd (spec_l08Budget (Template.mk x0.size x0.rels) (Instance.mk x1.vars x1.cons) x2) fun z31 =>
 if (z31 != 0) then
  some ([], 0, z31)
 else
  bnd (spec_l05Full (Template.mk x0.size x0.rels) (Instance.mk x1.vars x1.cons)) fun z38 =>
  bnd (spec_l08Run N (Template.mk x0.size x0.rels) (Instance.mk x1.vars x1.cons) z38 x2) fun z54 =>
  if (z54.2.1 == 0) then
   some (z54.1.2.2.2.1, z54.1.2.1, 0)
  else
   if (z54.2.1 == 6) then
    some ([], z54.1.2.1, z54.2.1)
   else
    some ([], 0, z54.2.1)
set_option maxHeartbeats 1000000 in
theorem spec_SearchFor_c {N : Nat} {x0 : Template} {x1 : Instance} {x2 : Int} (r : (List Int) × Int × Int) (hR : spec_SearchFor N x0 x1 x2 = some r) {v0 : Value} {b0 : List Nat} {v1 : Value} {b1 : List Nat} (w0 : World) (A0 : Rd (Agg 2 RTemplate) w0 v0 x0 b0) (A1 : Rd (Agg 2 RInstance) w0 v1 x1 b1) (hx2 : I64 x2) : Calls Tryz.prog 23 #[v0, v1, .int .i64 x2] w0 (Gives (fun v w' => ∃ (v1' : Value) (rb2' : List Nat), v = .tuple #[v1', .int .i64 r.2.1, .int .i64 r.2.2] ∧ Row 1 RInt 2 w0.heap.size w' v1' r.1 rb2' [] ∧ I64 r.2.1 ∧ I64 r.2.2) w0) := by
 unfold spec_SearchFor at hR
 refine x_enter (L := [(0, v0), (1, v1), (2, .int .i64 x2)]) Tryz.func23 rfl rfl rfl (sc rfl (sc rfl (sc rfl sn))) (fun a F => ?_)
 have hB := Below.refl w0.heap.size w0
 refine x_seq ?_
 refine x_reg ?_
 obtain ⟨v15, b16, e18, i14, h17, eb13⟩ := RTemplate.rd (A0.go hB)
 subst e18
 refine o_box F rfl rfl rfl (fun a w b11 K12 l BK12 F => ?_)
 have d19 := (dj1 h17.m BK12).symm
 have CK12 := Nat.le_trans hB.size BK12
 replace hB := Below.through l hB
 replace h17 := h17.go l
 obtain ⟨v24, b25, e27, i23, h26, eb22⟩ := RInstance.rd (A1.go hB)
 subst e27
 refine o_box F rfl rfl rfl (fun a w b20 K21 l BK21 F => ?_)
 have nb28 := Dj.bb K12 BK21
 have d29 := (dj1 h17.m BK21).symm
 have d30 := (dj1 h26.m BK21).symm
 have CK21 := Nat.le_trans hB.size BK21
 replace hB := Below.through l hB
 replace h17 := h17.go l
 replace h26 := h26.go l
 replace K12 := K12.thru l
 refine o_assign F rfl rfl (fun a F => ?_)
 refine o_assign F rfl rfl (fun a F => ?_)
 refine o_assign F rfl rfl (fun a F => ?_)
 refine x_end ?_
 refine x_tn ?_
 refine x_seq ?_
 refine x_seq ?_
 refine x_reg ?_
 refine o_move F rfl rfl (fun a F => ?_)
 obtain ⟨z31, c32, hR⟩ := bnd_some hR
 refine o_saysI F rfl Tryz.call82 rfl (spec_l08Budget_c z31 c32 _ (RTemplate.blk K12 i14 h17) (RInstance.blk K21 i23 h26) hx2) (fun a w l iz31 F => ?_)
 replace hB := Below.through l hB
 replace h17 := h17.go l
 replace h26 := h26.go l
 replace K12 := K12.thru l
 replace K21 := K21.thru l
 refine o_assign F rfl rfl (fun a F => ?_)
 refine x_end ?_
 refine x_tn ?_
 refine x_seq ?_
 refine x_reg ?_
 refine o_move F rfl rfl (fun a F => ?_)
 refine o_neq F rfl rfl rfl (fun a F => ?_)
 refine x_end ?_
 refine x_tn ?_
 refine x_if F rfl (fun hb33 => ?_) (fun hb33 => ?_)
 ·
  replace hR := ifT hb33 hR
  refine x_seq ?_
  refine x_reg ?_
  refine o_lit0 (R := RInt) Tryz.underlying46 Tryz.sizeOf2 F rfl (fun a w v34 rb35 h36 l F => ?_)
  replace h36 := h36.base hB.size
  replace hB := Below.through l hB
  refine o_move F rfl rfl (fun a F => ?_)
  refine o_assign F rfl rfl (fun a F => ?_)
  refine o_assign F rfl rfl (fun a F => ?_)
  refine o_assign F rfl rfl (fun a F => ?_)
  refine x_end ?_
  refine x_tn ?_
  refine x_ret ?_
  refine x_tr ?_
  refine x_res3 F rfl (rv_t F rfl) (rv_t F rfl) (rv_t F rfl) ?_
  obtain rfl := Option.some.inj hR
  exact ⟨_, rfl, hB, v34, rb35, rfl, h36, (show I64 (0) by decide), iz31⟩
 ·
  replace hR := ifF hb33 hR
  refine x_skip ?_
  refine x_tn ?_
  refine x_seq ?_
  refine x_reg ?_
  obtain ⟨z38, c39, hR⟩ := bnd_some hR
  refine o_gives F rfl Tryz.call84 rfl (spec_l05Full_c z38 c39 _ (RTemplate.blk K12 i14 h17) (RInstance.blk K21 i23 h26)) (fun a vv w l ⟨v40, rb41, ib42, hv45, h43, ow44⟩ F => ?_)
  subst vv
  have o46 := h43.own ow44
  have d47 := (Dj.new (inm1 K12) o46 (Nat.le_refl _)).symm
  have d48 := (Dj.new (inm1 K21) o46 (Nat.le_refl _)).symm
  have d50 := Dj.new h17.m h43.ownR (Nat.le_refl _)
  have d51 := Dj.new h26.m h43.ownR (Nat.le_refl _)
  have d52 := Dj.new (inm1 K12) h43.ownR (Nat.le_refl _)
  have d53 := Dj.new (inm1 K21) h43.ownR (Nat.le_refl _)
  replace h43 := h43.base hB.size
  replace ow44 := ow44.mono hB.size
  replace hB := Below.through l hB
  replace h17 := h17.go l
  replace h26 := h26.go l
  replace K12 := K12.thru l
  replace K21 := K21.thru l
  refine o_move F rfl rfl (fun a F => ?_)
  obtain ⟨z54, c55, hR⟩ := bnd_some hR
  refine o_givesX F rfl Tryz.call83 rfl (spec_l08Run_c z54 c55 _ (RTemplate.blk K12 i14 h17) (RInstance.blk K21 i23 h26) (h43.base (Nat.zero_le _)) hx2 (Dj.cons d52 d50) (Dj.cons d53 d51)) (fun a vv w l ⟨b56, v58, v59, v62, rb63, v67, rb68, ib76, hv83, K57, BK57, i60, i61, h65, fr66, h70, fr71, d72, d73, i74, dj78, d79, d80, d81, d82, h75, fi77⟩ F => ?_)
  subst vv
  replace h75 := Row.rebase0 h75 h43.lo
  have d84 := dj1 h43.memR BK57
  have d85 := (dj1 h43.rd.m BK57).symm
  have CK57 := Nat.le_trans hB.size BK57
  replace h65 := Row.rebase h65 (Frs.trans0 fr66 h43.lo hB.size)
  replace h70 := Row.rebase h70 (Frs.trans0 fr71 h43.lo hB.size)
  replace hB := hB.o l h43.lo hB.size
  refine o_move F rfl rfl (fun a F => ?_)
  refine o_extract F rfl rfl rfl (fun a F => ?_)
  refine o_extract F rfl rfl rfl (fun a F => ?_)
  refine o_assign F rfl rfl (fun a F => ?_)
  refine o_assign F rfl rfl (fun a F => ?_)
  refine x_end ?_
  refine x_tn ?_
  refine x_seq ?_
  refine x_seq ?_
  refine x_reg ?_
  refine o_move F rfl rfl (fun a F => ?_)
  refine x_end ?_
  refine x_tn ?_
  refine x_blk ?_
  refine x_seq ?_
  refine x_reg ?_
  refine o_eql F rfl rfl rfl (fun a F => ?_)
  refine o_assign F rfl rfl (fun a F => ?_)
  refine x_end ?_
  refine x_tn ?_
  refine x_if F rfl (fun hb89 => ?_) (fun hb89 => ?_)
  ·
   replace hR := ifT hb89 hR
   refine x_seq ?_
   refine x_draw (by kernel_rfl) (by kernel_rfl) ?_
   refine q_val F rfl (fun w l => r_move F rfl) (fun a F => ?_)
   refine q_val F rfl (fun w l => r_nilCheck F rfl) (fun a F => ?_)
   refine q_val F rfl (fun w l => r_bfield fa122_5 F rfl rfl) (fun a F => ?_)
   refine q_val F rfl (fun w l => r_load1 Tryz.isAgg46 F rfl (((K57.thru l).cell _).trans rfl)) (fun a F => ?_)
   refine q_val F rfl (fun w l => r_move F rfl) (fun a F => ?_)
   refine q_val F rfl (fun w l => r_nilCheck F rfl) (fun a F => ?_)
   refine q_val F rfl (fun w l => r_bfield fa122_3 F rfl rfl) (fun a F => ?_)
   refine q_val F rfl (fun w l => r_load1 Tryz.isAgg2 F rfl (((K57.thru l).cell _).trans rfl)) (fun a F => ?_)
   refine q_val F rfl (fun w l => r_assign F rfl) (fun a F => ?_)
   refine q_val F rfl (fun w l => r_assign F rfl) (fun a F => ?_)
   refine q_val F rfl (fun w l => r_assign F rfl) (fun a F => ?_)
   refine q_end (fun w l => ?_)
   replace hB := Below.through l hB
   replace h70 := h70.go l
   refine x_tn ?_
   refine x_ret ?_
   refine x_br ?_
   refine x_tr ?_
   refine x_res3 F rfl (rv_t F rfl) (rv_t F rfl) (rv_t F rfl) ?_
   obtain rfl := Option.some.inj hR
   exact ⟨_, rfl, hB, v67, rb68, rfl, h70, i61, (show I64 (0) by decide)⟩
  ·
   replace hR := ifF hb89 hR
   refine x_seq ?_
   refine x_reg ?_
   refine o_eql F rfl rfl rfl (fun a F => ?_)
   refine o_assign F rfl rfl (fun a F => ?_)
   refine x_end ?_
   refine x_tn ?_
   refine x_if F rfl (fun hb90 => ?_) (fun hb90 => ?_)
   ·
    replace hR := ifT hb90 hR
    refine x_seq ?_
    refine x_drawn (by kernel_rfl) (fun w l => ?_)
    replace hB := Below.through l hB
    replace h65 := h65.go l
    replace h70 := h70.go l
    replace K57 := K57.thru l
    refine b_q0 1 rfl (by kernel_rfl) (by kernel_rfl) (by kernel_rfl) ?_
    refine v_val F rfl (fun w l => r_move F rfl) (fun a F => ?_)
    refine b_q 2 (by kernel_rfl) rfl (by kernel_rfl) (by kernel_rfl) (by kernel_rfl) (by kernel_rfl) ?_
    refine v_val F rfl (fun w l => r_nilCheck F rfl) (fun a F => ?_)
    refine b_q 3 (by kernel_rfl) rfl (by kernel_rfl) (by kernel_rfl) (by kernel_rfl) (by kernel_rfl) ?_
    refine v_val F rfl (fun w l => r_bfield fa122_3 F rfl rfl) (fun a F => ?_)
    refine b_q 4 (by kernel_rfl) rfl (by kernel_rfl) (by kernel_rfl) (by kernel_rfl) (by kernel_rfl) ?_
    refine v_val F rfl (fun w l => r_load1 Tryz.isAgg2 F rfl (((K57.thru l).cell _).trans rfl)) (fun a F => ?_)
    refine b_q0 5 rfl (by kernel_rfl) (by kernel_rfl) (by kernel_rfl) ?_
    refine v_val F rfl (fun w l => r_move F rfl) (fun a F => ?_)
    refine b_e 0 rfl (by kernel_rfl) ?_
    refine o_lit0 (R := RInt) Tryz.underlying46 Tryz.sizeOf2 F rfl (fun a w v91 rb92 h93 l F => ?_)
    have d95 := Dj.app' (Dj.new h65.memR h93.ownR (Nat.le_refl _)).symm (Dj.nil' _)
    have d96 := Dj.app' (Dj.new h70.memR h93.ownR (Nat.le_refl _)).symm (Dj.nil' _)
    replace h93 := h93.base hB.size
    replace hB := Below.through l hB
    refine x_end ?_
    refine x_tn ?_
    refine ⟨.inl l, ?_⟩
    refine b_q0 6 rfl (by kernel_rfl) (by kernel_rfl) (by kernel_rfl) ?_
    refine v_val F rfl (fun w l => r_assign F rfl) (fun a F => ?_)
    refine b_q0 7 rfl (by kernel_rfl) (by kernel_rfl) (by kernel_rfl) ?_
    refine v_val F rfl (fun w l => r_assign F rfl) (fun a F => ?_)
    refine b_q0 8 rfl (by kernel_rfl) (by kernel_rfl) (by kernel_rfl) ?_
    refine v_val F rfl (fun w l => r_assign F rfl) (fun a F => ?_)
    refine b_end (by kernel_rfl) ?_
    refine x_tn ?_
    refine x_ret ?_
    refine x_br ?_
    refine x_tr ?_
    refine x_res3 F rfl (rv_t F rfl) (rv_t F rfl) (rv_t F rfl) ?_
    obtain rfl := Option.some.inj hR
    exact ⟨_, rfl, hB, v91, rb92, rfl, h93, i61, i74⟩
   ·
    replace hR := ifF hb90 hR
    refine x_skip ?_
    refine x_bn ?_
    refine x_tn ?_
    refine x_seq ?_
    refine x_reg ?_
    refine o_lit0 (R := RInt) Tryz.underlying46 Tryz.sizeOf2 F rfl (fun a w v97 rb98 h99 l F => ?_)
    have d101 := Dj.app' (Dj.new h75.memR h99.ownR (Nat.le_refl _)).symm (Dj.nil' _)
    have d102 := Dj.app' (Dj.new h75.mem h99.ownR (Nat.le_refl _)).symm (Dj.nil' _)
    have d103 := Dj.app' (Dj.new h65.memR h99.ownR (Nat.le_refl _)).symm (Dj.nil' _)
    have d104 := Dj.app' (Dj.new h70.memR h99.ownR (Nat.le_refl _)).symm (Dj.nil' _)
    replace h99 := h99.base hB.size
    replace hB := Below.through l hB
    refine o_move F rfl rfl (fun a F => ?_)
    refine o_assign F rfl rfl (fun a F => ?_)
    refine o_assign F rfl rfl (fun a F => ?_)
    refine o_assign F rfl rfl (fun a F => ?_)
    refine x_end ?_
    refine x_tn ?_
    refine x_ret ?_
    refine x_res3 F rfl (rv_t F rfl) (rv_t F rfl) (rv_t F rfl) ?_
    obtain rfl := Option.some.inj hR
    exact ⟨_, rfl, hB, v97, rb98, rfl, h99, (show I64 (0) by decide), i74⟩

def spec_l08Refute (N : Nat) (x0 : Template) (x1 : Instance) (x2 : Int) : Option ((List Line) × Int) :=
 bnd (spec_l05Full x0 x1) fun z11 =>
 bnd (spec_l08Run N x0 x1 z11 x2) fun z21 =>
 if (z21.2.1 == 7) then
  some ([], z21.2.1)
 else
  if (z21.2.1 == 0) then
   some ([], 6)
  else
   if (decide (4000 < (z21.1.2.2.1.length : Int))) then
    some ([], 3)
   else
    some (z21.1.2.2.1, 0)
set_option maxHeartbeats 1000000 in
theorem spec_l08Refute_c {N : Nat} {x0 : Template} {x1 : Instance} {x2 : Int} (r : (List Line) × Int) (hR : spec_l08Refute N x0 x1 x2 = some r) {v0 : Value} {b0 : List Nat} {v1 : Value} {b1 : List Nat} (w0 : World) (A0 : Rd (Pt 2 RTemplate) w0 v0 x0 b0) (A1 : Rd (Pt 2 RInstance) w0 v1 x1 b1) (hx2 : I64 x2) : Calls Tryz.prog 116 #[v0, v1, .int .i64 x2] w0 (Gives (fun v w' => ∃ (v1' : Value) (rb2' : List Nat), v = .tuple #[v1', .int .i64 r.2] ∧ Row 4 RLine 161 w0.heap.size w' v1' r.1 rb2' [] ∧ I64 r.2) w0) := by
 unfold spec_l08Refute at hR
 refine x_enter (L := [(0, v0), (1, v1), (2, .int .i64 x2)]) Tryz.func116 rfl rfl rfl (sc rfl (sc rfl (sc rfl sn))) (fun a F => ?_)
 have hB := Below.refl w0.heap.size w0
 refine x_seq ?_
 refine x_reg ?_
 refine o_assign F rfl rfl (fun a F => ?_)
 refine o_assign F rfl rfl (fun a F => ?_)
 refine x_end ?_
 refine x_tn ?_
 refine x_seq ?_
 refine x_reg ?_
 refine o_move F rfl rfl (fun a F => ?_)
 refine o_move F rfl rfl (fun a F => ?_)
 refine o_move F rfl rfl (fun a F => ?_)
 refine o_move F rfl rfl (fun a F => ?_)
 obtain ⟨z11, c12, hR⟩ := bnd_some hR
 refine o_gives F rfl Tryz.call84 rfl (spec_l05Full_c z11 c12 _ (A0.go hB) (A1.go hB)) (fun a vv w l ⟨v13, rb14, ib15, hv18, h16, ow17⟩ F => ?_)
 subst vv
 have o19 := h16.own ow17
 replace h16 := h16.base hB.size
 replace ow17 := ow17.mono hB.size
 replace hB := Below.through l hB
 refine o_move F rfl rfl (fun a F => ?_)
 obtain ⟨z21, c22, hR⟩ := bnd_some hR
 refine o_givesX F rfl Tryz.call83 rfl (spec_l08Run_c z21 c22 _ (A0.go hB) (A1.go hB) (h16.base (Nat.zero_le _)) hx2 (Dj.new A0.m h16.ownR (Nat.le_refl _)) (Dj.new A1.m h16.ownR (Nat.le_refl _))) (fun a vv w l ⟨b23, v25, v26, v29, rb30, v34, rb35, ib43, hv50, K24, BK24, i27, i28, h32, fr33, h37, fr38, d39, d40, i41, dj45, d46, d47, d48, d49, h42, fi44⟩ F => ?_)
 subst vv
 replace h42 := Row.rebase0 h42 h16.lo
 have d51 := dj1 h16.memR BK24
 have d52 := (dj1 h16.rd.m BK24).symm
 have CK24 := Nat.le_trans hB.size BK24
 replace h32 := Row.rebase h32 (Frs.trans0 fr33 h16.lo hB.size)
 replace h37 := Row.rebase h37 (Frs.trans0 fr38 h16.lo hB.size)
 replace hB := hB.o l h16.lo hB.size
 refine o_move F rfl rfl (fun a F => ?_)
 refine o_extract F rfl rfl rfl (fun a F => ?_)
 refine o_extract F rfl rfl rfl (fun a F => ?_)
 refine o_assign F rfl rfl (fun a F => ?_)
 refine o_assign F rfl rfl (fun a F => ?_)
 refine x_end ?_
 refine x_tn ?_
 refine x_seq ?_
 refine x_blk ?_
 refine x_seq ?_
 refine x_reg ?_
 refine o_move F rfl rfl (fun a F => ?_)
 refine o_eql F rfl rfl rfl (fun a F => ?_)
 refine o_assign F rfl rfl (fun a F => ?_)
 refine x_end ?_
 refine x_tn ?_
 refine x_if F rfl (fun hb56 => ?_) (fun hb56 => ?_)
 ·
  replace hR := ifT hb56 hR
  refine x_seq ?_
  refine x_reg ?_
  refine o_lit0 (R := RLine) Tryz.underlying75 Tryz.sizeOf161 F rfl (fun a w v57 rb58 h59 l F => ?_)
  have d61 := Dj.app' (Dj.new h42.memR h59.ownR (Nat.le_refl _)).symm (Dj.nil' _)
  have d62 := Dj.app' (Dj.new h42.mem h59.ownR (Nat.le_refl _)).symm (Dj.nil' _)
  have d63 := Dj.app' (Dj.new h32.memR h59.ownR (Nat.le_refl _)).symm (Dj.nil' _)
  have d64 := Dj.app' (Dj.new h37.memR h59.ownR (Nat.le_refl _)).symm (Dj.nil' _)
  replace h59 := h59.base hB.size
  replace hB := Below.through l hB
  refine o_move F rfl rfl (fun a F => ?_)
  refine o_assign F rfl rfl (fun a F => ?_)
  refine o_assign F rfl rfl (fun a F => ?_)
  refine x_end ?_
  refine x_tn ?_
  refine x_ret ?_
  refine x_br ?_
  refine x_tr ?_
  refine x_res2 F rfl (rv_t F rfl) (rv_t F rfl) ?_
  obtain rfl := Option.some.inj hR
  exact ⟨_, rfl, hB, v57, rb58, rfl, h59, i41⟩
 ·
  replace hR := ifF hb56 hR
  refine x_seq ?_
  refine x_reg ?_
  refine o_move F rfl rfl (fun a F => ?_)
  refine o_eql F rfl rfl rfl (fun a F => ?_)
  refine o_assign F rfl rfl (fun a F => ?_)
  refine x_end ?_
  refine x_tn ?_
  refine x_if F rfl (fun hb65 => ?_) (fun hb65 => ?_)
  ·
   replace hR := ifT hb65 hR
   refine x_seq ?_
   refine x_reg ?_
   refine o_lit0 (R := RLine) Tryz.underlying75 Tryz.sizeOf161 F rfl (fun a w v66 rb67 h68 l F => ?_)
   have d70 := Dj.app' (Dj.new h42.memR h68.ownR (Nat.le_refl _)).symm (Dj.nil' _)
   have d71 := Dj.app' (Dj.new h42.mem h68.ownR (Nat.le_refl _)).symm (Dj.nil' _)
   have d72 := Dj.app' (Dj.new h32.memR h68.ownR (Nat.le_refl _)).symm (Dj.nil' _)
   have d73 := Dj.app' (Dj.new h37.memR h68.ownR (Nat.le_refl _)).symm (Dj.nil' _)
   replace h68 := h68.base hB.size
   replace hB := Below.through l hB
   refine o_assign F rfl rfl (fun a F => ?_)
   refine o_assign F rfl rfl (fun a F => ?_)
   refine x_end ?_
   refine x_tn ?_
   refine x_ret ?_
   refine x_br ?_
   refine x_tr ?_
   refine x_res2 F rfl (rv_t F rfl) (rv_t F rfl) ?_
   obtain rfl := Option.some.inj hR
   exact ⟨_, rfl, hB, v66, rb67, rfl, h68, (show I64 (6) by decide)⟩
  ·
   replace hR := ifF hb65 hR
   refine x_seq ?_
   refine x_reg ?_
   refine o_move F rfl rfl (fun a F => ?_)
   refine o_nilCheck F rfl rfl (fun a F => ?_)
   refine o_bfield fa122_4 F rfl rfl rfl (fun a F => ?_)
   refine o_bload Tryz.isAgg75 F rfl rfl K24 rfl (fun a F => ?_)
   refine o_len Tryz.underlying75 F rfl rfl h32.rd (fun a F => ?_)
   have i74 := (h32.rd).r.len64
   refine o_gtr F rfl rfl rfl (fun a F => ?_)
   refine o_assign F rfl rfl (fun a F => ?_)
   refine x_end ?_
   refine x_tn ?_
   refine x_if F rfl (fun hb75 => ?_) (fun hb75 => ?_)
   ·
    replace hR := ifT hb75 hR
    refine x_seq ?_
    refine x_reg ?_
    refine o_lit0 (R := RLine) Tryz.underlying75 Tryz.sizeOf161 F rfl (fun a w v76 rb77 h78 l F => ?_)
    have d80 := Dj.app' (Dj.new h42.memR h78.ownR (Nat.le_refl _)).symm (Dj.nil' _)
    have d81 := Dj.app' (Dj.new h42.mem h78.ownR (Nat.le_refl _)).symm (Dj.nil' _)
    have d82 := Dj.app' (Dj.new h32.memR h78.ownR (Nat.le_refl _)).symm (Dj.nil' _)
    have d83 := Dj.app' (Dj.new h37.memR h78.ownR (Nat.le_refl _)).symm (Dj.nil' _)
    replace h78 := h78.base hB.size
    replace hB := Below.through l hB
    refine o_assign F rfl rfl (fun a F => ?_)
    refine o_assign F rfl rfl (fun a F => ?_)
    refine x_end ?_
    refine x_tn ?_
    refine x_ret ?_
    refine x_br ?_
    refine x_tr ?_
    refine x_res2 F rfl (rv_t F rfl) (rv_t F rfl) ?_
    obtain rfl := Option.some.inj hR
    exact ⟨_, rfl, hB, v76, rb77, rfl, h78, (show I64 (3) by decide)⟩
   ·
    replace hR := ifF hb75 hR
    refine x_skip ?_
    refine x_bn ?_
    refine x_tn ?_
    refine x_seq ?_
    refine x_reg ?_
    refine o_move F rfl rfl (fun a F => ?_)
    refine o_nilCheck F rfl rfl (fun a F => ?_)
    refine o_bfield fa122_4 F rfl rfl rfl (fun a F => ?_)
    refine o_bload Tryz.isAgg75 F rfl rfl K24 rfl (fun a F => ?_)
    refine o_assign F rfl rfl (fun a F => ?_)
    refine o_assign F rfl rfl (fun a F => ?_)
    refine x_end ?_
    refine x_tn ?_
    refine x_ret ?_
    refine x_res2 F rfl (rv_t F rfl) (rv_t F rfl) ?_
    obtain rfl := Option.some.inj hR
    exact ⟨_, rfl, hB, v29, rb30, rfl, h32, (show I64 (0) by decide)⟩

def spec_RefuteInstance (N : Nat) (x0 : Template) (x1 : Instance) (x2 : Int) : Option ((List Line) × Int) :=
 bnd (spec_l08Budget (Template.mk x0.size x0.rels) (Instance.mk x1.vars x1.cons) x2) fun z31 =>
 if (z31 != 0) then
  some ([], z31)
 else
  bnd (spec_l08Refute N (Template.mk x0.size x0.rels) (Instance.mk x1.vars x1.cons) x2) fun z38 =>
  some (z38.1, z38.2)
set_option maxHeartbeats 1000000 in
theorem spec_RefuteInstance_c {N : Nat} {x0 : Template} {x1 : Instance} {x2 : Int} (r : (List Line) × Int) (hR : spec_RefuteInstance N x0 x1 x2 = some r) {v0 : Value} {b0 : List Nat} {v1 : Value} {b1 : List Nat} (w0 : World) (A0 : Rd (Agg 2 RTemplate) w0 v0 x0 b0) (A1 : Rd (Agg 2 RInstance) w0 v1 x1 b1) (hx2 : I64 x2) : Calls Tryz.prog 51 #[v0, v1, .int .i64 x2] w0 (Gives (fun v w' => ∃ (v1' : Value) (rb2' : List Nat), v = .tuple #[v1', .int .i64 r.2] ∧ Row 4 RLine 161 w0.heap.size w' v1' r.1 rb2' [] ∧ I64 r.2) w0) := by
 unfold spec_RefuteInstance at hR
 refine x_enter (L := [(0, v0), (1, v1), (2, .int .i64 x2)]) Tryz.func51 rfl rfl rfl (sc rfl (sc rfl (sc rfl sn))) (fun a F => ?_)
 have hB := Below.refl w0.heap.size w0
 refine x_seq ?_
 refine x_reg ?_
 obtain ⟨v15, b16, e18, i14, h17, eb13⟩ := RTemplate.rd (A0.go hB)
 subst e18
 refine o_box F rfl rfl rfl (fun a w b11 K12 l BK12 F => ?_)
 have d19 := (dj1 h17.m BK12).symm
 have CK12 := Nat.le_trans hB.size BK12
 replace hB := Below.through l hB
 replace h17 := h17.go l
 obtain ⟨v24, b25, e27, i23, h26, eb22⟩ := RInstance.rd (A1.go hB)
 subst e27
 refine o_box F rfl rfl rfl (fun a w b20 K21 l BK21 F => ?_)
 have nb28 := Dj.bb K12 BK21
 have d29 := (dj1 h17.m BK21).symm
 have d30 := (dj1 h26.m BK21).symm
 have CK21 := Nat.le_trans hB.size BK21
 replace hB := Below.through l hB
 replace h17 := h17.go l
 replace h26 := h26.go l
 replace K12 := K12.thru l
 refine o_assign F rfl rfl (fun a F => ?_)
 refine o_assign F rfl rfl (fun a F => ?_)
 refine x_end ?_
 refine x_tn ?_
 refine x_seq ?_
 refine x_seq ?_
 refine x_reg ?_
 refine o_move F rfl rfl (fun a F => ?_)
 obtain ⟨z31, c32, hR⟩ := bnd_some hR
 refine o_saysI F rfl Tryz.call82 rfl (spec_l08Budget_c z31 c32 _ (RTemplate.blk K12 i14 h17) (RInstance.blk K21 i23 h26) hx2) (fun a w l iz31 F => ?_)
 replace hB := Below.through l hB
 replace h17 := h17.go l
 replace h26 := h26.go l
 replace K12 := K12.thru l
 replace K21 := K21.thru l
 refine o_assign F rfl rfl (fun a F => ?_)
 refine x_end ?_
 refine x_tn ?_
 refine x_seq ?_
 refine x_reg ?_
 refine o_move F rfl rfl (fun a F => ?_)
 refine o_neq F rfl rfl rfl (fun a F => ?_)
 refine x_end ?_
 refine x_tn ?_
 refine x_if F rfl (fun hb33 => ?_) (fun hb33 => ?_)
 ·
  replace hR := ifT hb33 hR
  refine x_seq ?_
  refine x_reg ?_
  refine o_lit0 (R := RLine) Tryz.underlying75 Tryz.sizeOf161 F rfl (fun a w v34 rb35 h36 l F => ?_)
  replace h36 := h36.base hB.size
  replace hB := Below.through l hB
  refine o_move F rfl rfl (fun a F => ?_)
  refine o_assign F rfl rfl (fun a F => ?_)
  refine o_assign F rfl rfl (fun a F => ?_)
  refine x_end ?_
  refine x_tn ?_
  refine x_ret ?_
  refine x_tr ?_
  refine x_res2 F rfl (rv_t F rfl) (rv_t F rfl) ?_
  obtain rfl := Option.some.inj hR
  exact ⟨_, rfl, hB, v34, rb35, rfl, h36, iz31⟩
 ·
  replace hR := ifF hb33 hR
  refine x_skip ?_
  refine x_tn ?_
  refine x_seq ?_
  refine x_reg ?_
  refine o_move F rfl rfl (fun a F => ?_)
  obtain ⟨z38, c39, hR⟩ := bnd_some hR
  refine o_gives F rfl Tryz.call116 rfl (spec_l08Refute_c z38 c39 _ (RTemplate.blk K12 i14 h17) (RInstance.blk K21 i23 h26) hx2) (fun a vv w l ⟨v40, rb41, hv45, h43, i44⟩ F => ?_)
  subst vv
  replace h43 := h43.base hB.size
  replace hB := Below.through l hB
  refine o_extract F rfl rfl rfl (fun a F => ?_)
  refine o_extract F rfl rfl rfl (fun a F => ?_)
  refine o_assign F rfl rfl (fun a F => ?_)
  refine o_assign F rfl rfl (fun a F => ?_)
  refine x_end ?_
  refine x_tn ?_
  refine x_ret ?_
  refine x_res2 F rfl (rv_t F rfl) (rv_t F rfl) ?_
  obtain rfl := Option.some.inj hR
  exact ⟨_, rfl, hB, v40, rb41, rfl, h43, i44⟩
end Go.Proofs.YtfepllddlmhjiaaGreat
