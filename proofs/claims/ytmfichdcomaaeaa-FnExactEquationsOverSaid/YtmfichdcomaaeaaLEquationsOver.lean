/-
  Laws of the program as plain functions, and that they compute them. Printed by lawfx.py.
-/
import Derived.Test.YtmfichdcomaaeaaX1
import Derived.Test.YtmfichdcomaaeaaY
import Derived.Test.YtmfichdcomaaeaaL1
import Derived.Test.YtmfichdcomaaeaaL2
import Derived.Test.YtmfichdcomaaeaaL3
import Derived.Test.YtmfichdcomaaeaaL5
namespace Go.Proofs.Ytmfichdcomaaeaa
set_option linter.unusedVariables false
set_option linter.unusedSimpArgs false
set_option maxRecDepth 100000
open Go.RowKit
noncomputable section
def laws_FnExactEquationsOver (N : Nat) (x0 : Rel) : Option Bool :=
  bnd (szq 1048576 (x0.sz)) fun z8 =>
  if (decide (z8 < 0)) then
    some true
  else
    bnd (toq (x0.sz)) fun z11 =>
    bnd (spec_EquationsOver N x0) fun z18 =>
    bnd (impl_EquationsOver N x0) fun z46 =>
    thn (σ := Bool) (
      bnd (eqq z46.1 z18.1) fun z68 =>
      if (!z68) then   some (.nx true) else   some (.nx (z46.2 != z18.2))) fun s67 =>
    if s67 then
      some false
    else
      bnd (eqq x0 x0) fun z81 =>
      if (!z81) then
        some false
      else
        bnd (mkq 1 (x0.cnt)) fun z84 =>
        thn (σ := Bool) (
          if (decide (z84 < 0)) then   some (.nx true) else   bnd (eqq z46.1 z18.1) fun z97 =>
            if (!z97) then   some (.nx true) else   some (.nx (z46.2 != z18.2))) fun s95 =>
        if s95 then
          some false
        else
          bnd (mkq 1 (cntS List.length z46.1)) fun z101 =>
          if (decide (z101 < 0)) then
            some false
          else
            if (z101 != z101) then
              some false
            else
              thn (σ := Bool) (
                bnd (eqq z46.1 z18.1) fun z131 =>
                if (!z131) then   some (.nx true) else   some (.nx (z46.2 != z18.2))) fun s130 =>
              if s130 then
                some false
              else
                if (decide (z101 < 0)) then
                  some false
                else
                  if (z101 != z101) then
                    some false
                  else
                    some true
set_option maxHeartbeats 1000000 in
theorem laws_FnExactEquationsOver_c {N : Nat} {x0 : Rel} (r : Bool) (hR : laws_FnExactEquationsOver N x0 = some r) {v0 : Value} {b0 : List Nat} (w0 : World) (A0 : Rd (Agg 2 RRel) w0 v0 x0 b0) : Calls Try.prog 7 #[v0] w0 (Says (.bool r) w0) := by
  unfold laws_FnExactEquationsOver at hR
  refine x_enter (L := [(0, v0)]) Try.func7 rfl rfl rfl (sc rfl sn) (fun a F => ?_)
  have hB := Below.refl w0.heap.size w0
  refine x_seq ?_
  refine x_reg ?_
  obtain ⟨v4, b5, e7, i3, h6, _⟩ := RRel.rd (A0.go hB)
  subst e7
  refine o_box F rfl rfl rfl (fun a w b1 K2 l BK2 F => ?_)
  have CK2 := Nat.le_trans hB.size BK2
  replace hB := Below.through l hB
  refine o_assign F rfl rfl (fun a F => ?_)
  refine x_end ?_
  refine x_tn ?_
  refine x_seq ?_
  refine x_reg ?_
  refine o_assign F rfl rfl (fun a F => ?_)
  refine x_end ?_
  refine x_tn ?_
  refine x_seq ?_
  refine x_reg ?_
  refine o_bloadA (cs := [.int .i64 x0.arity, v4]) Try.isAgg54 Try.sizeOf54 F rfl rfl K2 rfl (fun j hj => by match j, hj with | 0, _ => rfl | 1, _ => rfl) (fun a F => ?_)
  refine o_move F rfl rfl (fun a F => ?_)
  obtain ⟨z8, c9, hR⟩ := bnd_some hR
  refine o_saysI F rfl Try.call28 rfl (szq_says c9 (fun h0 h1 => szRel_any _ _ _ _ _ (A0.go hB).r (A0.go hB).m h0 h1)) (fun a w l iz8 F => ?_)
  replace hB := Below.through l hB
  replace K2 := K2.thru l
  refine o_assign F rfl rfl (fun a F => ?_)
  refine x_end ?_
  refine x_tn ?_
  refine x_seq ?_
  refine x_seq ?_
  refine x_reg ?_
  refine o_move F rfl rfl (fun a F => ?_)
  refine o_lss F rfl rfl rfl (fun a F => ?_)
  refine x_end ?_
  refine x_tn ?_
  refine x_if F rfl (fun hb10 => ?_) (fun hb10 => ?_)
  · replace hR := ifT hb10 hR
    refine x_seq ?_
    refine x_reg ?_
    refine o_assign F rfl rfl (fun a F => ?_)
    refine x_end ?_
    refine x_tn ?_
    refine x_ret ?_
    refine x_tr ?_
    refine x_res1 F rfl (rv_t F rfl) ?_
    obtain rfl := Option.some.inj hR
    exact ⟨rfl, hB⟩
  · replace hR := ifF hb10 hR
    refine x_skip ?_
    refine x_tn ?_
    refine x_seq ?_
    refine x_reg ?_
    refine o_bloadA (cs := [.int .i64 x0.arity, v4]) Try.isAgg54 Try.sizeOf54 F rfl rfl K2 rfl (fun j hj => by match j, hj with | 0, _ => rfl | 1, _ => rfl) (fun a F => ?_)
    obtain ⟨z11, c12, hR⟩ := bnd_some hR
    refine o_toA F rfl Try.call30 rfl (toRel_any _ _ _ _ (A0.go hB).r (A0.go hB).m (toq_some c12)) (fun a v13 b14 w l h15 o16 F => ?_)
    have d17 := Dj.new (inm1 K2) o16 (Nat.le_refl _)
    replace o16 := o16.mono hB.size
    replace hB := Below.through l hB
    replace K2 := K2.thru l
    obtain ⟨z18, c19, hR⟩ := bnd_some hR
    refine o_gives F rfl Try.call29 rfl (spec_EquationsOver_c z18 c19 _ h15) (fun a vv w l ⟨v20, rb21, ib22, hv26, h23, ow24, i25⟩ F => ?_)
    subst vv
    have o28 := h23.own ow24
    have h27 := h23.rd
    have d29 := Dj.new (inm1 K2) o28 (Nat.le_refl _)
    replace o28 := o28.mono hB.size
    replace hB := Below.through l hB
    replace K2 := K2.thru l
    refine o_move F rfl rfl (fun a F => ?_)
    refine o_extract F rfl rfl rfl (fun a F => ?_)
    refine o_extract F rfl rfl rfl (fun a F => ?_)
    refine o_assign F rfl rfl (fun a F => ?_)
    refine o_assign F rfl rfl (fun a F => ?_)
    refine x_end ?_
    refine x_tn ?_
    refine x_seq ?_
    refine x_reg ?_
    refine o_bloadA (cs := [.int .i64 x0.arity, v4]) Try.isAgg54 Try.sizeOf54 F rfl rfl K2 rfl (fun j hj => by match j, hj with | 0, _ => rfl | 1, _ => rfl) (fun a F => ?_)
    refine o_toA F rfl Try.call30 rfl (toRel_any _ _ _ _ (A0.go hB).r (A0.go hB).m (toq_some c12)) (fun a v30 b31 w l h32 o33 F => ?_)
    have d34 := Dj.new h27.m o33 (Nat.le_refl _)
    have d35 := Dj.new (inm1 K2) o33 (Nat.le_refl _)
    replace o33 := o33.mono hB.size
    replace hB := Below.through l hB
    replace h27 := h27.go l
    replace o28 := o28.go l
    replace K2 := K2.thru l
    refine o_alloc Try.zeroValue58 F rfl rfl (fun a w b36 K37 l BK37 F => ?_)
    have nb38 := Dj.bb K2 BK37
    have d39 := (dj1 h27.m BK37).symm
    have d40 := (dj1 h32.m BK37).symm
    have CK37 := Nat.le_trans hB.size BK37
    replace hB := Below.through l hB
    replace h27 := h27.go l
    replace o28 := o28.go l
    replace h32 := h32.go l
    replace o33 := o33.go l
    replace K2 := K2.thru l
    obtain ⟨v42, b43, e45, i41, h44, _⟩ := RRel.rd h32
    subst e45
    refine o_bstoreA (vs := [.int .i64 x0.arity, v42]) Try.sizeOf58 F rfl rfl rfl K37 (oc rfl (oc h44.r.one on)) (Nat.le_of_ble_eq_true rfl) rfl (fun w K37 l => ?_)
    replace hB := hB.o l (fun c hc => by rw [List.mem_singleton] at hc; rw [hc]; exact CK37) hB.size
    replace h27 := h27.goO l d39
    replace o28 := o28.goO l d39
    replace h32 := h32.goO l d40
    replace o33 := o33.goO l d40
    replace K2 := K2.only l (by simpa using nb38)
    refine x_end ?_
    refine x_tn ?_
    refine x_seq ?_
    refine x_reg ?_
    refine o_bloadA (cs := [.int .i64 x0.arity, v42]) Try.isAgg58 Try.sizeOf58 F rfl rfl K37 rfl (fun j hj => by match j, hj with | 0, _ => rfl | 1, _ => rfl) (fun a F => ?_)
    obtain ⟨z46, c47, hR⟩ := bnd_some hR
    refine o_gives F rfl Try.call31 rfl (impl_EquationsOver_c z46 c47 _ h32) (fun a vv w l ⟨v48, rb49, ib50, hv54, h51, ow52, i53⟩ F => ?_)
    subst vv
    have o56 := h51.own ow52
    have h55 := h51.rd
    have d57 := Dj.new h27.m o56 (Nat.le_refl _)
    have d58 := Dj.new h32.m o56 (Nat.le_refl _)
    have d59 := Dj.new (inm1 K2) o56 (Nat.le_refl _)
    have d60 := Dj.new (inm1 K37) o56 (Nat.le_refl _)
    replace o56 := o56.mono hB.size
    replace hB := Below.through l hB
    replace h27 := h27.go l
    replace o28 := o28.go l
    replace h32 := h32.go l
    replace o33 := o33.go l
    replace K2 := K2.thru l
    replace K37 := K37.thru l
    refine o_move F rfl rfl (fun a F => ?_)
    refine o_extract F rfl rfl rfl (fun a F => ?_)
    refine o_extract F rfl rfl rfl (fun a F => ?_)
    refine o_assign F rfl rfl (fun a F => ?_)
    refine o_assign F rfl rfl (fun a F => ?_)
    refine x_end ?_
    refine x_tn ?_
    refine x_seq ?_
    refine x_seq ?_
    obtain ⟨o64, hR, hk65⟩ := thn_some hR
    refine x_cutQ (fun a w => ∃ (s67 : Bool), o64 = .nx s67 ∧ Sk a 96 [(1, .pointer (some ⟨b1, 0, none⟩)), (4, v20), (5, .int .i64 z18.2), (6, .pointer (some ⟨b36, 0, none⟩)), (7, v48), (8, .int .i64 z46.2), (40, .bool s67)] ∧ Below w0.heap.size w0 w ∧ Rd (Sl 1 (RSl 1 RInt)) w v20 z18.1 (rb21 ++ ib22) ∧ Own w0.heap.size (rb21 ++ ib22) w ∧ Rd (Agg 2 RRel) w (.agg #[.int .i64 x0.arity, v42]) x0 b31 ∧ Own w0.heap.size b31 w ∧ Rd (Sl 1 (RSl 1 RInt)) w v48 z46.1 (rb49 ++ ib50) ∧ Own w0.heap.size (rb49 ++ ib50) w ∧ Blk w b1 #[.int .i64 x0.arity, v4] 54 ∧ Blk w b36 #[.int .i64 x0.arity, v42] 58) ?_ ?_
    · refine x_reg ?_
      refine o_move F rfl rfl (fun a F => ?_)
      refine o_move F rfl rfl (fun a F => ?_)
      obtain ⟨z68, c69, hR⟩ := bnd_some hR
      refine o_says F rfl Try.call32 rfl (eqq_says (fun y => Rd (Sl 1 RInts) _ _ y _) c69 h27 (fun hy => eqInt64SS_any _ _ _ _ _ _ h55.r hy.r h55.m hy.m)) (fun a w l F => ?_)
      replace hB := Below.through l hB
      replace h27 := h27.go l
      replace o28 := o28.go l
      replace h32 := h32.go l
      replace o33 := o33.go l
      replace h55 := h55.go l
      replace o56 := o56.go l
      replace K2 := K2.thru l
      replace K37 := K37.thru l
      refine o_not F rfl rfl (fun a F => ?_)
      refine o_move F rfl rfl (fun a F => ?_)
      rcases bcases (!z68) with hb70 | hb70
      · replace hR := ifT hb70 hR
        have F := F.eq (t := 36) rfl (congrArg Value.bool hb70)
        refine o_no F rfl rfl (fun a F => ?_)
        refine o_no F rfl rfl (fun a F => ?_)
        refine o_no F rfl rfl (fun a F => ?_)
        refine o_pickt F rfl rfl rfl (fun a F => ?_)
        refine x_end ?_
        refine x_tn ?_
        exact ⟨true, (Option.some.inj hR).symm, F.sub (sc rfl (sc rfl (sc rfl (sc rfl (sc rfl (sc rfl (sc rfl sn))))))), hB, h27, o28, h32, o33, h55, o56, K2, K37⟩
      · replace hR := ifF hb70 hR
        have F := F.eq (t := 36) rfl (congrArg Value.bool hb70)
        refine o_move F rfl rfl (fun a F => ?_)
        refine o_move F rfl rfl (fun a F => ?_)
        refine o_neq F rfl rfl rfl (fun a F => ?_)
        refine o_pickf F rfl rfl rfl (fun a F => ?_)
        refine x_end ?_
        refine x_tn ?_
        exact ⟨(z46.2 != z18.2), (Option.some.inj hR).symm, F.sub (sc rfl (sc rfl (sc rfl (sc rfl (sc rfl (sc rfl (sc rfl sn))))))), hB, h27, o28, h32, o33, h55, o56, K2, K37⟩
    · intro a w ⟨s67, ho66, F, hB, h27, o28, h32, o33, h55, o56, K2, K37⟩
      subst ho66
      have hR := then_nx hk65
      refine x_tn ?_
      refine x_if F rfl (fun hb71 => ?_) (fun hb71 => ?_)
      · replace hR := ifT hb71 hR
        refine x_seq ?_
        refine x_reg ?_
        refine o_assign F rfl rfl (fun a F => ?_)
        refine x_end ?_
        refine x_tn ?_
        refine x_ret ?_
        refine x_tr ?_
        refine x_res1 F rfl (rv_t F rfl) ?_
        obtain rfl := Option.some.inj hR
        exact ⟨rfl, hB⟩
      · replace hR := ifF hb71 hR
        refine x_skip ?_
        refine x_tn ?_
        refine x_seq ?_
        refine x_seq ?_
        refine x_drawn (by kernel_rfl) (fun w l => ?_)
        replace hB := Below.through l hB
        replace h27 := h27.go l
        replace o28 := o28.go l
        replace h32 := h32.go l
        replace o33 := o33.go l
        replace h55 := h55.go l
        replace o56 := o56.go l
        replace K2 := K2.thru l
        replace K37 := K37.thru l
        refine b_q 0 rfl (by kernel_rfl) (by kernel_rfl) (by kernel_rfl) ?_
        refine v_val F rfl (fun w l => r_bloadA (cs := [.int .i64 x0.arity, v42]) Try.isAgg58 Try.sizeOf58 F rfl (K37.thru l) rfl (fun j hj => by match j, hj with | 0, _ => rfl | 1, _ => rfl)) (fun a F => ?_)
        refine b_q 1 rfl (by kernel_rfl) (by kernel_rfl) (by kernel_rfl) ?_
        refine v_val F rfl (fun w l => r_bloadA (cs := [.int .i64 x0.arity, v4]) Try.isAgg54 Try.sizeOf54 F rfl (K2.thru l) rfl (fun j hj => by match j, hj with | 0, _ => rfl | 1, _ => rfl)) (fun a F => ?_)
        refine b_e 2 rfl (by kernel_rfl) ?_
        refine o_toA F rfl Try.call30 rfl (toRel_any _ _ _ _ (A0.go hB).r (A0.go hB).m (toq_some c12)) (fun a v72 b73 w l h74 o75 F => ?_)
        have d76 := Dj.new h27.m o75 (Nat.le_refl _)
        have d77 := Dj.new h32.m o75 (Nat.le_refl _)
        have d78 := Dj.new h55.m o75 (Nat.le_refl _)
        have d79 := Dj.new (inm1 K2) o75 (Nat.le_refl _)
        have d80 := Dj.new (inm1 K37) o75 (Nat.le_refl _)
        replace o75 := o75.mono hB.size
        replace hB := Below.through l hB
        replace h27 := h27.go l
        replace o28 := o28.go l
        replace h32 := h32.go l
        replace o33 := o33.go l
        replace h55 := h55.go l
        replace o56 := o56.go l
        replace K2 := K2.thru l
        replace K37 := K37.thru l
        refine x_end ?_
        refine x_tn ?_
        refine ⟨.inl l, ?_⟩
        refine b_e 3 rfl (by kernel_rfl) ?_
        obtain ⟨z81, c82, hR⟩ := bnd_some hR
        refine o_says F rfl Try.call33 rfl (eqq_says (fun y => Rd (Agg 2 RRel) _ _ y _) c82 h74 (fun hy => eqRel_any _ _ _ _ _ _ h32.r hy.r h32.m hy.m)) (fun a w l F => ?_)
        replace hB := Below.through l hB
        replace h27 := h27.go l
        replace o28 := o28.go l
        replace h32 := h32.go l
        replace o33 := o33.go l
        replace h55 := h55.go l
        replace o56 := o56.go l
        replace K2 := K2.thru l
        replace K37 := K37.thru l
        refine x_end ?_
        refine x_tn ?_
        refine ⟨.inl l, ?_⟩
        refine b_q 4 rfl (by kernel_rfl) (by kernel_rfl) (by kernel_rfl) ?_
        refine v_val F rfl (fun w l => r_not F rfl) (fun a F => ?_)
        refine b_end (by kernel_rfl) ?_
        refine x_tn ?_
        refine x_if F rfl (fun hb83 => ?_) (fun hb83 => ?_)
        · replace hR := ifT hb83 hR
          refine x_seq ?_
          refine x_reg ?_
          refine o_assign F rfl rfl (fun a F => ?_)
          refine x_end ?_
          refine x_tn ?_
          refine x_ret ?_
          refine x_tr ?_
          refine x_res1 F rfl (rv_t F rfl) ?_
          obtain rfl := Option.some.inj hR
          exact ⟨rfl, hB⟩
        · replace hR := ifF hb83 hR
          refine x_skip ?_
          refine x_tn ?_
          refine x_seq ?_
          refine x_reg ?_
          refine o_assign F rfl rfl (fun a F => ?_)
          refine x_end ?_
          refine x_tn ?_
          refine x_seq ?_
          refine x_reg ?_
          refine o_bloadA (cs := [.int .i64 x0.arity, v42]) Try.isAgg58 Try.sizeOf58 F rfl rfl K37 rfl (fun j hj => by match j, hj with | 0, _ => rfl | 1, _ => rfl) (fun a F => ?_)
          refine o_move F rfl rfl (fun a F => ?_)
          obtain ⟨z84, c85, hR⟩ := bnd_some hR
          refine o_markA F rfl Try.call34 rfl (mkq_markA c85 (fun h0 h1 => markRel_any _ _ _ _ _ _ h32.r o33 h0 h1)) (fun a w l h86 o87 F => ?_)
          replace h27 := h27.goO l d34
          replace o28 := o28.goO l d34
          replace h55 := h55.goO l (Dj.symm d58)
          replace o56 := o56.goO l (Dj.symm d58)
          replace K2 := K2.only l (Dj.in1 d35)
          replace hB := hB.o l (Own.lo o33) hB.size
          have iz84 := mkq_i c85
          refine o_assign F rfl rfl (fun a F => ?_)
          refine x_end ?_
          refine x_tn ?_
          refine x_seq ?_
          refine x_seq ?_
          obtain ⟨o92, hR, hk93⟩ := thn_some hR
          refine x_cutQ (fun a w => ∃ (s95 : Bool), o92 = .nx s95 ∧ Sk a 96 [(1, .pointer (some ⟨b1, 0, none⟩)), (4, v20), (5, .int .i64 z18.2), (7, v48), (61, .bool s95)] ∧ Below w0.heap.size w0 w ∧ Rd (Sl 1 (RSl 1 RInt)) w v20 z18.1 (rb21 ++ ib22) ∧ Own w0.heap.size (rb21 ++ ib22) w ∧ Rd (Sl 1 (RSl 1 RInt)) w v48 z46.1 (rb49 ++ ib50) ∧ Own w0.heap.size (rb49 ++ ib50) w ∧ Blk w b1 #[.int .i64 x0.arity, v4] 54) ?_ ?_
          · refine x_reg ?_
            refine o_move F rfl rfl (fun a F => ?_)
            refine o_lss F rfl rfl rfl (fun a F => ?_)
            refine o_move F rfl rfl (fun a F => ?_)
            rcases bcases (decide (z84 < 0)) with hb96 | hb96
            · replace hR := ifT hb96 hR
              have F := F.eq (t := 51) rfl (congrArg Value.bool hb96)
              refine o_no F rfl rfl (fun a F => ?_)
              refine o_no F rfl rfl (fun a F => ?_)
              refine o_no F rfl rfl (fun a F => ?_)
              refine o_no F rfl rfl (fun a F => ?_)
              refine o_pickt F rfl rfl rfl (fun a F => ?_)
              refine o_move F rfl rfl (fun a F => ?_)
              refine o_no F rfl rfl (fun a F => ?_)
              refine o_no F rfl rfl (fun a F => ?_)
              refine o_no F rfl rfl (fun a F => ?_)
              refine o_pickt F rfl rfl rfl (fun a F => ?_)
              refine x_end ?_
              refine x_tn ?_
              exact ⟨true, (Option.some.inj hR).symm, F.sub (sc rfl (sc rfl (sc rfl (sc rfl (sc rfl sn))))), hB, h27, o28, h55, o56, K2⟩
            · replace hR := ifF hb96 hR
              have F := F.eq (t := 51) rfl (congrArg Value.bool hb96)
              refine o_move F rfl rfl (fun a F => ?_)
              refine o_move F rfl rfl (fun a F => ?_)
              obtain ⟨z97, c98, hR⟩ := bnd_some hR
              refine o_says F rfl Try.call32 rfl (eqq_says (fun y => Rd (Sl 1 RInts) _ _ y _) c98 h27 (fun hy => eqInt64SS_any _ _ _ _ _ _ h55.r hy.r h55.m hy.m)) (fun a w l F => ?_)
              replace hB := Below.through l hB
              replace h27 := h27.go l
              replace o28 := o28.go l
              replace h55 := h55.go l
              replace o56 := o56.go l
              replace K2 := K2.thru l
              refine o_not F rfl rfl (fun a F => ?_)
              refine o_pickf F rfl rfl rfl (fun a F => ?_)
              refine o_move F rfl rfl (fun a F => ?_)
              rcases bcases (!z97) with hb99 | hb99
              · replace hR := ifT hb99 hR
                have F := F.eq (t := 57) rfl (congrArg Value.bool hb99)
                refine o_no F rfl rfl (fun a F => ?_)
                refine o_no F rfl rfl (fun a F => ?_)
                refine o_no F rfl rfl (fun a F => ?_)
                refine o_pickt F rfl rfl rfl (fun a F => ?_)
                refine x_end ?_
                refine x_tn ?_
                exact ⟨true, (Option.some.inj hR).symm, F.sub (sc rfl (sc rfl (sc rfl (sc rfl (sc rfl sn))))), hB, h27, o28, h55, o56, K2⟩
              · replace hR := ifF hb99 hR
                have F := F.eq (t := 57) rfl (congrArg Value.bool hb99)
                refine o_move F rfl rfl (fun a F => ?_)
                refine o_move F rfl rfl (fun a F => ?_)
                refine o_neq F rfl rfl rfl (fun a F => ?_)
                refine o_pickf F rfl rfl rfl (fun a F => ?_)
                refine x_end ?_
                refine x_tn ?_
                exact ⟨(z46.2 != z18.2), (Option.some.inj hR).symm, F.sub (sc rfl (sc rfl (sc rfl (sc rfl (sc rfl sn))))), hB, h27, o28, h55, o56, K2⟩
          · intro a w ⟨s95, ho94, F, hB, h27, o28, h55, o56, K2⟩
            subst ho94
            have hR := then_nx hk93
            refine x_tn ?_
            refine x_if F rfl (fun hb100 => ?_) (fun hb100 => ?_)
            · replace hR := ifT hb100 hR
              refine x_seq ?_
              refine x_reg ?_
              refine o_assign F rfl rfl (fun a F => ?_)
              refine x_end ?_
              refine x_tn ?_
              refine x_ret ?_
              refine x_tr ?_
              refine x_res1 F rfl (rv_t F rfl) ?_
              obtain rfl := Option.some.inj hR
              exact ⟨rfl, hB⟩
            · replace hR := ifF hb100 hR
              refine x_skip ?_
              refine x_tn ?_
              refine x_seq ?_
              refine x_reg ?_
              refine o_assign F rfl rfl (fun a F => ?_)
              refine x_end ?_
              refine x_tn ?_
              refine x_seq ?_
              refine x_reg ?_
              refine o_move F rfl rfl (fun a F => ?_)
              refine o_move F rfl rfl (fun a F => ?_)
              obtain ⟨z101, c102, hR⟩ := bnd_some hR
              refine o_markS F rfl Try.call35 rfl (mkq_markS c102 (fun h0 h1 => markInt64SS_any _ _ _ _ _ _ h55.r o56 h0 h1)) (fun a w l h103 o104 F => ?_)
              replace h27 := h27.goO l d57
              replace o28 := o28.goO l d57
              replace K2 := K2.only l (Dj.in1 d59)
              replace hB := hB.o l (Own.lo o56) hB.size
              have iz101 := mkq_i c102
              refine o_assign F rfl rfl (fun a F => ?_)
              refine x_end ?_
              refine x_tn ?_
              refine x_seq ?_
              refine x_reg ?_
              refine o_assign F rfl rfl (fun a F => ?_)
              refine x_end ?_
              refine x_tn ?_
              refine x_seq ?_
              refine x_reg ?_
              refine o_move F rfl rfl (fun a F => ?_)
              refine o_move F rfl rfl (fun a F => ?_)
              refine o_saysI F rfl Try.call36 rfl (mkq_says c102 (fun h0 h1 => heldInt64SS_any _ _ _ _ _ h103.r h103.m h0 h1)) (fun a w l iz101 F => ?_)
              replace hB := Below.through l hB
              replace h27 := h27.go l
              replace o28 := o28.go l
              replace h103 := h103.go l
              replace o104 := o104.go l
              replace K2 := K2.thru l
              refine o_assign F rfl rfl (fun a F => ?_)
              refine x_end ?_
              refine x_tn ?_
              refine x_seq ?_
              refine x_seq ?_
              refine x_reg ?_
              refine o_move F rfl rfl (fun a F => ?_)
              refine o_lss F rfl rfl rfl (fun a F => ?_)
              refine x_end ?_
              refine x_tn ?_
              refine x_if F rfl (fun hb105 => ?_) (fun hb105 => ?_)
              · replace hR := ifT hb105 hR
                refine x_seq ?_
                refine x_reg ?_
                refine o_assign F rfl rfl (fun a F => ?_)
                refine x_end ?_
                refine x_tn ?_
                refine x_ret ?_
                refine x_tr ?_
                refine x_res1 F rfl (rv_t F rfl) ?_
                obtain rfl := Option.some.inj hR
                exact ⟨rfl, hB⟩
              · replace hR := ifF hb105 hR
                refine x_skip ?_
                refine x_tn ?_
                refine x_seq ?_
                refine x_seq ?_
                refine x_reg ?_
                refine o_move F rfl rfl (fun a F => ?_)
                refine o_move F rfl rfl (fun a F => ?_)
                refine o_neq F rfl rfl rfl (fun a F => ?_)
                refine x_end ?_
                refine x_tn ?_
                refine x_if F rfl (fun hb106 => ?_) (fun hb106 => ?_)
                · replace hR := ifT hb106 hR
                  refine x_seq ?_
                  refine x_reg ?_
                  refine o_assign F rfl rfl (fun a F => ?_)
                  refine x_end ?_
                  refine x_tn ?_
                  refine x_ret ?_
                  refine x_tr ?_
                  refine x_res1 F rfl (rv_t F rfl) ?_
                  obtain rfl := Option.some.inj hR
                  exact ⟨rfl, hB⟩
                · replace hR := ifF hb106 hR
                  refine x_skip ?_
                  refine x_tn ?_
                  refine x_seq ?_
                  refine x_reg ?_
                  refine o_bloadA (cs := [.int .i64 x0.arity, v4]) Try.isAgg54 Try.sizeOf54 F rfl rfl K2 rfl (fun j hj => by match j, hj with | 0, _ => rfl | 1, _ => rfl) (fun a F => ?_)
                  refine o_toA F rfl Try.call30 rfl (toRel_any _ _ _ _ (A0.go hB).r (A0.go hB).m (toq_some c12)) (fun a v107 b108 w l h109 o110 F => ?_)
                  have d111 := Dj.new h27.m o110 (Nat.le_refl _)
                  have d112 := Dj.new h103.m o110 (Nat.le_refl _)
                  replace o110 := o110.mono hB.size
                  replace hB := Below.through l hB
                  replace h27 := h27.go l
                  replace o28 := o28.go l
                  replace h103 := h103.go l
                  replace o104 := o104.go l
                  refine o_gives F rfl Try.call31 rfl (impl_EquationsOver_c z46 c47 _ h109) (fun a vv w l ⟨v113, rb114, ib115, hv119, h116, ow117, i118⟩ F => ?_)
                  subst vv
                  have o121 := h116.own ow117
                  have h120 := h116.rd
                  have d122 := Dj.new h27.m o121 (Nat.le_refl _)
                  have d123 := Dj.new h103.m o121 (Nat.le_refl _)
                  replace o121 := o121.mono hB.size
                  replace hB := Below.through l hB
                  replace h27 := h27.go l
                  replace o28 := o28.go l
                  replace h103 := h103.go l
                  replace o104 := o104.go l
                  refine o_move F rfl rfl (fun a F => ?_)
                  refine o_extract F rfl rfl rfl (fun a F => ?_)
                  refine o_extract F rfl rfl rfl (fun a F => ?_)
                  refine o_assign F rfl rfl (fun a F => ?_)
                  refine o_assign F rfl rfl (fun a F => ?_)
                  refine x_end ?_
                  refine x_tn ?_
                  refine x_seq ?_
                  refine x_seq ?_
                  obtain ⟨o127, hR, hk128⟩ := thn_some hR
                  refine x_cutQ (fun a w => ∃ (s130 : Bool), o127 = .nx s130 ∧ Sk a 96 [(7, v48), (10, .int .i64 z101), (87, .bool s130)] ∧ Below w0.heap.size w0 w ∧ Rd (Sl 1 RInts) w v48 (mkS mkInts List.length z46.1 1) (rb49 ++ ib50) ∧ Own w0.heap.size (rb49 ++ ib50) w) ?_ ?_
                  · refine x_reg ?_
                    refine o_move F rfl rfl (fun a F => ?_)
                    refine o_move F rfl rfl (fun a F => ?_)
                    obtain ⟨z131, c132, hR⟩ := bnd_some hR
                    refine o_says F rfl Try.call32 rfl (eqq_says (fun y => Rd (Sl 1 RInts) _ _ y _) c132 h27 (fun hy => eqInt64SS_any _ _ _ _ _ _ h120.r hy.r h120.m hy.m)) (fun a w l F => ?_)
                    replace hB := Below.through l hB
                    replace h103 := h103.go l
                    replace o104 := o104.go l
                    refine o_not F rfl rfl (fun a F => ?_)
                    refine o_move F rfl rfl (fun a F => ?_)
                    rcases bcases (!z131) with hb133 | hb133
                    · replace hR := ifT hb133 hR
                      have F := F.eq (t := 83) rfl (congrArg Value.bool hb133)
                      refine o_no F rfl rfl (fun a F => ?_)
                      refine o_no F rfl rfl (fun a F => ?_)
                      refine o_no F rfl rfl (fun a F => ?_)
                      refine o_pickt F rfl rfl rfl (fun a F => ?_)
                      refine x_end ?_
                      refine x_tn ?_
                      exact ⟨true, (Option.some.inj hR).symm, F.sub (sc rfl (sc rfl (sc rfl sn))), hB, h103, o104⟩
                    · replace hR := ifF hb133 hR
                      have F := F.eq (t := 83) rfl (congrArg Value.bool hb133)
                      refine o_move F rfl rfl (fun a F => ?_)
                      refine o_move F rfl rfl (fun a F => ?_)
                      refine o_neq F rfl rfl rfl (fun a F => ?_)
                      refine o_pickf F rfl rfl rfl (fun a F => ?_)
                      refine x_end ?_
                      refine x_tn ?_
                      exact ⟨(z46.2 != z18.2), (Option.some.inj hR).symm, F.sub (sc rfl (sc rfl (sc rfl sn))), hB, h103, o104⟩
                  · intro a w ⟨s130, ho129, F, hB, h103, o104⟩
                    subst ho129
                    have hR := then_nx hk128
                    refine x_tn ?_
                    refine x_if F rfl (fun hb134 => ?_) (fun hb134 => ?_)
                    · replace hR := ifT hb134 hR
                      refine x_seq ?_
                      refine x_reg ?_
                      refine o_assign F rfl rfl (fun a F => ?_)
                      refine x_end ?_
                      refine x_tn ?_
                      refine x_ret ?_
                      refine x_tr ?_
                      refine x_res1 F rfl (rv_t F rfl) ?_
                      obtain rfl := Option.some.inj hR
                      exact ⟨rfl, hB⟩
                    · replace hR := ifF hb134 hR
                      refine x_skip ?_
                      refine x_tn ?_
                      refine x_seq ?_
                      refine x_reg ?_
                      refine o_assign F rfl rfl (fun a F => ?_)
                      refine x_end ?_
                      refine x_tn ?_
                      refine x_seq ?_
                      refine x_reg ?_
                      refine o_move F rfl rfl (fun a F => ?_)
                      refine o_move F rfl rfl (fun a F => ?_)
                      refine o_saysI F rfl Try.call36 rfl (mkq_says c102 (fun h0 h1 => heldInt64SS_any _ _ _ _ _ h103.r h103.m h0 h1)) (fun a w l iz101 F => ?_)
                      replace hB := Below.through l hB
                      refine o_assign F rfl rfl (fun a F => ?_)
                      refine x_end ?_
                      refine x_tn ?_
                      refine x_seq ?_
                      refine x_seq ?_
                      refine x_reg ?_
                      refine o_move F rfl rfl (fun a F => ?_)
                      refine o_lss F rfl rfl rfl (fun a F => ?_)
                      refine x_end ?_
                      refine x_tn ?_
                      refine x_if F rfl (fun hb135 => ?_) (fun hb135 => ?_)
                      · replace hR := ifT hb135 hR
                        refine x_seq ?_
                        refine x_reg ?_
                        refine o_assign F rfl rfl (fun a F => ?_)
                        refine x_end ?_
                        refine x_tn ?_
                        refine x_ret ?_
                        refine x_tr ?_
                        refine x_res1 F rfl (rv_t F rfl) ?_
                        obtain rfl := Option.some.inj hR
                        exact ⟨rfl, hB⟩
                      · replace hR := ifF hb135 hR
                        refine x_skip ?_
                        refine x_tn ?_
                        refine x_seq ?_
                        refine x_seq ?_
                        refine x_reg ?_
                        refine o_move F rfl rfl (fun a F => ?_)
                        refine o_move F rfl rfl (fun a F => ?_)
                        refine o_neq F rfl rfl rfl (fun a F => ?_)
                        refine x_end ?_
                        refine x_tn ?_
                        refine x_if F rfl (fun hb136 => ?_) (fun hb136 => ?_)
                        · replace hR := ifT hb136 hR
                          refine x_seq ?_
                          refine x_reg ?_
                          refine o_assign F rfl rfl (fun a F => ?_)
                          refine x_end ?_
                          refine x_tn ?_
                          refine x_ret ?_
                          refine x_tr ?_
                          refine x_res1 F rfl (rv_t F rfl) ?_
                          obtain rfl := Option.some.inj hR
                          exact ⟨rfl, hB⟩
                        · replace hR := ifF hb136 hR
                          refine x_skip ?_
                          refine x_tn ?_
                          refine x_seq ?_
                          refine x_reg ?_
                          refine o_assign F rfl rfl (fun a F => ?_)
                          refine x_end ?_
                          refine x_tn ?_
                          refine x_ret ?_
                          refine x_res1 F rfl (rv_t F rfl) ?_
                          obtain rfl := Option.some.inj hR
                          exact ⟨rfl, hB⟩
end
end Go.Proofs.Ytmfichdcomaaeaa
