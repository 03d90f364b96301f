/-
  Laws of the program as plain functions, and that they compute them. Printed by lawfx.py.
-/
import Derived.Test.YtmfichdcomaaeaaX2
import Derived.Test.YtmfichdcomaaeaaY
import Derived.Test.YtmfichdcomaaeaaL1
import Derived.Test.YtmfichdcomaaeaaL2
import Derived.Test.YtmfichdcomaaeaaL3
import Derived.Test.YtmfichdcomaaeaaL5
namespace Go.Proofs.Ytmfichdcomaaeaa
set_option linter.unusedVariables false
set_option linter.unusedSimpArgs false
set_option maxRecDepth 100000
open Go.RowKit
noncomputable section
def laws_FnExactOwnGadgets (x0 : Template) : Option Bool :=
  bnd (szq 1048576 (x0.sz)) fun z8 =>
  if (decide (z8 < 0)) then
    some true
  else
    bnd (toq (x0.sz)) fun z11 =>
    bnd (spec_OwnGadgets x0) fun z18 =>
    bnd (impl_OwnGadgets x0) fun z58 =>
    thn (σ := Bool) (
      bnd (eqq z58.1 z18.1) fun z95 =>
      if (!z95) then   some (.nx true) else   some (.nx (z58.2 != z18.2))) fun s94 =>
    if s94 then
      some false
    else
      bnd (eqq x0 x0) fun z110 =>
      if (!z110) then
        some false
      else
        bnd (mkq 1 (x0.cnt)) fun z113 =>
        thn (σ := Bool) (
          if (decide (z113 < 0)) then   some (.nx true) else   bnd (eqq z58.1 z18.1) fun z126 =>
            if (!z126) then   some (.nx true) else   some (.nx (z58.2 != z18.2))) fun s124 =>
        if s124 then
          some false
        else
          bnd (mkq 1 (z58.1.cnt)) fun z130 =>
          if (decide (z130 < 0)) then
            some false
          else
            if (z130 != z130) then
              some false
            else
              thn (σ := Bool) (
                bnd (eqq z58.1 z18.1) fun z177 =>
                if (!z177) then   some (.nx true) else   some (.nx (z58.2 != z18.2))) fun s176 =>
              if s176 then
                some false
              else
                if (decide (z130 < 0)) then
                  some false
                else
                  if (z130 != z130) then
                    some false
                  else
                    some true
set_option maxHeartbeats 1000000 in
theorem laws_FnExactOwnGadgets_c {x0 : Template} (r : Bool) (hR : laws_FnExactOwnGadgets x0 = some r) {v0 : Value} {b0 : List Nat} (w0 : World) (A0 : Rd (Agg 2 RTemplate) w0 v0 x0 b0) : Calls Try.prog 9 #[v0] w0 (Says (.bool r) w0) := by
  unfold laws_FnExactOwnGadgets at hR
  refine x_enter (L := [(0, v0)]) Try.func9 rfl rfl rfl (sc rfl sn) (fun a F => ?_)
  have hB := Below.refl w0.heap.size w0
  refine x_seq ?_
  refine x_reg ?_
  obtain ⟨v4, b5, e7, i3, h6, _⟩ := RTemplate.rd (A0.go hB)
  subst e7
  refine o_box F rfl rfl rfl (fun a w b1 K2 l BK2 F => ?_)
  have CK2 := Nat.le_trans hB.size BK2
  replace hB := Below.through l hB
  refine o_assign F rfl rfl (fun a F => ?_)
  refine x_end ?_
  refine x_tn ?_
  refine x_seq ?_
  refine x_reg ?_
  refine o_assign F rfl rfl (fun a F => ?_)
  refine x_end ?_
  refine x_tn ?_
  refine x_seq ?_
  refine x_reg ?_
  refine o_bloadA (cs := [.int .i64 x0.size, v4]) Try.isAgg81 Try.sizeOf81 F rfl rfl K2 rfl (fun j hj => by match j, hj with | 0, _ => rfl | 1, _ => rfl) (fun a F => ?_)
  refine o_move F rfl rfl (fun a F => ?_)
  obtain ⟨z8, c9, hR⟩ := bnd_some hR
  refine o_saysI F rfl Try.call44 rfl (szq_says c9 (fun h0 h1 => szTemplate_any _ _ _ _ _ (A0.go hB).r (A0.go hB).m h0 h1)) (fun a w l iz8 F => ?_)
  replace hB := Below.through l hB
  replace K2 := K2.thru l
  refine o_assign F rfl rfl (fun a F => ?_)
  refine x_end ?_
  refine x_tn ?_
  refine x_seq ?_
  refine x_seq ?_
  refine x_reg ?_
  refine o_move F rfl rfl (fun a F => ?_)
  refine o_lss F rfl rfl rfl (fun a F => ?_)
  refine x_end ?_
  refine x_tn ?_
  refine x_if F rfl (fun hb10 => ?_) (fun hb10 => ?_)
  · replace hR := ifT hb10 hR
    refine x_seq ?_
    refine x_reg ?_
    refine o_assign F rfl rfl (fun a F => ?_)
    refine x_end ?_
    refine x_tn ?_
    refine x_ret ?_
    refine x_tr ?_
    refine x_res1 F rfl (rv_t F rfl) ?_
    obtain rfl := Option.some.inj hR
    exact ⟨rfl, hB⟩
  · replace hR := ifF hb10 hR
    refine x_skip ?_
    refine x_tn ?_
    refine x_seq ?_
    refine x_reg ?_
    refine o_bloadA (cs := [.int .i64 x0.size, v4]) Try.isAgg81 Try.sizeOf81 F rfl rfl K2 rfl (fun j hj => by match j, hj with | 0, _ => rfl | 1, _ => rfl) (fun a F => ?_)
    obtain ⟨z11, c12, hR⟩ := bnd_some hR
    refine o_toA F rfl Try.call46 rfl (toTemplate_any _ _ _ _ (A0.go hB).r (A0.go hB).m (toq_some c12)) (fun a v13 b14 w l h15 o16 F => ?_)
    have d17 := Dj.new (inm1 K2) o16 (Nat.le_refl _)
    replace o16 := o16.mono hB.size
    replace hB := Below.through l hB
    replace K2 := K2.thru l
    obtain ⟨z18, c19, hR⟩ := bnd_some hR
    refine o_gives F rfl Try.call45 rfl (spec_OwnGadgets_c z18 c19 _ h15) (fun a vv w l ⟨v20, rb21, ib22, hv26, h23, ow24, i25⟩ F => ?_)
    subst vv
    have o28 := h23.own ow24
    have h27 := h23.rd
    have h29 := RGadgets.mk2 (w := w) h27
    have o30 := o28
    have d31 := Dj.new (inm1 K2) o30 (Nat.le_refl _)
    replace o30 := o30.mono hB.size
    replace hB := Below.through l hB
    replace K2 := K2.thru l
    refine o_move F rfl rfl (fun a F => ?_)
    refine o_extract F rfl rfl rfl (fun a F => ?_)
    refine o_extract F rfl rfl rfl (fun a F => ?_)
    refine o_alloc Try.zeroValue49 F rfl rfl (fun a w b32 K33 l BK33 F => ?_)
    have nb34 := Dj.bb K2 BK33
    have d35 := (dj1 h29.m BK33).symm
    have CK33 := Nat.le_trans hB.size BK33
    replace hB := Below.through l hB
    replace h29 := h29.go l
    replace o30 := o30.go l
    replace K2 := K2.thru l
    refine o_bstoreA (vs := [v20]) Try.sizeOf49 F rfl rfl rfl K33 (oc h27.r.one on) (Nat.le_of_ble_eq_true rfl) rfl (fun w K33 l => ?_)
    replace hB := hB.o l (fun c hc => by rw [List.mem_singleton] at hc; rw [hc]; exact CK33) hB.size
    replace h29 := h29.goO l d35
    replace o30 := o30.goO l d35
    replace K2 := K2.only l (by simpa using nb34)
    refine o_assign F rfl rfl (fun a F => ?_)
    refine x_end ?_
    refine x_tn ?_
    refine x_seq ?_
    refine x_reg ?_
    refine o_bloadA (cs := [.int .i64 x0.size, v4]) Try.isAgg81 Try.sizeOf81 F rfl rfl K2 rfl (fun j hj => by match j, hj with | 0, _ => rfl | 1, _ => rfl) (fun a F => ?_)
    refine o_toA F rfl Try.call46 rfl (toTemplate_any _ _ _ _ (A0.go hB).r (A0.go hB).m (toq_some c12)) (fun a v40 b41 w l h42 o43 F => ?_)
    have d44 := Dj.new h29.m o43 (Nat.le_refl _)
    have d45 := Dj.new (inm1 K2) o43 (Nat.le_refl _)
    have d46 := Dj.new (inm1 K33) o43 (Nat.le_refl _)
    replace o43 := o43.mono hB.size
    replace hB := Below.through l hB
    replace h29 := h29.go l
    replace o30 := o30.go l
    replace K2 := K2.thru l
    replace K33 := K33.thru l
    refine o_alloc Try.zeroValue87 F rfl rfl (fun a w b47 K48 l BK48 F => ?_)
    have nb49 := Dj.bb K2 BK48
    have nb50 := Dj.bb K33 BK48
    have d51 := (dj1 h29.m BK48).symm
    have d52 := (dj1 h42.m BK48).symm
    have CK48 := Nat.le_trans hB.size BK48
    replace hB := Below.through l hB
    replace h29 := h29.go l
    replace o30 := o30.go l
    replace h42 := h42.go l
    replace o43 := o43.go l
    replace K2 := K2.thru l
    replace K33 := K33.thru l
    obtain ⟨v54, b55, e57, i53, h56, _⟩ := RTemplate.rd h42
    subst e57
    refine o_bstoreA (vs := [.int .i64 x0.size, v54]) Try.sizeOf87 F rfl rfl rfl K48 (oc rfl (oc h56.r.one on)) (Nat.le_of_ble_eq_true rfl) rfl (fun w K48 l => ?_)
    replace hB := hB.o l (fun c hc => by rw [List.mem_singleton] at hc; rw [hc]; exact CK48) hB.size
    replace h29 := h29.goO l d51
    replace o30 := o30.goO l d51
    replace h42 := h42.goO l d52
    replace o43 := o43.goO l d52
    replace K2 := K2.only l (by simpa using nb49)
    replace K33 := K33.only l (by simpa using nb50)
    refine x_end ?_
    refine x_tn ?_
    refine x_seq ?_
    refine x_reg ?_
    refine o_bloadA (cs := [.int .i64 x0.size, v54]) Try.isAgg87 Try.sizeOf87 F rfl rfl K48 rfl (fun j hj => by match j, hj with | 0, _ => rfl | 1, _ => rfl) (fun a F => ?_)
    obtain ⟨z58, c59, hR⟩ := bnd_some hR
    refine o_gives F rfl Try.call47 rfl (impl_OwnGadgets_c z58 c59 _ h42) (fun a vv w l ⟨v60, rb61, ib62, hv66, h63, ow64, i65⟩ F => ?_)
    subst vv
    have o68 := h63.own ow64
    have h67 := h63.rd
    have h69 := RGadgets.mk2 (w := w) h67
    have o70 := o68
    have d71 := Dj.new h29.m o70 (Nat.le_refl _)
    have d72 := Dj.new h42.m o70 (Nat.le_refl _)
    have d73 := Dj.new (inm1 K2) o70 (Nat.le_refl _)
    have d74 := Dj.new (inm1 K33) o70 (Nat.le_refl _)
    have d75 := Dj.new (inm1 K48) o70 (Nat.le_refl _)
    replace o70 := o70.mono hB.size
    replace hB := Below.through l hB
    replace h29 := h29.go l
    replace o30 := o30.go l
    replace h42 := h42.go l
    replace o43 := o43.go l
    replace K2 := K2.thru l
    replace K33 := K33.thru l
    replace K48 := K48.thru l
    refine o_move F rfl rfl (fun a F => ?_)
    refine o_extract F rfl rfl rfl (fun a F => ?_)
    refine o_extract F rfl rfl rfl (fun a F => ?_)
    refine o_alloc Try.zeroValue49 F rfl rfl (fun a w b76 K77 l BK77 F => ?_)
    have nb78 := Dj.bb K2 BK77
    have nb79 := Dj.bb K33 BK77
    have nb80 := Dj.bb K48 BK77
    have d81 := (dj1 h29.m BK77).symm
    have d82 := (dj1 h42.m BK77).symm
    have d83 := (dj1 h69.m BK77).symm
    have CK77 := Nat.le_trans hB.size BK77
    replace hB := Below.through l hB
    replace h29 := h29.go l
    replace o30 := o30.go l
    replace h42 := h42.go l
    replace o43 := o43.go l
    replace h69 := h69.go l
    replace o70 := o70.go l
    replace K2 := K2.thru l
    replace K33 := K33.thru l
    replace K48 := K48.thru l
    refine o_bstoreA (vs := [v60]) Try.sizeOf49 F rfl rfl rfl K77 (oc h67.r.one on) (Nat.le_of_ble_eq_true rfl) rfl (fun w K77 l => ?_)
    replace hB := hB.o l (fun c hc => by rw [List.mem_singleton] at hc; rw [hc]; exact CK77) hB.size
    replace h29 := h29.goO l d81
    replace o30 := o30.goO l d81
    replace h42 := h42.goO l d82
    replace o43 := o43.goO l d82
    replace h69 := h69.goO l d83
    replace o70 := o70.goO l d83
    replace K2 := K2.only l (by simpa using nb78)
    replace K33 := K33.only l (by simpa using nb79)
    replace K48 := K48.only l (by simpa using nb80)
    refine o_assign F rfl rfl (fun a F => ?_)
    refine x_end ?_
    refine x_tn ?_
    refine x_seq ?_
    refine x_seq ?_
    obtain ⟨o91, hR, hk92⟩ := thn_some hR
    refine x_cutQ (fun a w => ∃ (s94 : Bool), o91 = .nx s94 ∧ Sk a 96 [(1, .pointer (some ⟨b1, 0, none⟩)), (4, .pointer (some ⟨b32, 0, none⟩)), (5, .int .i64 z18.2), (6, .pointer (some ⟨b47, 0, none⟩)), (7, .pointer (some ⟨b76, 0, none⟩)), (8, .int .i64 z58.2), (40, .bool s94)] ∧ Below w0.heap.size w0 w ∧ Rd (Agg 1 RGadgets) w (.agg #[v20]) z18.1 ((rb21 ++ ib22)) ∧ Own w0.heap.size ((rb21 ++ ib22)) w ∧ Rd (Agg 2 RTemplate) w (.agg #[.int .i64 x0.size, v54]) x0 b41 ∧ Own w0.heap.size b41 w ∧ Rd (Agg 1 RGadgets) w (.agg #[v60]) z58.1 ((rb61 ++ ib62)) ∧ Own w0.heap.size ((rb61 ++ ib62)) w ∧ Blk w b1 #[.int .i64 x0.size, v4] 81 ∧ Blk w b32 #[v20] 49 ∧ Blk w b47 #[.int .i64 x0.size, v54] 87 ∧ Blk w b76 #[v60] 49) ?_ ?_
    · refine x_reg ?_
      refine o_bloadA (cs := [v60]) Try.isAgg49 Try.sizeOf49 F rfl rfl K77 rfl (fun j hj => by match j, hj with | 0, _ => rfl) (fun a F => ?_)
      refine o_bloadA (cs := [v20]) Try.isAgg49 Try.sizeOf49 F rfl rfl K33 rfl (fun j hj => by match j, hj with | 0, _ => rfl) (fun a F => ?_)
      obtain ⟨z95, c96, hR⟩ := bnd_some hR
      refine o_says F rfl Try.call27 rfl (eqq_says (fun y => Rd (Agg 1 RGadgets) _ _ y _) c96 h29 (fun hy => eqGadgets_any _ _ _ _ _ _ h69.r hy.r h69.m hy.m)) (fun a w l F => ?_)
      replace hB := Below.through l hB
      replace h29 := h29.go l
      replace o30 := o30.go l
      replace h42 := h42.go l
      replace o43 := o43.go l
      replace h69 := h69.go l
      replace o70 := o70.go l
      replace K2 := K2.thru l
      replace K33 := K33.thru l
      replace K48 := K48.thru l
      replace K77 := K77.thru l
      refine o_not F rfl rfl (fun a F => ?_)
      refine o_move F rfl rfl (fun a F => ?_)
      rcases bcases (!z95) with hb97 | hb97
      · replace hR := ifT hb97 hR
        have F := F.eq (t := 36) rfl (congrArg Value.bool hb97)
        refine o_no F rfl rfl (fun a F => ?_)
        refine o_no F rfl rfl (fun a F => ?_)
        refine o_no F rfl rfl (fun a F => ?_)
        refine o_pickt F rfl rfl rfl (fun a F => ?_)
        refine x_end ?_
        refine x_tn ?_
        exact ⟨true, (Option.some.inj hR).symm, F.sub (sc rfl (sc rfl (sc rfl (sc rfl (sc rfl (sc rfl (sc rfl sn))))))), hB, h29, o30, h42, o43, h69, o70, K2, K33, K48, K77⟩
      · replace hR := ifF hb97 hR
        have F := F.eq (t := 36) rfl (congrArg Value.bool hb97)
        refine o_move F rfl rfl (fun a F => ?_)
        refine o_move F rfl rfl (fun a F => ?_)
        refine o_neq F rfl rfl rfl (fun a F => ?_)
        refine o_pickf F rfl rfl rfl (fun a F => ?_)
        refine x_end ?_
        refine x_tn ?_
        exact ⟨(z58.2 != z18.2), (Option.some.inj hR).symm, F.sub (sc rfl (sc rfl (sc rfl (sc rfl (sc rfl (sc rfl (sc rfl sn))))))), hB, h29, o30, h42, o43, h69, o70, K2, K33, K48, K77⟩
    · intro a w ⟨s94, ho93, F, hB, h29, o30, h42, o43, h69, o70, K2, K33, K48, K77⟩
      subst ho93
      have hR := then_nx hk92
      refine x_tn ?_
      refine x_if F rfl (fun hb98 => ?_) (fun hb98 => ?_)
      · replace hR := ifT hb98 hR
        refine x_seq ?_
        refine x_reg ?_
        refine o_assign F rfl rfl (fun a F => ?_)
        refine x_end ?_
        refine x_tn ?_
        refine x_ret ?_
        refine x_tr ?_
        refine x_res1 F rfl (rv_t F rfl) ?_
        obtain rfl := Option.some.inj hR
        exact ⟨rfl, hB⟩
      · replace hR := ifF hb98 hR
        refine x_skip ?_
        refine x_tn ?_
        refine x_seq ?_
        refine x_seq ?_
        refine x_drawn (by kernel_rfl) (fun w l => ?_)
        replace hB := Below.through l hB
        replace h29 := h29.go l
        replace o30 := o30.go l
        replace h42 := h42.go l
        replace o43 := o43.go l
        replace h69 := h69.go l
        replace o70 := o70.go l
        replace K2 := K2.thru l
        replace K33 := K33.thru l
        replace K48 := K48.thru l
        replace K77 := K77.thru l
        refine b_q 0 rfl (by kernel_rfl) (by kernel_rfl) (by kernel_rfl) ?_
        refine v_val F rfl (fun w l => r_bloadA (cs := [.int .i64 x0.size, v54]) Try.isAgg87 Try.sizeOf87 F rfl (K48.thru l) rfl (fun j hj => by match j, hj with | 0, _ => rfl | 1, _ => rfl)) (fun a F => ?_)
        refine b_q 1 rfl (by kernel_rfl) (by kernel_rfl) (by kernel_rfl) ?_
        refine v_val F rfl (fun w l => r_bloadA (cs := [.int .i64 x0.size, v4]) Try.isAgg81 Try.sizeOf81 F rfl (K2.thru l) rfl (fun j hj => by match j, hj with | 0, _ => rfl | 1, _ => rfl)) (fun a F => ?_)
        refine b_e 2 rfl (by kernel_rfl) ?_
        refine o_toA F rfl Try.call46 rfl (toTemplate_any _ _ _ _ (A0.go hB).r (A0.go hB).m (toq_some c12)) (fun a v99 b100 w l h101 o102 F => ?_)
        have d103 := Dj.new h29.m o102 (Nat.le_refl _)
        have d104 := Dj.new h42.m o102 (Nat.le_refl _)
        have d105 := Dj.new h69.m o102 (Nat.le_refl _)
        have d106 := Dj.new (inm1 K2) o102 (Nat.le_refl _)
        have d107 := Dj.new (inm1 K33) o102 (Nat.le_refl _)
        have d108 := Dj.new (inm1 K48) o102 (Nat.le_refl _)
        have d109 := Dj.new (inm1 K77) o102 (Nat.le_refl _)
        replace o102 := o102.mono hB.size
        replace hB := Below.through l hB
        replace h29 := h29.go l
        replace o30 := o30.go l
        replace h42 := h42.go l
        replace o43 := o43.go l
        replace h69 := h69.go l
        replace o70 := o70.go l
        replace K2 := K2.thru l
        replace K33 := K33.thru l
        replace K48 := K48.thru l
        replace K77 := K77.thru l
        refine x_end ?_
        refine x_tn ?_
        refine ⟨.inl l, ?_⟩
        refine b_e 3 rfl (by kernel_rfl) ?_
        obtain ⟨z110, c111, hR⟩ := bnd_some hR
        refine o_says F rfl Try.call48 rfl (eqq_says (fun y => Rd (Agg 2 RTemplate) _ _ y _) c111 h101 (fun hy => eqTemplate_any _ _ _ _ _ _ h42.r hy.r h42.m hy.m)) (fun a w l F => ?_)
        replace hB := Below.through l hB
        replace h29 := h29.go l
        replace o30 := o30.go l
        replace h42 := h42.go l
        replace o43 := o43.go l
        replace h69 := h69.go l
        replace o70 := o70.go l
        replace K2 := K2.thru l
        replace K33 := K33.thru l
        replace K48 := K48.thru l
        replace K77 := K77.thru l
        refine x_end ?_
        refine x_tn ?_
        refine ⟨.inl l, ?_⟩
        refine b_q 4 rfl (by kernel_rfl) (by kernel_rfl) (by kernel_rfl) ?_
        refine v_val F rfl (fun w l => r_not F rfl) (fun a F => ?_)
        refine b_end (by kernel_rfl) ?_
        refine x_tn ?_
        refine x_if F rfl (fun hb112 => ?_) (fun hb112 => ?_)
        · replace hR := ifT hb112 hR
          refine x_seq ?_
          refine x_reg ?_
          refine o_assign F rfl rfl (fun a F => ?_)
          refine x_end ?_
          refine x_tn ?_
          refine x_ret ?_
          refine x_tr ?_
          refine x_res1 F rfl (rv_t F rfl) ?_
          obtain rfl := Option.some.inj hR
          exact ⟨rfl, hB⟩
        · replace hR := ifF hb112 hR
          refine x_skip ?_
          refine x_tn ?_
          refine x_seq ?_
          refine x_reg ?_
          refine o_assign F rfl rfl (fun a F => ?_)
          refine x_end ?_
          refine x_tn ?_
          refine x_seq ?_
          refine x_reg ?_
          refine o_bloadA (cs := [.int .i64 x0.size, v54]) Try.isAgg87 Try.sizeOf87 F rfl rfl K48 rfl (fun j hj => by match j, hj with | 0, _ => rfl | 1, _ => rfl) (fun a F => ?_)
          refine o_move F rfl rfl (fun a F => ?_)
          obtain ⟨z113, c114, hR⟩ := bnd_some hR
          refine o_markA F rfl Try.call49 rfl (mkq_markA c114 (fun h0 h1 => markTemplate_any _ _ _ _ _ _ h42.r o43 h0 h1)) (fun a w l h115 o116 F => ?_)
          replace h29 := h29.goO l d44
          replace o30 := o30.goO l d44
          replace h69 := h69.goO l (Dj.symm d72)
          replace o70 := o70.goO l (Dj.symm d72)
          replace K2 := K2.only l (Dj.in1 d45)
          replace K33 := K33.only l (Dj.in1 d46)
          replace K77 := K77.only l (Dj.in1 (Dj.symm d82))
          replace hB := hB.o l (Own.lo o43) hB.size
          have iz113 := mkq_i c114
          refine o_assign F rfl rfl (fun a F => ?_)
          refine x_end ?_
          refine x_tn ?_
          refine x_seq ?_
          refine x_seq ?_
          obtain ⟨o121, hR, hk122⟩ := thn_some hR
          refine x_cutQ (fun a w => ∃ (s124 : Bool), o121 = .nx s124 ∧ Sk a 96 [(1, .pointer (some ⟨b1, 0, none⟩)), (4, .pointer (some ⟨b32, 0, none⟩)), (5, .int .i64 z18.2), (7, .pointer (some ⟨b76, 0, none⟩)), (61, .bool s124)] ∧ Below w0.heap.size w0 w ∧ Rd (Agg 1 RGadgets) w (.agg #[v20]) z18.1 ((rb21 ++ ib22)) ∧ Own w0.heap.size ((rb21 ++ ib22)) w ∧ Rd (Agg 1 RGadgets) w (.agg #[v60]) z58.1 ((rb61 ++ ib62)) ∧ Own w0.heap.size ((rb61 ++ ib62)) w ∧ Blk w b1 #[.int .i64 x0.size, v4] 81 ∧ Blk w b32 #[v20] 49 ∧ Blk w b76 #[v60] 49) ?_ ?_
          · refine x_reg ?_
            refine o_move F rfl rfl (fun a F => ?_)
            refine o_lss F rfl rfl rfl (fun a F => ?_)
            refine o_move F rfl rfl (fun a F => ?_)
            rcases bcases (decide (z113 < 0)) with hb125 | hb125
            · replace hR := ifT hb125 hR
              have F := F.eq (t := 51) rfl (congrArg Value.bool hb125)
              refine o_no F rfl rfl (fun a F => ?_)
              refine o_no F rfl rfl (fun a F => ?_)
              refine o_no F rfl rfl (fun a F => ?_)
              refine o_no F rfl rfl (fun a F => ?_)
              refine o_pickt F rfl rfl rfl (fun a F => ?_)
              refine o_move F rfl rfl (fun a F => ?_)
              refine o_no F rfl rfl (fun a F => ?_)
              refine o_no F rfl rfl (fun a F => ?_)
              refine o_no F rfl rfl (fun a F => ?_)
              refine o_pickt F rfl rfl rfl (fun a F => ?_)
              refine x_end ?_
              refine x_tn ?_
              exact ⟨true, (Option.some.inj hR).symm, F.sub (sc rfl (sc rfl (sc rfl (sc rfl (sc rfl sn))))), hB, h29, o30, h69, o70, K2, K33, K77⟩
            · replace hR := ifF hb125 hR
              have F := F.eq (t := 51) rfl (congrArg Value.bool hb125)
              refine o_bloadA (cs := [v60]) Try.isAgg49 Try.sizeOf49 F rfl rfl K77 rfl (fun j hj => by match j, hj with | 0, _ => rfl) (fun a F => ?_)
              refine o_bloadA (cs := [v20]) Try.isAgg49 Try.sizeOf49 F rfl rfl K33 rfl (fun j hj => by match j, hj with | 0, _ => rfl) (fun a F => ?_)
              obtain ⟨z126, c127, hR⟩ := bnd_some hR
              refine o_says F rfl Try.call27 rfl (eqq_says (fun y => Rd (Agg 1 RGadgets) _ _ y _) c127 h29 (fun hy => eqGadgets_any _ _ _ _ _ _ h69.r hy.r h69.m hy.m)) (fun a w l F => ?_)
              replace hB := Below.through l hB
              replace h29 := h29.go l
              replace o30 := o30.go l
              replace h69 := h69.go l
              replace o70 := o70.go l
              replace K2 := K2.thru l
              replace K33 := K33.thru l
              replace K77 := K77.thru l
              refine o_not F rfl rfl (fun a F => ?_)
              refine o_pickf F rfl rfl rfl (fun a F => ?_)
              refine o_move F rfl rfl (fun a F => ?_)
              rcases bcases (!z126) with hb128 | hb128
              · replace hR := ifT hb128 hR
                have F := F.eq (t := 57) rfl (congrArg Value.bool hb128)
                refine o_no F rfl rfl (fun a F => ?_)
                refine o_no F rfl rfl (fun a F => ?_)
                refine o_no F rfl rfl (fun a F => ?_)
                refine o_pickt F rfl rfl rfl (fun a F => ?_)
                refine x_end ?_
                refine x_tn ?_
                exact ⟨true, (Option.some.inj hR).symm, F.sub (sc rfl (sc rfl (sc rfl (sc rfl (sc rfl sn))))), hB, h29, o30, h69, o70, K2, K33, K77⟩
              · replace hR := ifF hb128 hR
                have F := F.eq (t := 57) rfl (congrArg Value.bool hb128)
                refine o_move F rfl rfl (fun a F => ?_)
                refine o_move F rfl rfl (fun a F => ?_)
                refine o_neq F rfl rfl rfl (fun a F => ?_)
                refine o_pickf F rfl rfl rfl (fun a F => ?_)
                refine x_end ?_
                refine x_tn ?_
                exact ⟨(z58.2 != z18.2), (Option.some.inj hR).symm, F.sub (sc rfl (sc rfl (sc rfl (sc rfl (sc rfl sn))))), hB, h29, o30, h69, o70, K2, K33, K77⟩
          · intro a w ⟨s124, ho123, F, hB, h29, o30, h69, o70, K2, K33, K77⟩
            subst ho123
            have hR := then_nx hk122
            refine x_tn ?_
            refine x_if F rfl (fun hb129 => ?_) (fun hb129 => ?_)
            · replace hR := ifT hb129 hR
              refine x_seq ?_
              refine x_reg ?_
              refine o_assign F rfl rfl (fun a F => ?_)
              refine x_end ?_
              refine x_tn ?_
              refine x_ret ?_
              refine x_tr ?_
              refine x_res1 F rfl (rv_t F rfl) ?_
              obtain rfl := Option.some.inj hR
              exact ⟨rfl, hB⟩
            · replace hR := ifF hb129 hR
              refine x_skip ?_
              refine x_tn ?_
              refine x_seq ?_
              refine x_reg ?_
              refine o_assign F rfl rfl (fun a F => ?_)
              refine x_end ?_
              refine x_tn ?_
              refine x_seq ?_
              refine x_reg ?_
              refine o_bloadA (cs := [v60]) Try.isAgg49 Try.sizeOf49 F rfl rfl K77 rfl (fun j hj => by match j, hj with | 0, _ => rfl) (fun a F => ?_)
              refine o_move F rfl rfl (fun a F => ?_)
              obtain ⟨z130, c131, hR⟩ := bnd_some hR
              refine o_markA F rfl Try.call50 rfl (mkq_markA c131 (fun h0 h1 => markGadgets_any _ _ _ _ _ _ h69.r o70 h0 h1)) (fun a w l h132 o133 F => ?_)
              replace h29 := h29.goO l d71
              replace o30 := o30.goO l d71
              replace K2 := K2.only l (Dj.in1 d73)
              replace K33 := K33.only l (Dj.in1 d74)
              replace K77 := K77.only l (Dj.in1 (Dj.symm d83))
              replace hB := hB.o l (Own.lo o70) hB.size
              have iz130 := mkq_i c131
              refine o_assign F rfl rfl (fun a F => ?_)
              refine x_end ?_
              refine x_tn ?_
              refine x_seq ?_
              refine x_reg ?_
              refine o_assign F rfl rfl (fun a F => ?_)
              refine x_end ?_
              refine x_tn ?_
              refine x_seq ?_
              refine x_reg ?_
              refine o_bloadA (cs := [v60]) Try.isAgg49 Try.sizeOf49 F rfl rfl K77 rfl (fun j hj => by match j, hj with | 0, _ => rfl) (fun a F => ?_)
              refine o_move F rfl rfl (fun a F => ?_)
              refine o_saysI F rfl Try.call51 rfl (mkq_says c131 (fun h0 h1 => heldGadgets_any _ _ _ _ _ h132.r h132.m h0 h1)) (fun a w l iz130 F => ?_)
              replace hB := Below.through l hB
              replace h29 := h29.go l
              replace o30 := o30.go l
              replace h132 := h132.go l
              replace o133 := o133.go l
              replace K2 := K2.thru l
              replace K33 := K33.thru l
              replace K77 := K77.thru l
              refine o_assign F rfl rfl (fun a F => ?_)
              refine x_end ?_
              refine x_tn ?_
              refine x_seq ?_
              refine x_seq ?_
              refine x_reg ?_
              refine o_move F rfl rfl (fun a F => ?_)
              refine o_lss F rfl rfl rfl (fun a F => ?_)
              refine x_end ?_
              refine x_tn ?_
              refine x_if F rfl (fun hb134 => ?_) (fun hb134 => ?_)
              · replace hR := ifT hb134 hR
                refine x_seq ?_
                refine x_reg ?_
                refine o_assign F rfl rfl (fun a F => ?_)
                refine x_end ?_
                refine x_tn ?_
                refine x_ret ?_
                refine x_tr ?_
                refine x_res1 F rfl (rv_t F rfl) ?_
                obtain rfl := Option.some.inj hR
                exact ⟨rfl, hB⟩
              · replace hR := ifF hb134 hR
                refine x_skip ?_
                refine x_tn ?_
                refine x_seq ?_
                refine x_seq ?_
                refine x_reg ?_
                refine o_move F rfl rfl (fun a F => ?_)
                refine o_move F rfl rfl (fun a F => ?_)
                refine o_neq F rfl rfl rfl (fun a F => ?_)
                refine x_end ?_
                refine x_tn ?_
                refine x_if F rfl (fun hb135 => ?_) (fun hb135 => ?_)
                · replace hR := ifT hb135 hR
                  refine x_seq ?_
                  refine x_reg ?_
                  refine o_assign F rfl rfl (fun a F => ?_)
                  refine x_end ?_
                  refine x_tn ?_
                  refine x_ret ?_
                  refine x_tr ?_
                  refine x_res1 F rfl (rv_t F rfl) ?_
                  obtain rfl := Option.some.inj hR
                  exact ⟨rfl, hB⟩
                · replace hR := ifF hb135 hR
                  refine x_skip ?_
                  refine x_tn ?_
                  refine x_seq ?_
                  refine x_reg ?_
                  refine o_bloadA (cs := [.int .i64 x0.size, v4]) Try.isAgg81 Try.sizeOf81 F rfl rfl K2 rfl (fun j hj => by match j, hj with | 0, _ => rfl | 1, _ => rfl) (fun a F => ?_)
                  refine o_toA F rfl Try.call46 rfl (toTemplate_any _ _ _ _ (A0.go hB).r (A0.go hB).m (toq_some c12)) (fun a v136 b137 w l h138 o139 F => ?_)
                  have d140 := Dj.new h29.m o139 (Nat.le_refl _)
                  have d141 := Dj.new h132.m o139 (Nat.le_refl _)
                  have d142 := Dj.new (inm1 K33) o139 (Nat.le_refl _)
                  have d143 := Dj.new (inm1 K77) o139 (Nat.le_refl _)
                  replace o139 := o139.mono hB.size
                  replace hB := Below.through l hB
                  replace h29 := h29.go l
                  replace o30 := o30.go l
                  replace h132 := h132.go l
                  replace o133 := o133.go l
                  replace K33 := K33.thru l
                  replace K77 := K77.thru l
                  refine o_gives F rfl Try.call47 rfl (impl_OwnGadgets_c z58 c59 _ h138) (fun a vv w l ⟨v144, rb145, ib146, hv150, h147, ow148, i149⟩ F => ?_)
                  subst vv
                  have o152 := h147.own ow148
                  have h151 := h147.rd
                  have h153 := RGadgets.mk2 (w := w) h151
                  have o154 := o152
                  have d155 := Dj.new h29.m o154 (Nat.le_refl _)
                  have d156 := Dj.new h132.m o154 (Nat.le_refl _)
                  have d157 := Dj.new (inm1 K33) o154 (Nat.le_refl _)
                  have d158 := Dj.new (inm1 K77) o154 (Nat.le_refl _)
                  replace o154 := o154.mono hB.size
                  replace hB := Below.through l hB
                  replace h29 := h29.go l
                  replace o30 := o30.go l
                  replace h132 := h132.go l
                  replace o133 := o133.go l
                  replace K33 := K33.thru l
                  replace K77 := K77.thru l
                  refine o_move F rfl rfl (fun a F => ?_)
                  refine o_extract F rfl rfl rfl (fun a F => ?_)
                  refine o_extract F rfl rfl rfl (fun a F => ?_)
                  refine o_alloc Try.zeroValue49 F rfl rfl (fun a w b159 K160 l BK160 F => ?_)
                  have nb161 := Dj.bb K33 BK160
                  have nb162 := Dj.bb K77 BK160
                  have d163 := (dj1 h29.m BK160).symm
                  have d164 := (dj1 h132.m BK160).symm
                  have d165 := (dj1 h153.m BK160).symm
                  have CK160 := Nat.le_trans hB.size BK160
                  replace hB := Below.through l hB
                  replace h29 := h29.go l
                  replace o30 := o30.go l
                  replace h132 := h132.go l
                  replace o133 := o133.go l
                  replace h153 := h153.go l
                  replace o154 := o154.go l
                  replace K33 := K33.thru l
                  replace K77 := K77.thru l
                  refine o_bstoreA (vs := [v144]) Try.sizeOf49 F rfl rfl rfl K160 (oc h151.r.one on) (Nat.le_of_ble_eq_true rfl) rfl (fun w K160 l => ?_)
                  replace hB := hB.o l (fun c hc => by rw [List.mem_singleton] at hc; rw [hc]; exact CK160) hB.size
                  replace h29 := h29.goO l d163
                  replace o30 := o30.goO l d163
                  replace h132 := h132.goO l d164
                  replace o133 := o133.goO l d164
                  replace h153 := h153.goO l d165
                  replace o154 := o154.goO l d165
                  replace K33 := K33.only l (by simpa using nb161)
                  replace K77 := K77.only l (by simpa using nb162)
                  refine o_assign F rfl rfl (fun a F => ?_)
                  refine x_end ?_
                  refine x_tn ?_
                  refine x_seq ?_
                  refine x_seq ?_
                  obtain ⟨o173, hR, hk174⟩ := thn_some hR
                  refine x_cutQ (fun a w => ∃ (s176 : Bool), o173 = .nx s176 ∧ Sk a 96 [(7, .pointer (some ⟨b76, 0, none⟩)), (10, .int .i64 z130), (87, .bool s176)] ∧ Below w0.heap.size w0 w ∧ Rd (Agg 1 RGadgets) w (.agg #[v60]) (z58.1.mkv 1) ((rb61 ++ ib62)) ∧ Own w0.heap.size ((rb61 ++ ib62)) w ∧ Blk w b76 #[v60] 49) ?_ ?_
                  · refine x_reg ?_
                    refine o_bloadA (cs := [v144]) Try.isAgg49 Try.sizeOf49 F rfl rfl K160 rfl (fun j hj => by match j, hj with | 0, _ => rfl) (fun a F => ?_)
                    refine o_bloadA (cs := [v20]) Try.isAgg49 Try.sizeOf49 F rfl rfl K33 rfl (fun j hj => by match j, hj with | 0, _ => rfl) (fun a F => ?_)
                    obtain ⟨z177, c178, hR⟩ := bnd_some hR
                    refine o_says F rfl Try.call27 rfl (eqq_says (fun y => Rd (Agg 1 RGadgets) _ _ y _) c178 h29 (fun hy => eqGadgets_any _ _ _ _ _ _ h153.r hy.r h153.m hy.m)) (fun a w l F => ?_)
                    replace hB := Below.through l hB
                    replace h132 := h132.go l
                    replace o133 := o133.go l
                    replace K77 := K77.thru l
                    refine o_not F rfl rfl (fun a F => ?_)
                    refine o_move F rfl rfl (fun a F => ?_)
                    rcases bcases (!z177) with hb179 | hb179
                    · replace hR := ifT hb179 hR
                      have F := F.eq (t := 83) rfl (congrArg Value.bool hb179)
                      refine o_no F rfl rfl (fun a F => ?_)
                      refine o_no F rfl rfl (fun a F => ?_)
                      refine o_no F rfl rfl (fun a F => ?_)
                      refine o_pickt F rfl rfl rfl (fun a F => ?_)
                      refine x_end ?_
                      refine x_tn ?_
                      exact ⟨true, (Option.some.inj hR).symm, F.sub (sc rfl (sc rfl (sc rfl sn))), hB, h132, o133, K77⟩
                    · replace hR := ifF hb179 hR
                      have F := F.eq (t := 83) rfl (congrArg Value.bool hb179)
                      refine o_move F rfl rfl (fun a F => ?_)
                      refine o_move F rfl rfl (fun a F => ?_)
                      refine o_neq F rfl rfl rfl (fun a F => ?_)
                      refine o_pickf F rfl rfl rfl (fun a F => ?_)
                      refine x_end ?_
                      refine x_tn ?_
                      exact ⟨(z58.2 != z18.2), (Option.some.inj hR).symm, F.sub (sc rfl (sc rfl (sc rfl sn))), hB, h132, o133, K77⟩
                  · intro a w ⟨s176, ho175, F, hB, h132, o133, K77⟩
                    subst ho175
                    have hR := then_nx hk174
                    refine x_tn ?_
                    refine x_if F rfl (fun hb180 => ?_) (fun hb180 => ?_)
                    · replace hR := ifT hb180 hR
                      refine x_seq ?_
                      refine x_reg ?_
                      refine o_assign F rfl rfl (fun a F => ?_)
                      refine x_end ?_
                      refine x_tn ?_
                      refine x_ret ?_
                      refine x_tr ?_
                      refine x_res1 F rfl (rv_t F rfl) ?_
                      obtain rfl := Option.some.inj hR
                      exact ⟨rfl, hB⟩
                    · replace hR := ifF hb180 hR
                      refine x_skip ?_
                      refine x_tn ?_
                      refine x_seq ?_
                      refine x_reg ?_
                      refine o_assign F rfl rfl (fun a F => ?_)
                      refine x_end ?_
                      refine x_tn ?_
                      refine x_seq ?_
                      refine x_reg ?_
                      refine o_bloadA (cs := [v60]) Try.isAgg49 Try.sizeOf49 F rfl rfl K77 rfl (fun j hj => by match j, hj with | 0, _ => rfl) (fun a F => ?_)
                      refine o_move F rfl rfl (fun a F => ?_)
                      refine o_saysI F rfl Try.call51 rfl (mkq_says c131 (fun h0 h1 => heldGadgets_any _ _ _ _ _ h132.r h132.m h0 h1)) (fun a w l iz130 F => ?_)
                      replace hB := Below.through l hB
                      refine o_assign F rfl rfl (fun a F => ?_)
                      refine x_end ?_
                      refine x_tn ?_
                      refine x_seq ?_
                      refine x_seq ?_
                      refine x_reg ?_
                      refine o_move F rfl rfl (fun a F => ?_)
                      refine o_lss F rfl rfl rfl (fun a F => ?_)
                      refine x_end ?_
                      refine x_tn ?_
                      refine x_if F rfl (fun hb181 => ?_) (fun hb181 => ?_)
                      · replace hR := ifT hb181 hR
                        refine x_seq ?_
                        refine x_reg ?_
                        refine o_assign F rfl rfl (fun a F => ?_)
                        refine x_end ?_
                        refine x_tn ?_
                        refine x_ret ?_
                        refine x_tr ?_
                        refine x_res1 F rfl (rv_t F rfl) ?_
                        obtain rfl := Option.some.inj hR
                        exact ⟨rfl, hB⟩
                      · replace hR := ifF hb181 hR
                        refine x_skip ?_
                        refine x_tn ?_
                        refine x_seq ?_
                        refine x_seq ?_
                        refine x_reg ?_
                        refine o_move F rfl rfl (fun a F => ?_)
                        refine o_move F rfl rfl (fun a F => ?_)
                        refine o_neq F rfl rfl rfl (fun a F => ?_)
                        refine x_end ?_
                        refine x_tn ?_
                        refine x_if F rfl (fun hb182 => ?_) (fun hb182 => ?_)
                        · replace hR := ifT hb182 hR
                          refine x_seq ?_
                          refine x_reg ?_
                          refine o_assign F rfl rfl (fun a F => ?_)
                          refine x_end ?_
                          refine x_tn ?_
                          refine x_ret ?_
                          refine x_tr ?_
                          refine x_res1 F rfl (rv_t F rfl) ?_
                          obtain rfl := Option.some.inj hR
                          exact ⟨rfl, hB⟩
                        · replace hR := ifF hb182 hR
                          refine x_skip ?_
                          refine x_tn ?_
                          refine x_seq ?_
                          refine x_reg ?_
                          refine o_assign F rfl rfl (fun a F => ?_)
                          refine x_end ?_
                          refine x_tn ?_
                          refine x_ret ?_
                          refine x_res1 F rfl (rv_t F rfl) ?_
                          obtain rfl := Option.some.inj hR
                          exact ⟨rfl, hB⟩
end
end Go.Proofs.Ytmfichdcomaaeaa
