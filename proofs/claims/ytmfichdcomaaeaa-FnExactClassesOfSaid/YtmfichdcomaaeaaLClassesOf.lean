/-
  Laws of the program as plain functions, and that they compute them. Printed by lawfx.py.
-/
import Derived.Test.YtmfichdcomaaeaaX4
import Derived.Test.YtmfichdcomaaeaaY
import Derived.Test.YtmfichdcomaaeaaL1
import Derived.Test.YtmfichdcomaaeaaL2
import Derived.Test.YtmfichdcomaaeaaL3
import Derived.Test.YtmfichdcomaaeaaL5
namespace Go.Proofs.Ytmfichdcomaaeaa
set_option linter.unusedVariables false
set_option linter.unusedSimpArgs false
set_option maxRecDepth 100000
open Go.RowKit
noncomputable section
def laws_FnExactClassesOf (N : Nat) (x0 : Template) : Option Bool :=
  bnd (szq 1048576 (x0.sz)) fun z18 =>
  if (decide (z18 < 0)) then
    some true
  else
    bnd (toq (x0.sz)) fun z21 =>
    bnd (spec_ClassesOf N x0) fun z28 =>
    bnd (impl_ClassesOf N x0) fun z55 =>
    thn (σ := Bool) (
      bnd (eqq z55.1 z28.1) fun z76 =>
      if (!z76) then   some (.nx true) else   some (.nx (z55.2 != z28.2))) fun s75 =>
    if s75 then
      some false
    else
      bnd (eqq x0 x0) fun z89 =>
      if (!z89) then
        some false
      else
        bnd (mkq 1 (x0.cnt)) fun z92 =>
        thn (σ := Bool) (
          if (decide (z92 < 0)) then   some (.nx true) else   bnd (eqq z55.1 z28.1) fun z105 =>
            if (!z105) then   some (.nx true) else   some (.nx (z55.2 != z28.2))) fun s103 =>
        if s103 then
          some false
        else
          bnd (mkq 1 (cntS cI z55.1)) fun z109 =>
          if (decide (z109 < 0)) then
            some false
          else
            if (z109 != z109) then
              some false
            else
              thn (σ := Bool) (
                bnd (eqq z55.1 z28.1) fun z138 =>
                if (!z138) then   some (.nx true) else   some (.nx (z55.2 != z28.2))) fun s137 =>
              if s137 then
                some false
              else
                if (decide (z109 < 0)) then
                  some false
                else
                  if (z109 != z109) then
                    some false
                  else
                    some true
set_option maxHeartbeats 1000000 in
theorem laws_FnExactClassesOf_c {N : Nat} {x0 : Template} (r : Bool) (hR : laws_FnExactClassesOf N x0 = some r) {v0 : Value} {b0 : List Nat} (w0 : World) (A0 : Rd (Agg 2 RTemplate) w0 v0 x0 b0) : Calls Try.prog 11 #[v0] w0 (Says (.bool r) w0) := by
  unfold laws_FnExactClassesOf at hR
  refine x_enter (L := [(0, v0)]) Try.func11 rfl rfl rfl (sc rfl sn) (fun a F => ?_)
  have hB := Below.refl w0.heap.size w0
  refine x_seq ?_
  refine x_reg ?_
  obtain ⟨v14, b15, e17, i13, h16, _⟩ := RTemplate.rd (A0.go hB)
  subst e17
  refine o_box F rfl rfl rfl (fun a w b11 K12 l BK12 F => ?_)
  have CK12 := Nat.le_trans hB.size BK12
  replace hB := Below.through l hB
  refine o_assign F rfl rfl (fun a F => ?_)
  refine x_end ?_
  refine x_tn ?_
  refine x_seq ?_
  refine x_reg ?_
  refine o_assign F rfl rfl (fun a F => ?_)
  refine x_end ?_
  refine x_tn ?_
  refine x_seq ?_
  refine x_reg ?_
  refine o_bloadA (cs := [.int .i64 x0.size, v14]) Try.isAgg81 Try.sizeOf81 F rfl rfl K12 rfl (fun j hj => by match j, hj with | 0, _ => rfl | 1, _ => rfl) (fun a F => ?_)
  refine o_move F rfl rfl (fun a F => ?_)
  obtain ⟨z18, c19, hR⟩ := bnd_some hR
  refine o_saysI F rfl Try.call44 rfl (szq_says c19 (fun h0 h1 => szTemplate_any _ _ _ _ _ (A0.go hB).r (A0.go hB).m h0 h1)) (fun a w l iz18 F => ?_)
  replace hB := Below.through l hB
  replace K12 := K12.thru l
  refine o_assign F rfl rfl (fun a F => ?_)
  refine x_end ?_
  refine x_tn ?_
  refine x_seq ?_
  refine x_seq ?_
  refine x_reg ?_
  refine o_move F rfl rfl (fun a F => ?_)
  refine o_lss F rfl rfl rfl (fun a F => ?_)
  refine x_end ?_
  refine x_tn ?_
  refine x_if F rfl (fun hb20 => ?_) (fun hb20 => ?_)
  · replace hR := ifT hb20 hR
    refine x_seq ?_
    refine x_reg ?_
    refine o_assign F rfl rfl (fun a F => ?_)
    refine x_end ?_
    refine x_tn ?_
    refine x_ret ?_
    refine x_tr ?_
    refine x_res1 F rfl (rv_t F rfl) ?_
    obtain rfl := Option.some.inj hR
    exact ⟨rfl, hB⟩
  · replace hR := ifF hb20 hR
    refine x_skip ?_
    refine x_tn ?_
    refine x_seq ?_
    refine x_reg ?_
    refine o_bloadA (cs := [.int .i64 x0.size, v14]) Try.isAgg81 Try.sizeOf81 F rfl rfl K12 rfl (fun j hj => by match j, hj with | 0, _ => rfl | 1, _ => rfl) (fun a F => ?_)
    obtain ⟨z21, c22, hR⟩ := bnd_some hR
    refine o_toA F rfl Try.call46 rfl (toTemplate_any _ _ _ _ (A0.go hB).r (A0.go hB).m (toq_some c22)) (fun a v23 b24 w l h25 o26 F => ?_)
    have d27 := Dj.new (inm1 K12) o26 (Nat.le_refl _)
    replace o26 := o26.mono hB.size
    replace hB := Below.through l hB
    replace K12 := K12.thru l
    obtain ⟨z28, c29, hR⟩ := bnd_some hR
    refine o_gives F rfl Try.call54 rfl (spec_ClassesOf_c z28 c29 _ h25) (fun a vv w l ⟨v30, rb31, hv35, h33, i34⟩ F => ?_)
    subst vv
    have o37 := h33.own (Own.nil _ _)
    have h36 := h33.rd
    have d38 := Dj.new (inm1 K12) o37 (Nat.le_refl _)
    replace o37 := o37.mono hB.size
    replace hB := Below.through l hB
    replace K12 := K12.thru l
    refine o_move F rfl rfl (fun a F => ?_)
    refine o_extract F rfl rfl rfl (fun a F => ?_)
    refine o_extract F rfl rfl rfl (fun a F => ?_)
    refine o_assign F rfl rfl (fun a F => ?_)
    refine o_assign F rfl rfl (fun a F => ?_)
    refine x_end ?_
    refine x_tn ?_
    refine x_seq ?_
    refine x_reg ?_
    refine o_bloadA (cs := [.int .i64 x0.size, v14]) Try.isAgg81 Try.sizeOf81 F rfl rfl K12 rfl (fun j hj => by match j, hj with | 0, _ => rfl | 1, _ => rfl) (fun a F => ?_)
    refine o_toA F rfl Try.call46 rfl (toTemplate_any _ _ _ _ (A0.go hB).r (A0.go hB).m (toq_some c22)) (fun a v39 b40 w l h41 o42 F => ?_)
    have d43 := Dj.new h36.m o42 (Nat.le_refl _)
    have d44 := Dj.new (inm1 K12) o42 (Nat.le_refl _)
    replace o42 := o42.mono hB.size
    replace hB := Below.through l hB
    replace h36 := h36.go l
    replace o37 := o37.go l
    replace K12 := K12.thru l
    refine o_alloc Try.zeroValue87 F rfl rfl (fun a w b45 K46 l BK46 F => ?_)
    have nb47 := Dj.bb K12 BK46
    have d48 := (dj1 h36.m BK46).symm
    have d49 := (dj1 h41.m BK46).symm
    have CK46 := Nat.le_trans hB.size BK46
    replace hB := Below.through l hB
    replace h36 := h36.go l
    replace o37 := o37.go l
    replace h41 := h41.go l
    replace o42 := o42.go l
    replace K12 := K12.thru l
    obtain ⟨v51, b52, e54, i50, h53, _⟩ := RTemplate.rd h41
    subst e54
    refine o_bstoreA (vs := [.int .i64 x0.size, v51]) Try.sizeOf87 F rfl rfl rfl K46 (oc rfl (oc h53.r.one on)) (Nat.le_of_ble_eq_true rfl) rfl (fun w K46 l => ?_)
    replace hB := hB.o l (fun c hc => by rw [List.mem_singleton] at hc; rw [hc]; exact CK46) hB.size
    replace h36 := h36.goO l d48
    replace o37 := o37.goO l d48
    replace h41 := h41.goO l d49
    replace o42 := o42.goO l d49
    replace K12 := K12.only l (by simpa using nb47)
    refine x_end ?_
    refine x_tn ?_
    refine x_seq ?_
    refine x_reg ?_
    refine o_bloadA (cs := [.int .i64 x0.size, v51]) Try.isAgg87 Try.sizeOf87 F rfl rfl K46 rfl (fun j hj => by match j, hj with | 0, _ => rfl | 1, _ => rfl) (fun a F => ?_)
    obtain ⟨z55, c56, hR⟩ := bnd_some hR
    refine o_gives F rfl Try.call55 rfl (impl_ClassesOf_c z55 c56 _ h41) (fun a vv w l ⟨v57, rb58, hv62, h60, i61⟩ F => ?_)
    subst vv
    have o64 := h60.own (Own.nil _ _)
    have h63 := h60.rd
    have d65 := Dj.new h36.m o64 (Nat.le_refl _)
    have d66 := Dj.new h41.m o64 (Nat.le_refl _)
    have d67 := Dj.new (inm1 K12) o64 (Nat.le_refl _)
    have d68 := Dj.new (inm1 K46) o64 (Nat.le_refl _)
    replace o64 := o64.mono hB.size
    replace hB := Below.through l hB
    replace h36 := h36.go l
    replace o37 := o37.go l
    replace h41 := h41.go l
    replace o42 := o42.go l
    replace K12 := K12.thru l
    replace K46 := K46.thru l
    refine o_move F rfl rfl (fun a F => ?_)
    refine o_extract F rfl rfl rfl (fun a F => ?_)
    refine o_extract F rfl rfl rfl (fun a F => ?_)
    refine o_assign F rfl rfl (fun a F => ?_)
    refine o_assign F rfl rfl (fun a F => ?_)
    refine x_end ?_
    refine x_tn ?_
    refine x_seq ?_
    refine x_seq ?_
    obtain ⟨o72, hR, hk73⟩ := thn_some hR
    refine x_cutQ (fun a w => ∃ (s75 : Bool), o72 = .nx s75 ∧ Sk a 96 [(1, .pointer (some ⟨b11, 0, none⟩)), (4, v30), (5, .int .i64 z28.2), (6, .pointer (some ⟨b45, 0, none⟩)), (7, v57), (8, .int .i64 z55.2), (40, .bool s75)] ∧ Below w0.heap.size w0 w ∧ Rd (Sl 1 RInt) w v30 z28.1 (rb31 ++ []) ∧ Own w0.heap.size (rb31 ++ []) w ∧ Rd (Agg 2 RTemplate) w (.agg #[.int .i64 x0.size, v51]) x0 b40 ∧ Own w0.heap.size b40 w ∧ Rd (Sl 1 RInt) w v57 z55.1 (rb58 ++ []) ∧ Own w0.heap.size (rb58 ++ []) w ∧ Blk w b11 #[.int .i64 x0.size, v14] 81 ∧ Blk w b45 #[.int .i64 x0.size, v51] 87) ?_ ?_
    · refine x_reg ?_
      refine o_move F rfl rfl (fun a F => ?_)
      refine o_move F rfl rfl (fun a F => ?_)
      obtain ⟨z76, c77, hR⟩ := bnd_some hR
      refine o_says F rfl Try.call56 rfl (eqq_says (fun y => Rd (Sl 1 RInt) _ _ y _) c77 h36 (fun hy => eqInt64S_any _ _ _ _ _ _ h63.r hy.r h63.m hy.m)) (fun a w l F => ?_)
      replace hB := Below.through l hB
      replace h36 := h36.go l
      replace o37 := o37.go l
      replace h41 := h41.go l
      replace o42 := o42.go l
      replace h63 := h63.go l
      replace o64 := o64.go l
      replace K12 := K12.thru l
      replace K46 := K46.thru l
      refine o_not F rfl rfl (fun a F => ?_)
      refine o_move F rfl rfl (fun a F => ?_)
      rcases bcases (!z76) with hb78 | hb78
      · replace hR := ifT hb78 hR
        have F := F.eq (t := 36) rfl (congrArg Value.bool hb78)
        refine o_no F rfl rfl (fun a F => ?_)
        refine o_no F rfl rfl (fun a F => ?_)
        refine o_no F rfl rfl (fun a F => ?_)
        refine o_pickt F rfl rfl rfl (fun a F => ?_)
        refine x_end ?_
        refine x_tn ?_
        exact ⟨true, (Option.some.inj hR).symm, F.sub (sc rfl (sc rfl (sc rfl (sc rfl (sc rfl (sc rfl (sc rfl sn))))))), hB, h36, o37, h41, o42, h63, o64, K12, K46⟩
      · replace hR := ifF hb78 hR
        have F := F.eq (t := 36) rfl (congrArg Value.bool hb78)
        refine o_move F rfl rfl (fun a F => ?_)
        refine o_move F rfl rfl (fun a F => ?_)
        refine o_neq F rfl rfl rfl (fun a F => ?_)
        refine o_pickf F rfl rfl rfl (fun a F => ?_)
        refine x_end ?_
        refine x_tn ?_
        exact ⟨(z55.2 != z28.2), (Option.some.inj hR).symm, F.sub (sc rfl (sc rfl (sc rfl (sc rfl (sc rfl (sc rfl (sc rfl sn))))))), hB, h36, o37, h41, o42, h63, o64, K12, K46⟩
    · intro a w ⟨s75, ho74, F, hB, h36, o37, h41, o42, h63, o64, K12, K46⟩
      subst ho74
      have hR := then_nx hk73
      refine x_tn ?_
      refine x_if F rfl (fun hb79 => ?_) (fun hb79 => ?_)
      · replace hR := ifT hb79 hR
        refine x_seq ?_
        refine x_reg ?_
        refine o_assign F rfl rfl (fun a F => ?_)
        refine x_end ?_
        refine x_tn ?_
        refine x_ret ?_
        refine x_tr ?_
        refine x_res1 F rfl (rv_t F rfl) ?_
        obtain rfl := Option.some.inj hR
        exact ⟨rfl, hB⟩
      · replace hR := ifF hb79 hR
        refine x_skip ?_
        refine x_tn ?_
        refine x_seq ?_
        refine x_seq ?_
        refine x_drawn (by kernel_rfl) (fun w l => ?_)
        replace hB := Below.through l hB
        replace h36 := h36.go l
        replace o37 := o37.go l
        replace h41 := h41.go l
        replace o42 := o42.go l
        replace h63 := h63.go l
        replace o64 := o64.go l
        replace K12 := K12.thru l
        replace K46 := K46.thru l
        refine b_q 0 rfl (by kernel_rfl) (by kernel_rfl) (by kernel_rfl) (by kernel_rfl) ?_
        refine v_val F rfl (fun w l => r_bloadA (cs := [.int .i64 x0.size, v51]) Try.isAgg87 Try.sizeOf87 F rfl (K46.thru l) rfl (fun j hj => by match j, hj with | 0, _ => rfl | 1, _ => rfl)) (fun a F => ?_)
        refine b_q 1 rfl (by kernel_rfl) (by kernel_rfl) (by kernel_rfl) (by kernel_rfl) ?_
        refine v_val F rfl (fun w l => r_bloadA (cs := [.int .i64 x0.size, v14]) Try.isAgg81 Try.sizeOf81 F rfl (K12.thru l) rfl (fun j hj => by match j, hj with | 0, _ => rfl | 1, _ => rfl)) (fun a F => ?_)
        refine b_e 2 rfl (by kernel_rfl) ?_
        refine o_toA F rfl Try.call46 rfl (toTemplate_any _ _ _ _ (A0.go hB).r (A0.go hB).m (toq_some c22)) (fun a v80 b81 w l h82 o83 F => ?_)
        have d84 := Dj.new h36.m o83 (Nat.le_refl _)
        have d85 := Dj.new h41.m o83 (Nat.le_refl _)
        have d86 := Dj.new h63.m o83 (Nat.le_refl _)
        have d87 := Dj.new (inm1 K12) o83 (Nat.le_refl _)
        have d88 := Dj.new (inm1 K46) o83 (Nat.le_refl _)
        replace o83 := o83.mono hB.size
        replace hB := Below.through l hB
        replace h36 := h36.go l
        replace o37 := o37.go l
        replace h41 := h41.go l
        replace o42 := o42.go l
        replace h63 := h63.go l
        replace o64 := o64.go l
        replace K12 := K12.thru l
        replace K46 := K46.thru l
        refine x_end ?_
        refine x_tn ?_
        refine ⟨.inl l, ?_⟩
        refine b_e 3 rfl (by kernel_rfl) ?_
        obtain ⟨z89, c90, hR⟩ := bnd_some hR
        refine o_says F rfl Try.call48 rfl (eqq_says (fun y => Rd (Agg 2 RTemplate) _ _ y _) c90 h82 (fun hy => eqTemplate_any _ _ _ _ _ _ h41.r hy.r h41.m hy.m)) (fun a w l F => ?_)
        replace hB := Below.through l hB
        replace h36 := h36.go l
        replace o37 := o37.go l
        replace h41 := h41.go l
        replace o42 := o42.go l
        replace h63 := h63.go l
        replace o64 := o64.go l
        replace K12 := K12.thru l
        replace K46 := K46.thru l
        refine x_end ?_
        refine x_tn ?_
        refine ⟨.inl l, ?_⟩
        refine b_q 4 rfl (by kernel_rfl) (by kernel_rfl) (by kernel_rfl) (by kernel_rfl) ?_
        refine v_val F rfl (fun w l => r_not F rfl) (fun a F => ?_)
        refine b_end (by kernel_rfl) ?_
        refine x_tn ?_
        refine x_if F rfl (fun hb91 => ?_) (fun hb91 => ?_)
        · replace hR := ifT hb91 hR
          refine x_seq ?_
          refine x_reg ?_
          refine o_assign F rfl rfl (fun a F => ?_)
          refine x_end ?_
          refine x_tn ?_
          refine x_ret ?_
          refine x_tr ?_
          refine x_res1 F rfl (rv_t F rfl) ?_
          obtain rfl := Option.some.inj hR
          exact ⟨rfl, hB⟩
        · replace hR := ifF hb91 hR
          refine x_skip ?_
          refine x_tn ?_
          refine x_seq ?_
          refine x_reg ?_
          refine o_assign F rfl rfl (fun a F => ?_)
          refine x_end ?_
          refine x_tn ?_
          refine x_seq ?_
          refine x_reg ?_
          refine o_bloadA (cs := [.int .i64 x0.size, v51]) Try.isAgg87 Try.sizeOf87 F rfl rfl K46 rfl (fun j hj => by match j, hj with | 0, _ => rfl | 1, _ => rfl) (fun a F => ?_)
          refine o_move F rfl rfl (fun a F => ?_)
          obtain ⟨z92, c93, hR⟩ := bnd_some hR
          refine o_markA F rfl Try.call49 rfl (mkq_markA c93 (fun h0 h1 => markTemplate_any _ _ _ _ _ _ h41.r o42 h0 h1)) (fun a w l h94 o95 F => ?_)
          replace h36 := h36.goO l d43
          replace o37 := o37.goO l d43
          replace h63 := h63.goO l (Dj.symm d66)
          replace o64 := o64.goO l (Dj.symm d66)
          replace K12 := K12.only l (Dj.in1 d44)
          replace hB := hB.o l (Own.lo o42) hB.size
          have iz92 := mkq_i c93
          refine o_assign F rfl rfl (fun a F => ?_)
          refine x_end ?_
          refine x_tn ?_
          refine x_seq ?_
          refine x_seq ?_
          obtain ⟨o100, hR, hk101⟩ := thn_some hR
          refine x_cutQ (fun a w => ∃ (s103 : Bool), o100 = .nx s103 ∧ Sk a 96 [(1, .pointer (some ⟨b11, 0, none⟩)), (4, v30), (5, .int .i64 z28.2), (7, v57), (61, .bool s103)] ∧ Below w0.heap.size w0 w ∧ Rd (Sl 1 RInt) w v30 z28.1 (rb31 ++ []) ∧ Own w0.heap.size (rb31 ++ []) w ∧ Rd (Sl 1 RInt) w v57 z55.1 (rb58 ++ []) ∧ Own w0.heap.size (rb58 ++ []) w ∧ Blk w b11 #[.int .i64 x0.size, v14] 81) ?_ ?_
          · refine x_reg ?_
            refine o_move F rfl rfl (fun a F => ?_)
            refine o_lss F rfl rfl rfl (fun a F => ?_)
            refine o_move F rfl rfl (fun a F => ?_)
            rcases bcases (decide (z92 < 0)) with hb104 | hb104
            · replace hR := ifT hb104 hR
              have F := F.eq (t := 51) rfl (congrArg Value.bool hb104)
              refine o_no F rfl rfl (fun a F => ?_)
              refine o_no F rfl rfl (fun a F => ?_)
              refine o_no F rfl rfl (fun a F => ?_)
              refine o_no F rfl rfl (fun a F => ?_)
              refine o_pickt F rfl rfl rfl (fun a F => ?_)
              refine o_move F rfl rfl (fun a F => ?_)
              refine o_no F rfl rfl (fun a F => ?_)
              refine o_no F rfl rfl (fun a F => ?_)
              refine o_no F rfl rfl (fun a F => ?_)
              refine o_pickt F rfl rfl rfl (fun a F => ?_)
              refine x_end ?_
              refine x_tn ?_
              exact ⟨true, (Option.some.inj hR).symm, F.sub (sc rfl (sc rfl (sc rfl (sc rfl (sc rfl sn))))), hB, h36, o37, h63, o64, K12⟩
            · replace hR := ifF hb104 hR
              have F := F.eq (t := 51) rfl (congrArg Value.bool hb104)
              refine o_move F rfl rfl (fun a F => ?_)
              refine o_move F rfl rfl (fun a F => ?_)
              obtain ⟨z105, c106, hR⟩ := bnd_some hR
              refine o_says F rfl Try.call56 rfl (eqq_says (fun y => Rd (Sl 1 RInt) _ _ y _) c106 h36 (fun hy => eqInt64S_any _ _ _ _ _ _ h63.r hy.r h63.m hy.m)) (fun a w l F => ?_)
              replace hB := Below.through l hB
              replace h36 := h36.go l
              replace o37 := o37.go l
              replace h63 := h63.go l
              replace o64 := o64.go l
              replace K12 := K12.thru l
              refine o_not F rfl rfl (fun a F => ?_)
              refine o_pickf F rfl rfl rfl (fun a F => ?_)
              refine o_move F rfl rfl (fun a F => ?_)
              rcases bcases (!z105) with hb107 | hb107
              · replace hR := ifT hb107 hR
                have F := F.eq (t := 57) rfl (congrArg Value.bool hb107)
                refine o_no F rfl rfl (fun a F => ?_)
                refine o_no F rfl rfl (fun a F => ?_)
                refine o_no F rfl rfl (fun a F => ?_)
                refine o_pickt F rfl rfl rfl (fun a F => ?_)
                refine x_end ?_
                refine x_tn ?_
                exact ⟨true, (Option.some.inj hR).symm, F.sub (sc rfl (sc rfl (sc rfl (sc rfl (sc rfl sn))))), hB, h36, o37, h63, o64, K12⟩
              · replace hR := ifF hb107 hR
                have F := F.eq (t := 57) rfl (congrArg Value.bool hb107)
                refine o_move F rfl rfl (fun a F => ?_)
                refine o_move F rfl rfl (fun a F => ?_)
                refine o_neq F rfl rfl rfl (fun a F => ?_)
                refine o_pickf F rfl rfl rfl (fun a F => ?_)
                refine x_end ?_
                refine x_tn ?_
                exact ⟨(z55.2 != z28.2), (Option.some.inj hR).symm, F.sub (sc rfl (sc rfl (sc rfl (sc rfl (sc rfl sn))))), hB, h36, o37, h63, o64, K12⟩
          · intro a w ⟨s103, ho102, F, hB, h36, o37, h63, o64, K12⟩
            subst ho102
            have hR := then_nx hk101
            refine x_tn ?_
            refine x_if F rfl (fun hb108 => ?_) (fun hb108 => ?_)
            · replace hR := ifT hb108 hR
              refine x_seq ?_
              refine x_reg ?_
              refine o_assign F rfl rfl (fun a F => ?_)
              refine x_end ?_
              refine x_tn ?_
              refine x_ret ?_
              refine x_tr ?_
              refine x_res1 F rfl (rv_t F rfl) ?_
              obtain rfl := Option.some.inj hR
              exact ⟨rfl, hB⟩
            · replace hR := ifF hb108 hR
              refine x_skip ?_
              refine x_tn ?_
              refine x_seq ?_
              refine x_reg ?_
              refine o_assign F rfl rfl (fun a F => ?_)
              refine x_end ?_
              refine x_tn ?_
              refine x_seq ?_
              refine x_reg ?_
              refine o_move F rfl rfl (fun a F => ?_)
              refine o_move F rfl rfl (fun a F => ?_)
              obtain ⟨z109, c110, hR⟩ := bnd_some hR
              refine o_markS F rfl Try.call57 rfl (mkq_markS c110 (fun h0 h1 => markInt64S_any _ _ _ _ _ _ h63.r o64 h0 h1)) (fun a w l h111 o112 F => ?_)
              replace h36 := h36.goO l d65
              replace o37 := o37.goO l d65
              replace K12 := K12.only l (Dj.in1 d67)
              replace hB := hB.o l (Own.lo o64) hB.size
              have iz109 := mkq_i c110
              refine o_assign F rfl rfl (fun a F => ?_)
              refine x_end ?_
              refine x_tn ?_
              refine x_seq ?_
              refine x_reg ?_
              refine o_assign F rfl rfl (fun a F => ?_)
              refine x_end ?_
              refine x_tn ?_
              refine x_seq ?_
              refine x_reg ?_
              refine o_move F rfl rfl (fun a F => ?_)
              refine o_move F rfl rfl (fun a F => ?_)
              refine o_saysI F rfl Try.call58 rfl (mkq_says c110 (fun h0 h1 => heldInt64S_any _ _ _ _ _ h111.r h111.m h0 h1)) (fun a w l iz109 F => ?_)
              replace hB := Below.through l hB
              replace h36 := h36.go l
              replace o37 := o37.go l
              replace h111 := h111.go l
              replace o112 := o112.go l
              replace K12 := K12.thru l
              refine o_assign F rfl rfl (fun a F => ?_)
              refine x_end ?_
              refine x_tn ?_
              refine x_seq ?_
              refine x_seq ?_
              refine x_reg ?_
              refine o_move F rfl rfl (fun a F => ?_)
              refine o_lss F rfl rfl rfl (fun a F => ?_)
              refine x_end ?_
              refine x_tn ?_
              refine x_if F rfl (fun hb113 => ?_) (fun hb113 => ?_)
              · replace hR := ifT hb113 hR
                refine x_seq ?_
                refine x_reg ?_
                refine o_assign F rfl rfl (fun a F => ?_)
                refine x_end ?_
                refine x_tn ?_
                refine x_ret ?_
                refine x_tr ?_
                refine x_res1 F rfl (rv_t F rfl) ?_
                obtain rfl := Option.some.inj hR
                exact ⟨rfl, hB⟩
              · replace hR := ifF hb113 hR
                refine x_skip ?_
                refine x_tn ?_
                refine x_seq ?_
                refine x_seq ?_
                refine x_reg ?_
                refine o_move F rfl rfl (fun a F => ?_)
                refine o_move F rfl rfl (fun a F => ?_)
                refine o_neq F rfl rfl rfl (fun a F => ?_)
                refine x_end ?_
                refine x_tn ?_
                refine x_if F rfl (fun hb114 => ?_) (fun hb114 => ?_)
                · replace hR := ifT hb114 hR
                  refine x_seq ?_
                  refine x_reg ?_
                  refine o_assign F rfl rfl (fun a F => ?_)
                  refine x_end ?_
                  refine x_tn ?_
                  refine x_ret ?_
                  refine x_tr ?_
                  refine x_res1 F rfl (rv_t F rfl) ?_
                  obtain rfl := Option.some.inj hR
                  exact ⟨rfl, hB⟩
                · replace hR := ifF hb114 hR
                  refine x_skip ?_
                  refine x_tn ?_
                  refine x_seq ?_
                  refine x_reg ?_
                  refine o_bloadA (cs := [.int .i64 x0.size, v14]) Try.isAgg81 Try.sizeOf81 F rfl rfl K12 rfl (fun j hj => by match j, hj with | 0, _ => rfl | 1, _ => rfl) (fun a F => ?_)
                  refine o_toA F rfl Try.call46 rfl (toTemplate_any _ _ _ _ (A0.go hB).r (A0.go hB).m (toq_some c22)) (fun a v115 b116 w l h117 o118 F => ?_)
                  have d119 := Dj.new h36.m o118 (Nat.le_refl _)
                  have d120 := Dj.new h111.m o118 (Nat.le_refl _)
                  replace o118 := o118.mono hB.size
                  replace hB := Below.through l hB
                  replace h36 := h36.go l
                  replace o37 := o37.go l
                  replace h111 := h111.go l
                  replace o112 := o112.go l
                  refine o_gives F rfl Try.call55 rfl (impl_ClassesOf_c z55 c56 _ h117) (fun a vv w l ⟨v121, rb122, hv126, h124, i125⟩ F => ?_)
                  subst vv
                  have o128 := h124.own (Own.nil _ _)
                  have h127 := h124.rd
                  have d129 := Dj.new h36.m o128 (Nat.le_refl _)
                  have d130 := Dj.new h111.m o128 (Nat.le_refl _)
                  replace o128 := o128.mono hB.size
                  replace hB := Below.through l hB
                  replace h36 := h36.go l
                  replace o37 := o37.go l
                  replace h111 := h111.go l
                  replace o112 := o112.go l
                  refine o_move F rfl rfl (fun a F => ?_)
                  refine o_extract F rfl rfl rfl (fun a F => ?_)
                  refine o_extract F rfl rfl rfl (fun a F => ?_)
                  refine o_assign F rfl rfl (fun a F => ?_)
                  refine o_assign F rfl rfl (fun a F => ?_)
                  refine x_end ?_
                  refine x_tn ?_
                  refine x_seq ?_
                  refine x_seq ?_
                  obtain ⟨o134, hR, hk135⟩ := thn_some hR
                  refine x_cutQ (fun a w => ∃ (s137 : Bool), o134 = .nx s137 ∧ Sk a 96 [(7, v57), (10, .int .i64 z109), (87, .bool s137)] ∧ Below w0.heap.size w0 w ∧ Rd (Sl 1 RInt) w v57 (mkS mkI cI z55.1 1) (rb58 ++ []) ∧ Own w0.heap.size (rb58 ++ []) w) ?_ ?_
                  · refine x_reg ?_
                    refine o_move F rfl rfl (fun a F => ?_)
                    refine o_move F rfl rfl (fun a F => ?_)
                    obtain ⟨z138, c139, hR⟩ := bnd_some hR
                    refine o_says F rfl Try.call56 rfl (eqq_says (fun y => Rd (Sl 1 RInt) _ _ y _) c139 h36 (fun hy => eqInt64S_any _ _ _ _ _ _ h127.r hy.r h127.m hy.m)) (fun a w l F => ?_)
                    replace hB := Below.through l hB
                    replace h111 := h111.go l
                    replace o112 := o112.go l
                    refine o_not F rfl rfl (fun a F => ?_)
                    refine o_move F rfl rfl (fun a F => ?_)
                    rcases bcases (!z138) with hb140 | hb140
                    · replace hR := ifT hb140 hR
                      have F := F.eq (t := 83) rfl (congrArg Value.bool hb140)
                      refine o_no F rfl rfl (fun a F => ?_)
                      refine o_no F rfl rfl (fun a F => ?_)
                      refine o_no F rfl rfl (fun a F => ?_)
                      refine o_pickt F rfl rfl rfl (fun a F => ?_)
                      refine x_end ?_
                      refine x_tn ?_
                      exact ⟨true, (Option.some.inj hR).symm, F.sub (sc rfl (sc rfl (sc rfl sn))), hB, h111, o112⟩
                    · replace hR := ifF hb140 hR
                      have F := F.eq (t := 83) rfl (congrArg Value.bool hb140)
                      refine o_move F rfl rfl (fun a F => ?_)
                      refine o_move F rfl rfl (fun a F => ?_)
                      refine o_neq F rfl rfl rfl (fun a F => ?_)
                      refine o_pickf F rfl rfl rfl (fun a F => ?_)
                      refine x_end ?_
                      refine x_tn ?_
                      exact ⟨(z55.2 != z28.2), (Option.some.inj hR).symm, F.sub (sc rfl (sc rfl (sc rfl sn))), hB, h111, o112⟩
                  · intro a w ⟨s137, ho136, F, hB, h111, o112⟩
                    subst ho136
                    have hR := then_nx hk135
                    refine x_tn ?_
                    refine x_if F rfl (fun hb141 => ?_) (fun hb141 => ?_)
                    · replace hR := ifT hb141 hR
                      refine x_seq ?_
                      refine x_reg ?_
                      refine o_assign F rfl rfl (fun a F => ?_)
                      refine x_end ?_
                      refine x_tn ?_
                      refine x_ret ?_
                      refine x_tr ?_
                      refine x_res1 F rfl (rv_t F rfl) ?_
                      obtain rfl := Option.some.inj hR
                      exact ⟨rfl, hB⟩
                    · replace hR := ifF hb141 hR
                      refine x_skip ?_
                      refine x_tn ?_
                      refine x_seq ?_
                      refine x_reg ?_
                      refine o_assign F rfl rfl (fun a F => ?_)
                      refine x_end ?_
                      refine x_tn ?_
                      refine x_seq ?_
                      refine x_reg ?_
                      refine o_move F rfl rfl (fun a F => ?_)
                      refine o_move F rfl rfl (fun a F => ?_)
                      refine o_saysI F rfl Try.call58 rfl (mkq_says c110 (fun h0 h1 => heldInt64S_any _ _ _ _ _ h111.r h111.m h0 h1)) (fun a w l iz109 F => ?_)
                      replace hB := Below.through l hB
                      refine o_assign F rfl rfl (fun a F => ?_)
                      refine x_end ?_
                      refine x_tn ?_
                      refine x_seq ?_
                      refine x_seq ?_
                      refine x_reg ?_
                      refine o_move F rfl rfl (fun a F => ?_)
                      refine o_lss F rfl rfl rfl (fun a F => ?_)
                      refine x_end ?_
                      refine x_tn ?_
                      refine x_if F rfl (fun hb142 => ?_) (fun hb142 => ?_)
                      · replace hR := ifT hb142 hR
                        refine x_seq ?_
                        refine x_reg ?_
                        refine o_assign F rfl rfl (fun a F => ?_)
                        refine x_end ?_
                        refine x_tn ?_
                        refine x_ret ?_
                        refine x_tr ?_
                        refine x_res1 F rfl (rv_t F rfl) ?_
                        obtain rfl := Option.some.inj hR
                        exact ⟨rfl, hB⟩
                      · replace hR := ifF hb142 hR
                        refine x_skip ?_
                        refine x_tn ?_
                        refine x_seq ?_
                        refine x_seq ?_
                        refine x_reg ?_
                        refine o_move F rfl rfl (fun a F => ?_)
                        refine o_move F rfl rfl (fun a F => ?_)
                        refine o_neq F rfl rfl rfl (fun a F => ?_)
                        refine x_end ?_
                        refine x_tn ?_
                        refine x_if F rfl (fun hb143 => ?_) (fun hb143 => ?_)
                        · replace hR := ifT hb143 hR
                          refine x_seq ?_
                          refine x_reg ?_
                          refine o_assign F rfl rfl (fun a F => ?_)
                          refine x_end ?_
                          refine x_tn ?_
                          refine x_ret ?_
                          refine x_tr ?_
                          refine x_res1 F rfl (rv_t F rfl) ?_
                          obtain rfl := Option.some.inj hR
                          exact ⟨rfl, hB⟩
                        · replace hR := ifF hb143 hR
                          refine x_skip ?_
                          refine x_tn ?_
                          refine x_seq ?_
                          refine x_reg ?_
                          refine o_assign F rfl rfl (fun a F => ?_)
                          refine x_end ?_
                          refine x_tn ?_
                          refine x_ret ?_
                          refine x_res1 F rfl (rv_t F rfl) ?_
                          obtain rfl := Option.some.inj hR
                          exact ⟨rfl, hB⟩
end
end Go.Proofs.Ytmfichdcomaaeaa
