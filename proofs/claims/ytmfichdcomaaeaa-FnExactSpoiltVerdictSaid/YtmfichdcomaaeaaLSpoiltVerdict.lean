/-
  Laws of the program as plain functions, and that they compute them. Printed by lawfx.py.
-/
import Derived.Test.YtmfichdcomaaeaaX5
import Derived.Test.YtmfichdcomaaeaaY
import Derived.Test.YtmfichdcomaaeaaL1
import Derived.Test.YtmfichdcomaaeaaL2
import Derived.Test.YtmfichdcomaaeaaL3
import Derived.Test.YtmfichdcomaaeaaL4
import Derived.Test.YtmfichdcomaaeaaL5
namespace Go.Proofs.Ytmfichdcomaaeaa
set_option linter.unusedVariables false
set_option linter.unusedSimpArgs false
set_option maxRecDepth 100000
open Go.RowKit
noncomputable section
def laws_FnExactSpoiltVerdict (x0 : Verdict) : Option Bool :=
  bnd (szq 1048576 (x0.sz)) fun z27 =>
  if (decide (z27 < 0)) then
    some true
  else
    bnd (toq (x0.sz)) fun z30 =>
    bnd (spec_SpoiltVerdict x0) fun z37 =>
    bnd (impl_SpoiltVerdict x0) fun z105 =>
    bnd (eqq z105 z37) fun z168 =>
    if (!z168) then
      some false
    else
      bnd (eqq x0 x0) fun z182 =>
      if (!z182) then
        some false
      else
        bnd (mkq 1 (x0.cnt)) fun z185 =>
        thn (σ := Bool) (
          if (decide (z185 < 0)) then   some (.nx true) else   some (.nx (!z168))) fun s193 =>
        if s193 then
          some false
        else
          bnd (mkq 1 (z105.cnt)) fun z196 =>
          if (decide (z196 < 0)) then
            some false
          else
            if (z196 != z196) then
              some false
            else
              if (!z168) then
                some false
              else
                if (decide (z196 < 0)) then
                  some false
                else
                  if (z196 != z196) then
                    some false
                  else
                    some true
set_option maxHeartbeats 1000000 in
theorem laws_FnExactSpoiltVerdict_c {x0 : Verdict} (r : Bool) (hR : laws_FnExactSpoiltVerdict x0 = some r) {v0 : Value} {b0 : List Nat} (w0 : World) (A0 : Rd (Agg 5 RVerdict) w0 v0 x0 b0) : Calls Try.prog 8 #[v0] w0 (Says (.bool r) w0) := by
  unfold laws_FnExactSpoiltVerdict at hR
  refine x_enter (L := [(0, v0)]) Try.func8 rfl rfl rfl (sc rfl sn) (fun a F => ?_)
  have hB := Below.refl w0.heap.size w0
  refine x_seq ?_
  refine x_reg ?_
  obtain ⟨v14, v17, v20, v23, b15, b18, b21, b24, e26, i13, h16, h19, h22, h25, _⟩ := RVerdict.rd (A0.go hB)
  subst e26
  refine o_box F rfl rfl rfl (fun a w b11 K12 l BK12 F => ?_)
  have CK12 := Nat.le_trans hB.size BK12
  replace hB := Below.through l hB
  refine o_assign F rfl rfl (fun a F => ?_)
  refine x_end ?_
  refine x_tn ?_
  refine x_seq ?_
  refine x_reg ?_
  refine o_assign F rfl rfl (fun a F => ?_)
  refine x_end ?_
  refine x_tn ?_
  refine x_seq ?_
  refine x_reg ?_
  refine o_bloadA (cs := [.int .i64 x0.kind, v14, v17, v20, v23]) Try.isAgg68 Try.sizeOf68 F rfl rfl K12 rfl (fun j hj => by match j, hj with | 0, _ => rfl | 1, _ => rfl | 2, _ => rfl | 3, _ => rfl | 4, _ => rfl) (fun a F => ?_)
  refine o_move F rfl rfl (fun a F => ?_)
  obtain ⟨z27, c28, hR⟩ := bnd_some hR
  refine o_saysI F rfl Try.call37 rfl (szq_says c28 (fun h0 h1 => szVerdict_any _ _ _ _ _ (A0.go hB).r (A0.go hB).m h0 h1)) (fun a w l iz27 F => ?_)
  replace hB := Below.through l hB
  replace K12 := K12.thru l
  refine o_assign F rfl rfl (fun a F => ?_)
  refine x_end ?_
  refine x_tn ?_
  refine x_seq ?_
  refine x_seq ?_
  refine x_reg ?_
  refine o_move F rfl rfl (fun a F => ?_)
  refine o_lss F rfl rfl rfl (fun a F => ?_)
  refine x_end ?_
  refine x_tn ?_
  refine x_if F rfl (fun hb29 => ?_) (fun hb29 => ?_)
  · replace hR := ifT hb29 hR
    refine x_seq ?_
    refine x_reg ?_
    refine o_assign F rfl rfl (fun a F => ?_)
    refine x_end ?_
    refine x_tn ?_
    refine x_ret ?_
    refine x_tr ?_
    refine x_res1 F rfl (rv_t F rfl) ?_
    obtain rfl := Option.some.inj hR
    exact ⟨rfl, hB⟩
  · replace hR := ifF hb29 hR
    refine x_skip ?_
    refine x_tn ?_
    refine x_seq ?_
    refine x_reg ?_
    refine o_bloadA (cs := [.int .i64 x0.kind, v14, v17, v20, v23]) Try.isAgg68 Try.sizeOf68 F rfl rfl K12 rfl (fun j hj => by match j, hj with | 0, _ => rfl | 1, _ => rfl | 2, _ => rfl | 3, _ => rfl | 4, _ => rfl) (fun a F => ?_)
    obtain ⟨z30, c31, hR⟩ := bnd_some hR
    refine o_toA F rfl Try.call39 rfl (toVerdict_any _ _ _ _ (A0.go hB).r (A0.go hB).m (toq_some c31)) (fun a v32 b33 w l h34 o35 F => ?_)
    have d36 := Dj.new (inm1 K12) o35 (Nat.le_refl _)
    replace o35 := o35.mono hB.size
    replace hB := Below.through l hB
    replace K12 := K12.thru l
    obtain ⟨z37, c38, hR⟩ := bnd_some hR
    refine o_gives F rfl Try.call38 rfl (spec_SpoiltVerdict_c z37 c38 _ h34) (fun a vv w l ⟨v40, rb41, v44, b45, v47, b48, v50, b51, hv53, i39, h43, h46, h49, h52⟩ F => ?_)
    subst vv
    have o55 := h43.own (Own.nil _ _)
    have h54 := h43.rd
    have h56 := RVerdict.mk2 (w := w) i39 h54 h46 h49 h52
    replace hB := Below.through l hB
    replace K12 := K12.thru l
    refine o_alloc Try.zeroValue73 F rfl rfl (fun a w b57 K58 l BK58 F => ?_)
    have nb59 := Dj.bb K12 BK58
    have d60 := (dj1 h46.m BK58).symm
    have d61 := (dj1 h49.m BK58).symm
    have d62 := (dj1 h52.m BK58).symm
    have d63 := (dj1 h56.m BK58).symm
    have CK58 := Nat.le_trans hB.size BK58
    replace hB := Below.through l hB
    replace h56 := h56.go l
    replace K12 := K12.thru l
    refine o_bstoreA (vs := [.int .i64 z37.kind, v40, v44, v47, v50]) Try.sizeOf73 F rfl rfl rfl K58 (oc rfl (oc h54.r.one (oc h46.r.one (oc h49.r.one (oc h52.r.one on))))) (Nat.le_of_ble_eq_true rfl) rfl (fun w K58 l => ?_)
    replace hB := hB.o l (fun c hc => by rw [List.mem_singleton] at hc; rw [hc]; exact CK58) hB.size
    replace h56 := h56.goO l d63
    replace K12 := K12.only l (by simpa using nb59)
    refine x_end ?_
    refine x_tn ?_
    refine x_seq ?_
    refine x_reg ?_
    refine o_bloadA (cs := [.int .i64 x0.kind, v14, v17, v20, v23]) Try.isAgg68 Try.sizeOf68 F rfl rfl K12 rfl (fun j hj => by match j, hj with | 0, _ => rfl | 1, _ => rfl | 2, _ => rfl | 3, _ => rfl | 4, _ => rfl) (fun a F => ?_)
    refine o_toA F rfl Try.call39 rfl (toVerdict_any _ _ _ _ (A0.go hB).r (A0.go hB).m (toq_some c31)) (fun a v78 b79 w l h80 o81 F => ?_)
    have d82 := Dj.new h56.m o81 (Nat.le_refl _)
    have d83 := Dj.new (inm1 K12) o81 (Nat.le_refl _)
    have d84 := Dj.new (inm1 K58) o81 (Nat.le_refl _)
    replace o81 := o81.mono hB.size
    replace hB := Below.through l hB
    replace h56 := h56.go l
    replace K12 := K12.thru l
    replace K58 := K58.thru l
    refine o_alloc Try.zeroValue73 F rfl rfl (fun a w b85 K86 l BK86 F => ?_)
    have nb87 := Dj.bb K12 BK86
    have nb88 := Dj.bb K58 BK86
    have d89 := (dj1 h56.m BK86).symm
    have d90 := (dj1 h80.m BK86).symm
    have CK86 := Nat.le_trans hB.size BK86
    replace hB := Below.through l hB
    replace h56 := h56.go l
    replace h80 := h80.go l
    replace o81 := o81.go l
    replace K12 := K12.thru l
    replace K58 := K58.thru l
    obtain ⟨v92, v95, v98, v101, b93, b96, b99, b102, e104, i91, h94, h97, h100, h103, _⟩ := RVerdict.rd h80
    subst e104
    refine o_bstoreA (vs := [.int .i64 x0.kind, v92, v95, v98, v101]) Try.sizeOf73 F rfl rfl rfl K86 (oc rfl (oc h94.r.one (oc h97.r.one (oc h100.r.one (oc h103.r.one on))))) (Nat.le_of_ble_eq_true rfl) rfl (fun w K86 l => ?_)
    replace hB := hB.o l (fun c hc => by rw [List.mem_singleton] at hc; rw [hc]; exact CK86) hB.size
    replace h56 := h56.goO l d89
    replace h80 := h80.goO l d90
    replace o81 := o81.goO l d90
    replace K12 := K12.only l (by simpa using nb87)
    replace K58 := K58.only l (by simpa using nb88)
    refine x_end ?_
    refine x_tn ?_
    refine x_seq ?_
    refine x_reg ?_
    refine o_bloadA (cs := [.int .i64 x0.kind, v92, v95, v98, v101]) Try.isAgg73 Try.sizeOf73 F rfl rfl K86 rfl (fun j hj => by match j, hj with | 0, _ => rfl | 1, _ => rfl | 2, _ => rfl | 3, _ => rfl | 4, _ => rfl) (fun a F => ?_)
    obtain ⟨z105, c106, hR⟩ := bnd_some hR
    refine o_gives F rfl Try.call40 rfl (impl_SpoiltVerdict_c z105 c106 _ h80) (fun a vv w l ⟨v108, rb109, v112, rb113, v116, rb117, v120, rb121, hv124, i107, h111, h115, h119, h123, dj125, dj126, dj127, dj128, dj129, dj130⟩ F => ?_)
    subst vv
    have o132 := h111.own (Own.nil _ _)
    have h131 := h111.rd
    have o134 := h115.own (Own.nil _ _)
    have h133 := h115.rd
    have o136 := h119.own (Own.nil _ _)
    have h135 := h119.rd
    have o138 := h123.own (Own.nil _ _)
    have h137 := h123.rd
    have h139 := RVerdict.mk2 (w := w) i107 h131 h133 h135 h137
    have o140 := (Own.append (Own.append (Own.append o132 o134 dj125) o136 (Dj.app' dj126 dj128)) o138 (Dj.app' (Dj.app' dj127 dj129) dj130))
    have d141 := Dj.new h56.m o140 (Nat.le_refl _)
    have d142 := Dj.new h80.m o140 (Nat.le_refl _)
    have d143 := Dj.new (inm1 K12) o140 (Nat.le_refl _)
    have d144 := Dj.new (inm1 K58) o140 (Nat.le_refl _)
    have d145 := Dj.new (inm1 K86) o140 (Nat.le_refl _)
    replace o140 := o140.mono hB.size
    replace hB := Below.through l hB
    replace h56 := h56.go l
    replace h80 := h80.go l
    replace o81 := o81.go l
    replace K12 := K12.thru l
    replace K58 := K58.thru l
    replace K86 := K86.thru l
    refine o_alloc Try.zeroValue73 F rfl rfl (fun a w b146 K147 l BK147 F => ?_)
    have nb148 := Dj.bb K12 BK147
    have nb149 := Dj.bb K58 BK147
    have nb150 := Dj.bb K86 BK147
    have d151 := (dj1 h56.m BK147).symm
    have d152 := (dj1 h80.m BK147).symm
    have d153 := (dj1 h139.m BK147).symm
    have CK147 := Nat.le_trans hB.size BK147
    replace hB := Below.through l hB
    replace h56 := h56.go l
    replace h80 := h80.go l
    replace o81 := o81.go l
    replace h139 := h139.go l
    replace o140 := o140.go l
    replace K12 := K12.thru l
    replace K58 := K58.thru l
    replace K86 := K86.thru l
    refine o_bstoreA (vs := [.int .i64 z105.kind, v108, v112, v116, v120]) Try.sizeOf73 F rfl rfl rfl K147 (oc rfl (oc h131.r.one (oc h133.r.one (oc h135.r.one (oc h137.r.one on))))) (Nat.le_of_ble_eq_true rfl) rfl (fun w K147 l => ?_)
    replace hB := hB.o l (fun c hc => by rw [List.mem_singleton] at hc; rw [hc]; exact CK147) hB.size
    replace h56 := h56.goO l d151
    replace h80 := h80.goO l d152
    replace o81 := o81.goO l d152
    replace h139 := h139.goO l d153
    replace o140 := o140.goO l d153
    replace K12 := K12.only l (by simpa using nb148)
    replace K58 := K58.only l (by simpa using nb149)
    replace K86 := K86.only l (by simpa using nb150)
    refine x_end ?_
    refine x_tn ?_
    refine x_seq ?_
    refine x_seq ?_
    refine x_reg ?_
    refine o_bloadA (cs := [.int .i64 z105.kind, v108, v112, v116, v120]) Try.isAgg73 Try.sizeOf73 F rfl rfl K147 rfl (fun j hj => by match j, hj with | 0, _ => rfl | 1, _ => rfl | 2, _ => rfl | 3, _ => rfl | 4, _ => rfl) (fun a F => ?_)
    refine o_bloadA (cs := [.int .i64 z37.kind, v40, v44, v47, v50]) Try.isAgg73 Try.sizeOf73 F rfl rfl K58 rfl (fun j hj => by match j, hj with | 0, _ => rfl | 1, _ => rfl | 2, _ => rfl | 3, _ => rfl | 4, _ => rfl) (fun a F => ?_)
    obtain ⟨z168, c169, hR⟩ := bnd_some hR
    refine o_says F rfl Try.call41 rfl (eqq_says (fun y => Rd (Agg 5 RVerdict) _ _ y _) c169 h56 (fun hy => eqVerdict_any _ _ _ _ _ _ h139.r hy.r h139.m hy.m)) (fun a w l F => ?_)
    replace hB := Below.through l hB
    replace h56 := h56.go l
    replace h80 := h80.go l
    replace o81 := o81.go l
    replace h139 := h139.go l
    replace o140 := o140.go l
    replace K12 := K12.thru l
    replace K58 := K58.thru l
    replace K86 := K86.thru l
    replace K147 := K147.thru l
    refine o_not F rfl rfl (fun a F => ?_)
    refine x_end ?_
    refine x_tn ?_
    refine x_if F rfl (fun hb170 => ?_) (fun hb170 => ?_)
    · replace hR := ifT hb170 hR
      refine x_seq ?_
      refine x_reg ?_
      refine o_assign F rfl rfl (fun a F => ?_)
      refine x_end ?_
      refine x_tn ?_
      refine x_ret ?_
      refine x_tr ?_
      refine x_res1 F rfl (rv_t F rfl) ?_
      obtain rfl := Option.some.inj hR
      exact ⟨rfl, hB⟩
    · replace hR := ifF hb170 hR
      refine x_skip ?_
      refine x_tn ?_
      refine x_seq ?_
      refine x_seq ?_
      refine x_drawn (by kernel_rfl) (fun w l => ?_)
      replace hB := Below.through l hB
      replace h56 := h56.go l
      replace h80 := h80.go l
      replace o81 := o81.go l
      replace h139 := h139.go l
      replace o140 := o140.go l
      replace K12 := K12.thru l
      replace K58 := K58.thru l
      replace K86 := K86.thru l
      replace K147 := K147.thru l
      refine b_q 0 rfl (by kernel_rfl) (by kernel_rfl) (by kernel_rfl) (by kernel_rfl) ?_
      refine v_val F rfl (fun w l => r_bloadA (cs := [.int .i64 x0.kind, v92, v95, v98, v101]) Try.isAgg73 Try.sizeOf73 F rfl (K86.thru l) rfl (fun j hj => by match j, hj with | 0, _ => rfl | 1, _ => rfl | 2, _ => rfl | 3, _ => rfl | 4, _ => rfl)) (fun a F => ?_)
      refine b_q 1 rfl (by kernel_rfl) (by kernel_rfl) (by kernel_rfl) (by kernel_rfl) ?_
      refine v_val F rfl (fun w l => r_bloadA (cs := [.int .i64 x0.kind, v14, v17, v20, v23]) Try.isAgg68 Try.sizeOf68 F rfl (K12.thru l) rfl (fun j hj => by match j, hj with | 0, _ => rfl | 1, _ => rfl | 2, _ => rfl | 3, _ => rfl | 4, _ => rfl)) (fun a F => ?_)
      refine b_e 2 rfl (by kernel_rfl) ?_
      refine o_toA F rfl Try.call39 rfl (toVerdict_any _ _ _ _ (A0.go hB).r (A0.go hB).m (toq_some c31)) (fun a v171 b172 w l h173 o174 F => ?_)
      have d175 := Dj.new h56.m o174 (Nat.le_refl _)
      have d176 := Dj.new h80.m o174 (Nat.le_refl _)
      have d177 := Dj.new h139.m o174 (Nat.le_refl _)
      have d178 := Dj.new (inm1 K12) o174 (Nat.le_refl _)
      have d179 := Dj.new (inm1 K58) o174 (Nat.le_refl _)
      have d180 := Dj.new (inm1 K86) o174 (Nat.le_refl _)
      have d181 := Dj.new (inm1 K147) o174 (Nat.le_refl _)
      replace o174 := o174.mono hB.size
      replace hB := Below.through l hB
      replace h56 := h56.go l
      replace h80 := h80.go l
      replace o81 := o81.go l
      replace h139 := h139.go l
      replace o140 := o140.go l
      replace K12 := K12.thru l
      replace K58 := K58.thru l
      replace K86 := K86.thru l
      replace K147 := K147.thru l
      refine x_end ?_
      refine x_tn ?_
      refine ⟨.inl l, ?_⟩
      refine b_e 3 rfl (by kernel_rfl) ?_
      obtain ⟨z182, c183, hR⟩ := bnd_some hR
      refine o_says F rfl Try.call41 rfl (eqq_says (fun y => Rd (Agg 5 RVerdict) _ _ y _) c183 h173 (fun hy => eqVerdict_any _ _ _ _ _ _ h80.r hy.r h80.m hy.m)) (fun a w l F => ?_)
      replace hB := Below.through l hB
      replace h56 := h56.go l
      replace h80 := h80.go l
      replace o81 := o81.go l
      replace h139 := h139.go l
      replace o140 := o140.go l
      replace K12 := K12.thru l
      replace K58 := K58.thru l
      replace K86 := K86.thru l
      replace K147 := K147.thru l
      refine x_end ?_
      refine x_tn ?_
      refine ⟨.inl l, ?_⟩
      refine b_q 4 rfl (by kernel_rfl) (by kernel_rfl) (by kernel_rfl) (by kernel_rfl) ?_
      refine v_val F rfl (fun w l => r_not F rfl) (fun a F => ?_)
      refine b_end (by kernel_rfl) ?_
      refine x_tn ?_
      refine x_if F rfl (fun hb184 => ?_) (fun hb184 => ?_)
      · replace hR := ifT hb184 hR
        refine x_seq ?_
        refine x_reg ?_
        refine o_assign F rfl rfl (fun a F => ?_)
        refine x_end ?_
        refine x_tn ?_
        refine x_ret ?_
        refine x_tr ?_
        refine x_res1 F rfl (rv_t F rfl) ?_
        obtain rfl := Option.some.inj hR
        exact ⟨rfl, hB⟩
      · replace hR := ifF hb184 hR
        refine x_skip ?_
        refine x_tn ?_
        refine x_seq ?_
        refine x_reg ?_
        refine o_assign F rfl rfl (fun a F => ?_)
        refine x_end ?_
        refine x_tn ?_
        refine x_seq ?_
        refine x_reg ?_
        refine o_bloadA (cs := [.int .i64 x0.kind, v92, v95, v98, v101]) Try.isAgg73 Try.sizeOf73 F rfl rfl K86 rfl (fun j hj => by match j, hj with | 0, _ => rfl | 1, _ => rfl | 2, _ => rfl | 3, _ => rfl | 4, _ => rfl) (fun a F => ?_)
        refine o_move F rfl rfl (fun a F => ?_)
        obtain ⟨z185, c186, hR⟩ := bnd_some hR
        refine o_markA F rfl Try.call42 rfl (mkq_markA c186 (fun h0 h1 => markVerdict_any _ _ _ _ _ _ h80.r o81 h0 h1)) (fun a w l h187 o188 F => ?_)
        replace h56 := h56.goO l d82
        replace h139 := h139.goO l (Dj.symm d142)
        replace o140 := o140.goO l (Dj.symm d142)
        replace K12 := K12.only l (Dj.in1 d83)
        replace K58 := K58.only l (Dj.in1 d84)
        replace K147 := K147.only l (Dj.in1 (Dj.symm d152))
        replace hB := hB.o l (Own.lo o81) hB.size
        have iz185 := mkq_i c186
        refine o_assign F rfl rfl (fun a F => ?_)
        refine x_end ?_
        refine x_tn ?_
        refine x_seq ?_
        refine x_seq ?_
        obtain ⟨o190, hR, hk191⟩ := thn_some hR
        refine x_cutQ (fun a w => ∃ (s193 : Bool), o190 = .nx s193 ∧ Sk a 69 [(1, .pointer (some ⟨b11, 0, none⟩)), (4, .pointer (some ⟨b57, 0, none⟩)), (6, .pointer (some ⟨b146, 0, none⟩)), (42, .bool s193)] ∧ Below w0.heap.size w0 w ∧ Rd (Agg 5 RVerdict) w (.agg #[.int .i64 z37.kind, v40, v44, v47, v50]) z37 ((rb41 ++ []) ++ b45 ++ b48 ++ b51) ∧ Rd (Agg 5 RVerdict) w (.agg #[.int .i64 z105.kind, v108, v112, v116, v120]) z105 ((rb109 ++ []) ++ (rb113 ++ []) ++ (rb117 ++ []) ++ (rb121 ++ [])) ∧ Own w0.heap.size ((rb109 ++ []) ++ (rb113 ++ []) ++ (rb117 ++ []) ++ (rb121 ++ [])) w ∧ Blk w b11 #[.int .i64 x0.kind, v14, v17, v20, v23] 68 ∧ Blk w b57 #[.int .i64 z37.kind, v40, v44, v47, v50] 73 ∧ Blk w b146 #[.int .i64 z105.kind, v108, v112, v116, v120] 73) ?_ ?_
        · refine x_reg ?_
          refine o_move F rfl rfl (fun a F => ?_)
          refine o_lss F rfl rfl rfl (fun a F => ?_)
          refine o_move F rfl rfl (fun a F => ?_)
          rcases bcases (decide (z185 < 0)) with hb194 | hb194
          · replace hR := ifT hb194 hR
            have F := F.eq (t := 37) rfl (congrArg Value.bool hb194)
            refine o_no F rfl rfl (fun a F => ?_)
            refine o_no F rfl rfl (fun a F => ?_)
            refine o_no F rfl rfl (fun a F => ?_)
            refine o_no F rfl rfl (fun a F => ?_)
            refine o_pickt F rfl rfl rfl (fun a F => ?_)
            refine x_end ?_
            refine x_tn ?_
            exact ⟨true, (Option.some.inj hR).symm, F.sub (sc rfl (sc rfl (sc rfl (sc rfl sn)))), hB, h56, h139, o140, K12, K58, K147⟩
          · replace hR := ifF hb194 hR
            have F := F.eq (t := 37) rfl (congrArg Value.bool hb194)
            refine o_bloadA (cs := [.int .i64 z105.kind, v108, v112, v116, v120]) Try.isAgg73 Try.sizeOf73 F rfl rfl K147 rfl (fun j hj => by match j, hj with | 0, _ => rfl | 1, _ => rfl | 2, _ => rfl | 3, _ => rfl | 4, _ => rfl) (fun a F => ?_)
            refine o_bloadA (cs := [.int .i64 z37.kind, v40, v44, v47, v50]) Try.isAgg73 Try.sizeOf73 F rfl rfl K58 rfl (fun j hj => by match j, hj with | 0, _ => rfl | 1, _ => rfl | 2, _ => rfl | 3, _ => rfl | 4, _ => rfl) (fun a F => ?_)
            refine o_says F rfl Try.call41 rfl (eqq_says (fun y => Rd (Agg 5 RVerdict) _ _ y _) c169 h56 (fun hy => eqVerdict_any _ _ _ _ _ _ h139.r hy.r h139.m hy.m)) (fun a w l F => ?_)
            replace hB := Below.through l hB
            replace h56 := h56.go l
            replace h139 := h139.go l
            replace o140 := o140.go l
            replace K12 := K12.thru l
            replace K58 := K58.thru l
            replace K147 := K147.thru l
            refine o_not F rfl rfl (fun a F => ?_)
            refine o_pickf F rfl rfl rfl (fun a F => ?_)
            refine x_end ?_
            refine x_tn ?_
            exact ⟨(!z168), (Option.some.inj hR).symm, F.sub (sc rfl (sc rfl (sc rfl (sc rfl sn)))), hB, h56, h139, o140, K12, K58, K147⟩
        · intro a w ⟨s193, ho192, F, hB, h56, h139, o140, K12, K58, K147⟩
          subst ho192
          have hR := then_nx hk191
          refine x_tn ?_
          refine x_if F rfl (fun hb195 => ?_) (fun hb195 => ?_)
          · replace hR := ifT hb195 hR
            refine x_seq ?_
            refine x_reg ?_
            refine o_assign F rfl rfl (fun a F => ?_)
            refine x_end ?_
            refine x_tn ?_
            refine x_ret ?_
            refine x_tr ?_
            refine x_res1 F rfl (rv_t F rfl) ?_
            obtain rfl := Option.some.inj hR
            exact ⟨rfl, hB⟩
          · replace hR := ifF hb195 hR
            refine x_skip ?_
            refine x_tn ?_
            refine x_seq ?_
            refine x_reg ?_
            refine o_assign F rfl rfl (fun a F => ?_)
            refine x_end ?_
            refine x_tn ?_
            refine x_seq ?_
            refine x_reg ?_
            refine o_bloadA (cs := [.int .i64 z105.kind, v108, v112, v116, v120]) Try.isAgg73 Try.sizeOf73 F rfl rfl K147 rfl (fun j hj => by match j, hj with | 0, _ => rfl | 1, _ => rfl | 2, _ => rfl | 3, _ => rfl | 4, _ => rfl) (fun a F => ?_)
            refine o_move F rfl rfl (fun a F => ?_)
            obtain ⟨z196, c197, hR⟩ := bnd_some hR
            refine o_markA F rfl Try.call42 rfl (mkq_markA c197 (fun h0 h1 => markVerdict_any _ _ _ _ _ _ h139.r o140 h0 h1)) (fun a w l h198 o199 F => ?_)
            replace h56 := h56.goO l d141
            replace K12 := K12.only l (Dj.in1 d143)
            replace K58 := K58.only l (Dj.in1 d144)
            replace K147 := K147.only l (Dj.in1 (Dj.symm d153))
            replace hB := hB.o l (Own.lo o140) hB.size
            have iz196 := mkq_i c197
            refine o_assign F rfl rfl (fun a F => ?_)
            refine x_end ?_
            refine x_tn ?_
            refine x_seq ?_
            refine x_reg ?_
            refine o_assign F rfl rfl (fun a F => ?_)
            refine x_end ?_
            refine x_tn ?_
            refine x_seq ?_
            refine x_reg ?_
            refine o_bloadA (cs := [.int .i64 z105.kind, v108, v112, v116, v120]) Try.isAgg73 Try.sizeOf73 F rfl rfl K147 rfl (fun j hj => by match j, hj with | 0, _ => rfl | 1, _ => rfl | 2, _ => rfl | 3, _ => rfl | 4, _ => rfl) (fun a F => ?_)
            refine o_move F rfl rfl (fun a F => ?_)
            refine o_saysI F rfl Try.call43 rfl (mkq_says c197 (fun h0 h1 => heldVerdict_any _ _ _ _ _ h198.r h198.m h0 h1)) (fun a w l iz196 F => ?_)
            replace hB := Below.through l hB
            replace h56 := h56.go l
            replace h198 := h198.go l
            replace o199 := o199.go l
            replace K12 := K12.thru l
            replace K58 := K58.thru l
            replace K147 := K147.thru l
            refine o_assign F rfl rfl (fun a F => ?_)
            refine x_end ?_
            refine x_tn ?_
            refine x_seq ?_
            refine x_seq ?_
            refine x_reg ?_
            refine o_move F rfl rfl (fun a F => ?_)
            refine o_lss F rfl rfl rfl (fun a F => ?_)
            refine x_end ?_
            refine x_tn ?_
            refine x_if F rfl (fun hb200 => ?_) (fun hb200 => ?_)
            · replace hR := ifT hb200 hR
              refine x_seq ?_
              refine x_reg ?_
              refine o_assign F rfl rfl (fun a F => ?_)
              refine x_end ?_
              refine x_tn ?_
              refine x_ret ?_
              refine x_tr ?_
              refine x_res1 F rfl (rv_t F rfl) ?_
              obtain rfl := Option.some.inj hR
              exact ⟨rfl, hB⟩
            · replace hR := ifF hb200 hR
              refine x_skip ?_
              refine x_tn ?_
              refine x_seq ?_
              refine x_seq ?_
              refine x_reg ?_
              refine o_move F rfl rfl (fun a F => ?_)
              refine o_move F rfl rfl (fun a F => ?_)
              refine o_neq F rfl rfl rfl (fun a F => ?_)
              refine x_end ?_
              refine x_tn ?_
              refine x_if F rfl (fun hb201 => ?_) (fun hb201 => ?_)
              · replace hR := ifT hb201 hR
                refine x_seq ?_
                refine x_reg ?_
                refine o_assign F rfl rfl (fun a F => ?_)
                refine x_end ?_
                refine x_tn ?_
                refine x_ret ?_
                refine x_tr ?_
                refine x_res1 F rfl (rv_t F rfl) ?_
                obtain rfl := Option.some.inj hR
                exact ⟨rfl, hB⟩
              · replace hR := ifF hb201 hR
                refine x_skip ?_
                refine x_tn ?_
                refine x_seq ?_
                refine x_reg ?_
                refine o_bloadA (cs := [.int .i64 x0.kind, v14, v17, v20, v23]) Try.isAgg68 Try.sizeOf68 F rfl rfl K12 rfl (fun j hj => by match j, hj with | 0, _ => rfl | 1, _ => rfl | 2, _ => rfl | 3, _ => rfl | 4, _ => rfl) (fun a F => ?_)
                refine o_toA F rfl Try.call39 rfl (toVerdict_any _ _ _ _ (A0.go hB).r (A0.go hB).m (toq_some c31)) (fun a v202 b203 w l h204 o205 F => ?_)
                have d206 := Dj.new h56.m o205 (Nat.le_refl _)
                have d207 := Dj.new h198.m o205 (Nat.le_refl _)
                have d208 := Dj.new (inm1 K58) o205 (Nat.le_refl _)
                have d209 := Dj.new (inm1 K147) o205 (Nat.le_refl _)
                replace o205 := o205.mono hB.size
                replace hB := Below.through l hB
                replace h56 := h56.go l
                replace h198 := h198.go l
                replace o199 := o199.go l
                replace K58 := K58.thru l
                replace K147 := K147.thru l
                refine o_gives F rfl Try.call40 rfl (impl_SpoiltVerdict_c z105 c106 _ h204) (fun a vv w l ⟨v211, rb212, v215, rb216, v219, rb220, v223, rb224, hv227, i210, h214, h218, h222, h226, dj228, dj229, dj230, dj231, dj232, dj233⟩ F => ?_)
                subst vv
                have o235 := h214.own (Own.nil _ _)
                have h234 := h214.rd
                have o237 := h218.own (Own.nil _ _)
                have h236 := h218.rd
                have o239 := h222.own (Own.nil _ _)
                have h238 := h222.rd
                have o241 := h226.own (Own.nil _ _)
                have h240 := h226.rd
                have h242 := RVerdict.mk2 (w := w) i210 h234 h236 h238 h240
                have o243 := (Own.append (Own.append (Own.append o235 o237 dj228) o239 (Dj.app' dj229 dj231)) o241 (Dj.app' (Dj.app' dj230 dj232) dj233))
                have d244 := Dj.new h56.m o243 (Nat.le_refl _)
                have d245 := Dj.new h198.m o243 (Nat.le_refl _)
                have d246 := Dj.new (inm1 K58) o243 (Nat.le_refl _)
                have d247 := Dj.new (inm1 K147) o243 (Nat.le_refl _)
                replace o243 := o243.mono hB.size
                replace hB := Below.through l hB
                replace h56 := h56.go l
                replace h198 := h198.go l
                replace o199 := o199.go l
                replace K58 := K58.thru l
                replace K147 := K147.thru l
                refine o_alloc Try.zeroValue73 F rfl rfl (fun a w b248 K249 l BK249 F => ?_)
                have nb250 := Dj.bb K58 BK249
                have nb251 := Dj.bb K147 BK249
                have d252 := (dj1 h56.m BK249).symm
                have d253 := (dj1 h198.m BK249).symm
                have d254 := (dj1 h242.m BK249).symm
                have CK249 := Nat.le_trans hB.size BK249
                replace hB := Below.through l hB
                replace h56 := h56.go l
                replace h198 := h198.go l
                replace o199 := o199.go l
                replace h242 := h242.go l
                replace o243 := o243.go l
                replace K58 := K58.thru l
                replace K147 := K147.thru l
                refine o_bstoreA (vs := [.int .i64 z105.kind, v211, v215, v219, v223]) Try.sizeOf73 F rfl rfl rfl K249 (oc rfl (oc h234.r.one (oc h236.r.one (oc h238.r.one (oc h240.r.one on))))) (Nat.le_of_ble_eq_true rfl) rfl (fun w K249 l => ?_)
                replace hB := hB.o l (fun c hc => by rw [List.mem_singleton] at hc; rw [hc]; exact CK249) hB.size
                replace h56 := h56.goO l d252
                replace h198 := h198.goO l d253
                replace o199 := o199.goO l d253
                replace h242 := h242.goO l d254
                replace o243 := o243.goO l d254
                replace K58 := K58.only l (by simpa using nb250)
                replace K147 := K147.only l (by simpa using nb251)
                refine x_end ?_
                refine x_tn ?_
                refine x_seq ?_
                refine x_seq ?_
                refine x_reg ?_
                refine o_bloadA (cs := [.int .i64 z105.kind, v211, v215, v219, v223]) Try.isAgg73 Try.sizeOf73 F rfl rfl K249 rfl (fun j hj => by match j, hj with | 0, _ => rfl | 1, _ => rfl | 2, _ => rfl | 3, _ => rfl | 4, _ => rfl) (fun a F => ?_)
                refine o_bloadA (cs := [.int .i64 z37.kind, v40, v44, v47, v50]) Try.isAgg73 Try.sizeOf73 F rfl rfl K58 rfl (fun j hj => by match j, hj with | 0, _ => rfl | 1, _ => rfl | 2, _ => rfl | 3, _ => rfl | 4, _ => rfl) (fun a F => ?_)
                refine o_says F rfl Try.call41 rfl (eqq_says (fun y => Rd (Agg 5 RVerdict) _ _ y _) c169 h56 (fun hy => eqVerdict_any _ _ _ _ _ _ h242.r hy.r h242.m hy.m)) (fun a w l F => ?_)
                replace hB := Below.through l hB
                replace h198 := h198.go l
                replace o199 := o199.go l
                replace K147 := K147.thru l
                refine o_not F rfl rfl (fun a F => ?_)
                refine x_end ?_
                refine x_tn ?_
                refine x_if F rfl (fun hb269 => ?_) (fun hb269 => ?_)
                · replace hR := ifT hb269 hR
                  refine x_seq ?_
                  refine x_reg ?_
                  refine o_assign F rfl rfl (fun a F => ?_)
                  refine x_end ?_
                  refine x_tn ?_
                  refine x_ret ?_
                  refine x_tr ?_
                  refine x_res1 F rfl (rv_t F rfl) ?_
                  obtain rfl := Option.some.inj hR
                  exact ⟨rfl, hB⟩
                · replace hR := ifF hb269 hR
                  refine x_skip ?_
                  refine x_tn ?_
                  refine x_seq ?_
                  refine x_reg ?_
                  refine o_assign F rfl rfl (fun a F => ?_)
                  refine x_end ?_
                  refine x_tn ?_
                  refine x_seq ?_
                  refine x_reg ?_
                  refine o_bloadA (cs := [.int .i64 z105.kind, v108, v112, v116, v120]) Try.isAgg73 Try.sizeOf73 F rfl rfl K147 rfl (fun j hj => by match j, hj with | 0, _ => rfl | 1, _ => rfl | 2, _ => rfl | 3, _ => rfl | 4, _ => rfl) (fun a F => ?_)
                  refine o_move F rfl rfl (fun a F => ?_)
                  refine o_saysI F rfl Try.call43 rfl (mkq_says c197 (fun h0 h1 => heldVerdict_any _ _ _ _ _ h198.r h198.m h0 h1)) (fun a w l iz196 F => ?_)
                  replace hB := Below.through l hB
                  refine o_assign F rfl rfl (fun a F => ?_)
                  refine x_end ?_
                  refine x_tn ?_
                  refine x_seq ?_
                  refine x_seq ?_
                  refine x_reg ?_
                  refine o_move F rfl rfl (fun a F => ?_)
                  refine o_lss F rfl rfl rfl (fun a F => ?_)
                  refine x_end ?_
                  refine x_tn ?_
                  refine x_if F rfl (fun hb270 => ?_) (fun hb270 => ?_)
                  · replace hR := ifT hb270 hR
                    refine x_seq ?_
                    refine x_reg ?_
                    refine o_assign F rfl rfl (fun a F => ?_)
                    refine x_end ?_
                    refine x_tn ?_
                    refine x_ret ?_
                    refine x_tr ?_
                    refine x_res1 F rfl (rv_t F rfl) ?_
                    obtain rfl := Option.some.inj hR
                    exact ⟨rfl, hB⟩
                  · replace hR := ifF hb270 hR
                    refine x_skip ?_
                    refine x_tn ?_
                    refine x_seq ?_
                    refine x_seq ?_
                    refine x_reg ?_
                    refine o_move F rfl rfl (fun a F => ?_)
                    refine o_move F rfl rfl (fun a F => ?_)
                    refine o_neq F rfl rfl rfl (fun a F => ?_)
                    refine x_end ?_
                    refine x_tn ?_
                    refine x_if F rfl (fun hb271 => ?_) (fun hb271 => ?_)
                    · replace hR := ifT hb271 hR
                      refine x_seq ?_
                      refine x_reg ?_
                      refine o_assign F rfl rfl (fun a F => ?_)
                      refine x_end ?_
                      refine x_tn ?_
                      refine x_ret ?_
                      refine x_tr ?_
                      refine x_res1 F rfl (rv_t F rfl) ?_
                      obtain rfl := Option.some.inj hR
                      exact ⟨rfl, hB⟩
                    · replace hR := ifF hb271 hR
                      refine x_skip ?_
                      refine x_tn ?_
                      refine x_seq ?_
                      refine x_reg ?_
                      refine o_assign F rfl rfl (fun a F => ?_)
                      refine x_end ?_
                      refine x_tn ?_
                      refine x_ret ?_
                      refine x_res1 F rfl (rv_t F rfl) ?_
                      obtain rfl := Option.some.inj hR
                      exact ⟨rfl, hB⟩
end
end Go.Proofs.Ytmfichdcomaaeaa
