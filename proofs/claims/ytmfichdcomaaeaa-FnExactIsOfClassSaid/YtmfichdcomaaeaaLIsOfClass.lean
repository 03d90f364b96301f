/-
  Laws of the program as plain functions, and that they compute them. Printed by lawfx.py.
-/
import Derived.Test.YtmfichdcomaaeaaX4
import Derived.Test.YtmfichdcomaaeaaY
import Derived.Test.YtmfichdcomaaeaaL1
import Derived.Test.YtmfichdcomaaeaaL2
import Derived.Test.YtmfichdcomaaeaaL3
import Derived.Test.YtmfichdcomaaeaaL5
namespace Go.Proofs.Ytmfichdcomaaeaa
set_option linter.unusedVariables false
set_option linter.unusedSimpArgs false
set_option maxRecDepth 100000
open Go.RowKit
noncomputable section
def laws_FnExactIsOfClass (N : Nat) (x0 : Template) (x1 : Int) : Option Bool :=
  bnd (szq 1048576 (x0.sz)) fun z18 =>
  if (decide (z18 < 0)) then
    some true
  else
    bnd (toq (x0.sz)) fun z21 =>
    bnd (spec_IsOfClass N x0 x1) fun z28 =>
    bnd (impl_IsOfClass N x0 x1) fun z46 =>
    thn (σ := Bool) (
      if (z46.1 != z28.1) then   some (.nx true) else   some (.nx (z46.2 != z28.2))) fun s54 =>
    if s54 then
      some false
    else
      bnd (eqq x0 x0) fun z62 =>
      if (!z62) then
        some false
      else
        some true
set_option maxHeartbeats 1000000 in
theorem laws_FnExactIsOfClass_c {N : Nat} {x0 : Template} {x1 : Int} (r : Bool) (hR : laws_FnExactIsOfClass N x0 x1 = some r) {v0 : Value} {b0 : List Nat} (w0 : World) (A0 : Rd (Agg 2 RTemplate) w0 v0 x0 b0) (hx1 : I64 x1) : Calls Try.prog 10 #[v0, .int .i64 x1] w0 (Says (.bool r) w0) := by
  unfold laws_FnExactIsOfClass at hR
  refine x_enter (L := [(0, v0), (1, .int .i64 x1)]) Try.func10 rfl rfl rfl (sc rfl (sc rfl sn)) (fun a F => ?_)
  have hB := Below.refl w0.heap.size w0
  refine x_seq ?_
  refine x_reg ?_
  obtain ⟨v14, b15, e17, i13, h16, _⟩ := RTemplate.rd (A0.go hB)
  subst e17
  refine o_box F rfl rfl rfl (fun a w b11 K12 l BK12 F => ?_)
  have CK12 := Nat.le_trans hB.size BK12
  replace hB := Below.through l hB
  refine o_assign F rfl rfl (fun a F => ?_)
  refine x_end ?_
  refine x_tn ?_
  refine x_seq ?_
  refine x_reg ?_
  refine o_assign F rfl rfl (fun a F => ?_)
  refine x_end ?_
  refine x_tn ?_
  refine x_seq ?_
  refine x_reg ?_
  refine o_bloadA (cs := [.int .i64 x0.size, v14]) Try.isAgg81 Try.sizeOf81 F rfl rfl K12 rfl (fun j hj => by match j, hj with | 0, _ => rfl | 1, _ => rfl) (fun a F => ?_)
  refine o_move F rfl rfl (fun a F => ?_)
  obtain ⟨z18, c19, hR⟩ := bnd_some hR
  refine o_saysI F rfl Try.call44 rfl (szq_says c19 (fun h0 h1 => szTemplate_any _ _ _ _ _ (A0.go hB).r (A0.go hB).m h0 h1)) (fun a w l iz18 F => ?_)
  replace hB := Below.through l hB
  replace K12 := K12.thru l
  refine o_assign F rfl rfl (fun a F => ?_)
  refine x_end ?_
  refine x_tn ?_
  refine x_seq ?_
  refine x_seq ?_
  refine x_reg ?_
  refine o_move F rfl rfl (fun a F => ?_)
  refine o_lss F rfl rfl rfl (fun a F => ?_)
  refine x_end ?_
  refine x_tn ?_
  refine x_if F rfl (fun hb20 => ?_) (fun hb20 => ?_)
  · replace hR := ifT hb20 hR
    refine x_seq ?_
    refine x_reg ?_
    refine o_assign F rfl rfl (fun a F => ?_)
    refine x_end ?_
    refine x_tn ?_
    refine x_ret ?_
    refine x_tr ?_
    refine x_res1 F rfl (rv_t F rfl) ?_
    obtain rfl := Option.some.inj hR
    exact ⟨rfl, hB⟩
  · replace hR := ifF hb20 hR
    refine x_skip ?_
    refine x_tn ?_
    refine x_seq ?_
    refine x_reg ?_
    refine o_bloadA (cs := [.int .i64 x0.size, v14]) Try.isAgg81 Try.sizeOf81 F rfl rfl K12 rfl (fun j hj => by match j, hj with | 0, _ => rfl | 1, _ => rfl) (fun a F => ?_)
    obtain ⟨z21, c22, hR⟩ := bnd_some hR
    refine o_toA F rfl Try.call46 rfl (toTemplate_any _ _ _ _ (A0.go hB).r (A0.go hB).m (toq_some c22)) (fun a v23 b24 w l h25 o26 F => ?_)
    have d27 := Dj.new (inm1 K12) o26 (Nat.le_refl _)
    replace o26 := o26.mono hB.size
    replace hB := Below.through l hB
    replace K12 := K12.thru l
    refine o_move F rfl rfl (fun a F => ?_)
    obtain ⟨z28, c29, hR⟩ := bnd_some hR
    refine o_gives F rfl Try.call52 rfl (spec_IsOfClass_c z28 c29 _ h25 hx1) (fun a vv w l ⟨hv31, i30⟩ F => ?_)
    subst vv
    replace hB := Below.through l hB
    replace K12 := K12.thru l
    refine o_move F rfl rfl (fun a F => ?_)
    refine o_extract F rfl rfl rfl (fun a F => ?_)
    refine o_extract F rfl rfl rfl (fun a F => ?_)
    refine o_assign F rfl rfl (fun a F => ?_)
    refine o_assign F rfl rfl (fun a F => ?_)
    refine x_end ?_
    refine x_tn ?_
    refine x_seq ?_
    refine x_reg ?_
    refine o_bloadA (cs := [.int .i64 x0.size, v14]) Try.isAgg81 Try.sizeOf81 F rfl rfl K12 rfl (fun j hj => by match j, hj with | 0, _ => rfl | 1, _ => rfl) (fun a F => ?_)
    refine o_toA F rfl Try.call46 rfl (toTemplate_any _ _ _ _ (A0.go hB).r (A0.go hB).m (toq_some c22)) (fun a v32 b33 w l h34 o35 F => ?_)
    have d36 := Dj.new (inm1 K12) o35 (Nat.le_refl _)
    replace o35 := o35.mono hB.size
    replace hB := Below.through l hB
    replace K12 := K12.thru l
    refine o_alloc Try.zeroValue87 F rfl rfl (fun a w b37 K38 l BK38 F => ?_)
    have nb39 := Dj.bb K12 BK38
    have d40 := (dj1 h34.m BK38).symm
    have CK38 := Nat.le_trans hB.size BK38
    replace hB := Below.through l hB
    replace h34 := h34.go l
    replace o35 := o35.go l
    replace K12 := K12.thru l
    obtain ⟨v42, b43, e45, i41, h44, _⟩ := RTemplate.rd h34
    subst e45
    refine o_bstoreA (vs := [.int .i64 x0.size, v42]) Try.sizeOf87 F rfl rfl rfl K38 (oc rfl (oc h44.r.one on)) (Nat.le_of_ble_eq_true rfl) rfl (fun w K38 l => ?_)
    replace hB := hB.o l (fun c hc => by rw [List.mem_singleton] at hc; rw [hc]; exact CK38) hB.size
    replace h34 := h34.goO l d40
    replace o35 := o35.goO l d40
    replace K12 := K12.only l (by simpa using nb39)
    refine x_end ?_
    refine x_tn ?_
    refine x_seq ?_
    refine x_reg ?_
    refine o_bloadA (cs := [.int .i64 x0.size, v42]) Try.isAgg87 Try.sizeOf87 F rfl rfl K38 rfl (fun j hj => by match j, hj with | 0, _ => rfl | 1, _ => rfl) (fun a F => ?_)
    refine o_move F rfl rfl (fun a F => ?_)
    obtain ⟨z46, c47, hR⟩ := bnd_some hR
    refine o_gives F rfl Try.call53 rfl (impl_IsOfClass_c z46 c47 _ h34 hx1) (fun a vv w l ⟨hv49, i48⟩ F => ?_)
    subst vv
    replace hB := Below.through l hB
    replace h34 := h34.go l
    replace o35 := o35.go l
    replace K12 := K12.thru l
    replace K38 := K38.thru l
    refine o_move F rfl rfl (fun a F => ?_)
    refine o_extract F rfl rfl rfl (fun a F => ?_)
    refine o_extract F rfl rfl rfl (fun a F => ?_)
    refine o_assign F rfl rfl (fun a F => ?_)
    refine o_assign F rfl rfl (fun a F => ?_)
    refine x_end ?_
    refine x_tn ?_
    refine x_seq ?_
    refine x_seq ?_
    obtain ⟨o51, hR, hk52⟩ := thn_some hR
    refine x_cutQ (fun a w => ∃ (s54 : Bool), o51 = .nx s54 ∧ Sk a 44 [(2, .pointer (some ⟨b11, 0, none⟩)), (8, .pointer (some ⟨b37, 0, none⟩)), (38, .bool s54)] ∧ Below w0.heap.size w0 w ∧ Rd (Agg 2 RTemplate) w (.agg #[.int .i64 x0.size, v42]) x0 b33 ∧ Own w0.heap.size b33 w ∧ Blk w b11 #[.int .i64 x0.size, v14] 81 ∧ Blk w b37 #[.int .i64 x0.size, v42] 87) ?_ ?_
    · refine x_reg ?_
      refine o_move F rfl rfl (fun a F => ?_)
      refine o_move F rfl rfl (fun a F => ?_)
      refine o_neqB Try.underlying4 F rfl rfl rfl (fun a F => ?_)
      refine o_move F rfl rfl (fun a F => ?_)
      rcases bcases (z46.1 != z28.1) with hb55 | hb55
      · replace hR := ifT hb55 hR
        have F := F.eq (t := 34) rfl (congrArg Value.bool hb55)
        refine o_no F rfl rfl (fun a F => ?_)
        refine o_no F rfl rfl (fun a F => ?_)
        refine o_no F rfl rfl (fun a F => ?_)
        refine o_pickt F rfl rfl rfl (fun a F => ?_)
        refine x_end ?_
        refine x_tn ?_
        exact ⟨true, (Option.some.inj hR).symm, F.sub (sc rfl (sc rfl (sc rfl sn))), hB, h34, o35, K12, K38⟩
      · replace hR := ifF hb55 hR
        have F := F.eq (t := 34) rfl (congrArg Value.bool hb55)
        refine o_move F rfl rfl (fun a F => ?_)
        refine o_move F rfl rfl (fun a F => ?_)
        refine o_neq F rfl rfl rfl (fun a F => ?_)
        refine o_pickf F rfl rfl rfl (fun a F => ?_)
        refine x_end ?_
        refine x_tn ?_
        exact ⟨(z46.2 != z28.2), (Option.some.inj hR).symm, F.sub (sc rfl (sc rfl (sc rfl sn))), hB, h34, o35, K12, K38⟩
    · intro a w ⟨s54, ho53, F, hB, h34, o35, K12, K38⟩
      subst ho53
      have hR := then_nx hk52
      refine x_tn ?_
      refine x_if F rfl (fun hb56 => ?_) (fun hb56 => ?_)
      · replace hR := ifT hb56 hR
        refine x_seq ?_
        refine x_reg ?_
        refine o_assign F rfl rfl (fun a F => ?_)
        refine x_end ?_
        refine x_tn ?_
        refine x_ret ?_
        refine x_tr ?_
        refine x_res1 F rfl (rv_t F rfl) ?_
        obtain rfl := Option.some.inj hR
        exact ⟨rfl, hB⟩
      · replace hR := ifF hb56 hR
        refine x_skip ?_
        refine x_tn ?_
        refine x_seq ?_
        refine x_seq ?_
        refine x_drawn (by kernel_rfl) (fun w l => ?_)
        replace hB := Below.through l hB
        replace h34 := h34.go l
        replace o35 := o35.go l
        replace K12 := K12.thru l
        replace K38 := K38.thru l
        refine b_q 0 rfl (by kernel_rfl) (by kernel_rfl) (by kernel_rfl) (by kernel_rfl) ?_
        refine v_val F rfl (fun w l => r_bloadA (cs := [.int .i64 x0.size, v42]) Try.isAgg87 Try.sizeOf87 F rfl (K38.thru l) rfl (fun j hj => by match j, hj with | 0, _ => rfl | 1, _ => rfl)) (fun a F => ?_)
        refine b_q 1 rfl (by kernel_rfl) (by kernel_rfl) (by kernel_rfl) (by kernel_rfl) ?_
        refine v_val F rfl (fun w l => r_bloadA (cs := [.int .i64 x0.size, v14]) Try.isAgg81 Try.sizeOf81 F rfl (K12.thru l) rfl (fun j hj => by match j, hj with | 0, _ => rfl | 1, _ => rfl)) (fun a F => ?_)
        refine b_e 2 rfl (by kernel_rfl) ?_
        refine o_toA F rfl Try.call46 rfl (toTemplate_any _ _ _ _ (A0.go hB).r (A0.go hB).m (toq_some c22)) (fun a v57 b58 w l h59 o60 F => ?_)
        have d61 := Dj.new h34.m o60 (Nat.le_refl _)
        replace o60 := o60.mono hB.size
        replace hB := Below.through l hB
        replace h34 := h34.go l
        replace o35 := o35.go l
        refine x_end ?_
        refine x_tn ?_
        refine ⟨.inl l, ?_⟩
        refine b_e 3 rfl (by kernel_rfl) ?_
        obtain ⟨z62, c63, hR⟩ := bnd_some hR
        refine o_says F rfl Try.call48 rfl (eqq_says (fun y => Rd (Agg 2 RTemplate) _ _ y _) c63 h59 (fun hy => eqTemplate_any _ _ _ _ _ _ h34.r hy.r h34.m hy.m)) (fun a w l F => ?_)
        replace hB := Below.through l hB
        refine x_end ?_
        refine x_tn ?_
        refine ⟨.inl l, ?_⟩
        refine b_q 4 rfl (by kernel_rfl) (by kernel_rfl) (by kernel_rfl) (by kernel_rfl) ?_
        refine v_val F rfl (fun w l => r_not F rfl) (fun a F => ?_)
        refine b_end (by kernel_rfl) ?_
        refine x_tn ?_
        refine x_if F rfl (fun hb64 => ?_) (fun hb64 => ?_)
        · replace hR := ifT hb64 hR
          refine x_seq ?_
          refine x_reg ?_
          refine o_assign F rfl rfl (fun a F => ?_)
          refine x_end ?_
          refine x_tn ?_
          refine x_ret ?_
          refine x_tr ?_
          refine x_res1 F rfl (rv_t F rfl) ?_
          obtain rfl := Option.some.inj hR
          exact ⟨rfl, hB⟩
        · replace hR := ifF hb64 hR
          refine x_skip ?_
          refine x_tn ?_
          refine x_seq ?_
          refine x_reg ?_
          refine o_assign F rfl rfl (fun a F => ?_)
          refine x_end ?_
          refine x_tn ?_
          refine x_ret ?_
          refine x_res1 F rfl (rv_t F rfl) ?_
          obtain rfl := Option.some.inj hR
          exact ⟨rfl, hB⟩
end
end Go.Proofs.Ytmfichdcomaaeaa
