/-
  Laws of the program as plain functions, and that they compute them. Printed by lawfx.py.
-/
import Derived.Test.YtfepllddlmhjiaaGreatS4b
import Derived.Test.YtfepllddlmhjiaaGreatY
import Derived.Test.YtfepllddlmhjiaaGreatL1
import Derived.Test.YtfepllddlmhjiaaGreatL2
import Derived.Test.YtfepllddlmhjiaaGreatL6
namespace Go.Proofs.YtfepllddlmhjiaaGreat
set_option linter.unusedVariables false
set_option linter.unusedSimpArgs false
set_option maxRecDepth 100000
open Go.RowKit
noncomputable section
def laws_FnExactSmallestReason (N : Nat) (x0 : Template) (x1 : Instance) (x2 : Int) : Option Bool :=
 bnd (szq 1048576 (x0.sz)) fun z26 =>
 if (decide (z26 < 0)) then
  some true
 else
  bnd (szq z26 (x1.sz)) fun z29 =>
  if (decide (z29 < 0)) then
   some true
  else
   bnd (toq (x0.sz)) fun z32 =>
   bnd (toq (x1.sz)) fun z40 =>
   bnd (spec_SmallestReason N x0 x1 x2) fun z49 =>
   bnd (impl_SmallestReason N x0 x1 x2) fun z101 =>
   thn (σ := Bool) (
    bnd (eqq z101.1 z49.1) fun z125 =>
    if (!z125) then  some (.nx true) else  some (.nx (z101.2 != z49.2))) fun s124 =>
   if s124 then
    some false
   else
    bnd (eqq x0 x0) fun z141 =>
    if (!z141) then
     some false
    else
     bnd (eqq x1 x1) fun z156 =>
     if (!z156) then
      some false
     else
      bnd (mkq 1 (x0.cnt)) fun z159 =>
      bnd (mkq z159 (x1.cnt)) fun z163 =>
      thn (σ := Bool) (
       if (decide (z163 < 0)) then  some (.nx true) else  bnd (eqq z101.1 z49.1) fun z176 =>
        if (!z176) then  some (.nx true) else  some (.nx (z101.2 != z49.2))) fun s174 =>
      if s174 then
       some false
      else
       bnd (mkq 1 (cntS cI z101.1)) fun z180 =>
       if (decide (z180 < 0)) then
        some false
       else
        if (z180 != z180) then
         some false
        else
         thn (σ := Bool) (
          bnd (eqq z101.1 z49.1) fun z216 =>
          if (!z216) then  some (.nx true) else  some (.nx (z101.2 != z49.2))) fun s215 =>
         if s215 then
          some false
         else
          if (decide (z180 < 0)) then
           some false
          else
           if (z180 != z180) then
            some false
           else
            some true
set_option maxHeartbeats 1000000 in
theorem laws_FnExactSmallestReason_c {N : Nat} {x0 : Template} {x1 : Instance} {x2 : Int} (r : Bool) (hR : laws_FnExactSmallestReason N x0 x1 x2 = some r) {v0 : Value} {b0 : List Nat} {v1 : Value} {b1 : List Nat} (w0 : World) (A0 : Rd (Agg 2 RTemplate) w0 v0 x0 b0) (A1 : Rd (Agg 2 RInstance) w0 v1 x1 b1) (hx2 : I64 x2) : Calls Tryz.prog 8 #[v0, v1, .int .i64 x2] w0 (Says (.bool r) w0) := by
 unfold laws_FnExactSmallestReason at hR
 refine x_enter (L := [(0, v0), (1, v1), (2, .int .i64 x2)]) Tryz.func8 rfl rfl rfl (sc rfl (sc rfl (sc rfl sn))) (fun a F => ?_)
 have hB := Below.refl w0.heap.size w0
 refine x_seq ?_
 refine x_reg ?_
 obtain ⟨v14, b15, e17, i13, h16, _⟩ := RTemplate.rd (A0.go hB)
 subst e17
 refine o_box F rfl rfl rfl (fun a w b11 K12 l BK12 F => ?_)
 have CK12 := Nat.le_trans hB.size BK12
 replace hB := Below.through l hB
 obtain ⟨v21, b22, e24, i20, h23, _⟩ := RInstance.rd (A1.go hB)
 subst e24
 refine o_box F rfl rfl rfl (fun a w b18 K19 l BK19 F => ?_)
 have nb25 := Dj.bb K12 BK19
 have CK19 := Nat.le_trans hB.size BK19
 replace hB := Below.through l hB
 replace K12 := K12.thru l
 refine o_assign F rfl rfl (fun a F => ?_)
 refine x_end ?_
 refine x_tn ?_
 refine x_seq ?_
 refine x_reg ?_
 refine o_assign F rfl rfl (fun a F => ?_)
 refine x_end ?_
 refine x_tn ?_
 refine x_seq ?_
 refine x_reg ?_
 refine o_bloadA (cs := [.int .i64 x0.size, v14]) Tryz.isAgg24 Tryz.sizeOf24 F rfl rfl K12 rfl (fun j hj => by match j, hj with | 0, _ => rfl | 1, _ => rfl) (fun a F => ?_)
 refine o_move F rfl rfl (fun a F => ?_)
 obtain ⟨z26, c27, hR⟩ := bnd_some hR
 refine o_saysI F rfl Tryz.call14 rfl (szq_says c27 (fun h0 h1 => szTemplate_any _ _ _ _ _ (A0.go hB).r (A0.go hB).m h0 h1)) (fun a w l iz26 F => ?_)
 replace hB := Below.through l hB
 replace K12 := K12.thru l
 replace K19 := K19.thru l
 refine o_assign F rfl rfl (fun a F => ?_)
 refine x_end ?_
 refine x_tn ?_
 refine x_seq ?_
 refine x_seq ?_
 refine x_reg ?_
 refine o_move F rfl rfl (fun a F => ?_)
 refine o_lss F rfl rfl rfl (fun a F => ?_)
 refine x_end ?_
 refine x_tn ?_
 refine x_if F rfl (fun hb28 => ?_) (fun hb28 => ?_)
 ·
  replace hR := ifT hb28 hR
  refine x_seq ?_
  refine x_reg ?_
  refine o_assign F rfl rfl (fun a F => ?_)
  refine x_end ?_
  refine x_tn ?_
  refine x_ret ?_
  refine x_tr ?_
  refine x_res1 F rfl (rv_t F rfl) ?_
  obtain rfl := Option.some.inj hR
  exact ⟨rfl, hB⟩
 ·
  replace hR := ifF hb28 hR
  refine x_skip ?_
  refine x_tn ?_
  refine x_seq ?_
  refine x_reg ?_
  refine o_bloadA (cs := [.int .i64 x1.vars, v21]) Tryz.isAgg44 Tryz.sizeOf44 F rfl rfl K19 rfl (fun j hj => by match j, hj with | 0, _ => rfl | 1, _ => rfl) (fun a F => ?_)
  refine o_move F rfl rfl (fun a F => ?_)
  obtain ⟨z29, c30, hR⟩ := bnd_some hR
  refine o_saysI F rfl Tryz.call22 rfl (szq_says c30 (fun h0 h1 => szInstance_any _ _ _ _ _ (A1.go hB).r (A1.go hB).m h0 h1)) (fun a w l iz29 F => ?_)
  replace hB := Below.through l hB
  replace K12 := K12.thru l
  replace K19 := K19.thru l
  refine o_assign F rfl rfl (fun a F => ?_)
  refine x_end ?_
  refine x_tn ?_
  refine x_seq ?_
  refine x_seq ?_
  refine x_reg ?_
  refine o_move F rfl rfl (fun a F => ?_)
  refine o_lss F rfl rfl rfl (fun a F => ?_)
  refine x_end ?_
  refine x_tn ?_
  refine x_if F rfl (fun hb31 => ?_) (fun hb31 => ?_)
  ·
   replace hR := ifT hb31 hR
   refine x_seq ?_
   refine x_reg ?_
   refine o_assign F rfl rfl (fun a F => ?_)
   refine x_end ?_
   refine x_tn ?_
   refine x_ret ?_
   refine x_tr ?_
   refine x_res1 F rfl (rv_t F rfl) ?_
   obtain rfl := Option.some.inj hR
   exact ⟨rfl, hB⟩
  ·
   replace hR := ifF hb31 hR
   refine x_skip ?_
   refine x_tn ?_
   refine x_seq ?_
   refine x_drawn (by kernel_rfl) (fun w l => ?_)
   replace hB := Below.through l hB
   replace K12 := K12.thru l
   replace K19 := K19.thru l
   refine b_q 0 (by kernel_rfl) rfl (by kernel_rfl) (by kernel_rfl) (by kernel_rfl) (by kernel_rfl) ?_
   refine v_val F rfl (fun w l => r_bloadA (cs := [.int .i64 x0.size, v14]) Tryz.isAgg24 Tryz.sizeOf24 F rfl (K12.thru l) rfl (fun j hj => by match j, hj with | 0, _ => rfl | 1, _ => rfl)) (fun a F => ?_)
   refine b_q 2 (by kernel_rfl) rfl (by kernel_rfl) (by kernel_rfl) (by kernel_rfl) (by kernel_rfl) ?_
   refine v_val F rfl (fun w l => r_bloadA (cs := [.int .i64 x1.vars, v21]) Tryz.isAgg44 Tryz.sizeOf44 F rfl (K19.thru l) rfl (fun j hj => by match j, hj with | 0, _ => rfl | 1, _ => rfl)) (fun a F => ?_)
   refine b_q0 4 rfl (by kernel_rfl) (by kernel_rfl) (by kernel_rfl) ?_
   refine v_val F rfl (fun w l => r_move F rfl) (fun a F => ?_)
   refine b_e 1 rfl (by kernel_rfl) ?_
   obtain ⟨z32, c33, hR⟩ := bnd_some hR
   refine o_toA F rfl Tryz.call17 rfl (toTemplate_any _ _ _ _ (A0.go hB).r (A0.go hB).m (toq_some c33)) (fun a v34 b35 w l h36 o37 F => ?_)
   have d38 := Dj.new (inm1 K12) o37 (Nat.le_refl _)
   have d39 := Dj.new (inm1 K19) o37 (Nat.le_refl _)
   replace o37 := o37.mono hB.size
   replace hB := Below.through l hB
   replace K12 := K12.thru l
   replace K19 := K19.thru l
   refine x_end ?_
   refine x_tn ?_
   refine ⟨.inl l, ?_⟩
   refine b_e 3 rfl (by kernel_rfl) ?_
   obtain ⟨z40, c41, hR⟩ := bnd_some hR
   refine o_toA F rfl Tryz.call24 rfl (toInstance_any _ _ _ _ (A1.go hB).r (A1.go hB).m (toq_some c41)) (fun a v42 b43 w l h44 o45 F => ?_)
   have d46 := Dj.new h36.m o45 (Nat.le_refl _)
   have d47 := Dj.new (inm1 K12) o45 (Nat.le_refl _)
   have d48 := Dj.new (inm1 K19) o45 (Nat.le_refl _)
   replace o45 := o45.mono hB.size
   replace hB := Below.through l hB
   replace h36 := h36.go l
   replace o37 := o37.go l
   replace K12 := K12.thru l
   replace K19 := K19.thru l
   refine x_end ?_
   refine x_tn ?_
   refine ⟨.inl l, ?_⟩
   refine b_e 5 rfl (by kernel_rfl) ?_
   obtain ⟨z49, c50, hR⟩ := bnd_some hR
   refine o_gives F rfl Tryz.call49 rfl (spec_SmallestReason_c z49 c50 _ h36 h44 hx2) (fun a vv w l ⟨v51, rb52, hv56, h54, i55⟩ F => ?_)
   subst vv
   have o58 := h54.own (Own.nil _ _)
   have h57 := h54.rd
   have d59 := Dj.new (inm1 K12) o58 (Nat.le_refl _)
   have d60 := Dj.new (inm1 K19) o58 (Nat.le_refl _)
   replace o58 := o58.mono hB.size
   replace hB := Below.through l hB
   replace K12 := K12.thru l
   replace K19 := K19.thru l
   refine x_end ?_
   refine x_tn ?_
   refine ⟨.inl l, ?_⟩
   refine b_q0 6 rfl (by kernel_rfl) (by kernel_rfl) (by kernel_rfl) ?_
   refine v_val F rfl (fun w l => r_move F rfl) (fun a F => ?_)
   refine b_q 7 (by kernel_rfl) rfl (by kernel_rfl) (by kernel_rfl) (by kernel_rfl) (by kernel_rfl) ?_
   refine v_val F rfl (fun w l => r_extract F rfl rfl) (fun a F => ?_)
   refine b_q 8 (by kernel_rfl) rfl (by kernel_rfl) (by kernel_rfl) (by kernel_rfl) (by kernel_rfl) ?_
   refine v_val F rfl (fun w l => r_extract F rfl rfl) (fun a F => ?_)
   refine b_q0 9 rfl (by kernel_rfl) (by kernel_rfl) (by kernel_rfl) ?_
   refine v_val F rfl (fun w l => r_assign F rfl) (fun a F => ?_)
   refine b_q0 10 rfl (by kernel_rfl) (by kernel_rfl) (by kernel_rfl) ?_
   refine v_val F rfl (fun w l => r_assign F rfl) (fun a F => ?_)
   refine b_end (by kernel_rfl) ?_
   refine x_tn ?_
   refine x_seq ?_
   refine x_reg ?_
   refine o_bloadA (cs := [.int .i64 x0.size, v14]) Tryz.isAgg24 Tryz.sizeOf24 F rfl rfl K12 rfl (fun j hj => by match j, hj with | 0, _ => rfl | 1, _ => rfl) (fun a F => ?_)
   refine o_toA F rfl Tryz.call17 rfl (toTemplate_any _ _ _ _ (A0.go hB).r (A0.go hB).m (toq_some c33)) (fun a v61 b62 w l h63 o64 F => ?_)
   have d65 := Dj.new h57.m o64 (Nat.le_refl _)
   have d66 := Dj.new (inm1 K12) o64 (Nat.le_refl _)
   have d67 := Dj.new (inm1 K19) o64 (Nat.le_refl _)
   replace o64 := o64.mono hB.size
   replace hB := Below.through l hB
   replace h57 := h57.go l
   replace o58 := o58.go l
   replace K12 := K12.thru l
   replace K19 := K19.thru l
   refine o_alloc Tryz.zeroValue33 F rfl rfl (fun a w b68 K69 l BK69 F => ?_)
   have nb70 := Dj.bb K12 BK69
   have nb71 := Dj.bb K19 BK69
   have d72 := (dj1 h57.m BK69).symm
   have d73 := (dj1 h63.m BK69).symm
   have CK69 := Nat.le_trans hB.size BK69
   replace hB := Below.through l hB
   replace h57 := h57.go l
   replace o58 := o58.go l
   replace h63 := h63.go l
   replace o64 := o64.go l
   replace K12 := K12.thru l
   replace K19 := K19.thru l
   obtain ⟨v75, b76, e78, i74, h77, _⟩ := RTemplate.rd h63
   subst e78
   refine o_bstoreA (vs := [.int .i64 x0.size, v75]) Tryz.sizeOf33 F rfl rfl rfl K69 (oc rfl (oc h77.r.one on)) (Nat.le_of_ble_eq_true rfl) rfl (fun w K69 l => ?_)
   replace hB := hB.o l (fun c hc => by rw [List.mem_singleton] at hc; rw [hc]; exact CK69) hB.size
   replace h57 := h57.goO l d72
   replace o58 := o58.goO l d72
   replace h63 := h63.goO l d73
   replace o64 := o64.goO l d73
   replace K12 := K12.only l (by simpa using nb70)
   replace K19 := K19.only l (by simpa using nb71)
   refine x_end ?_
   refine x_tn ?_
   refine x_seq ?_
   refine x_reg ?_
   refine o_bloadA (cs := [.int .i64 x1.vars, v21]) Tryz.isAgg44 Tryz.sizeOf44 F rfl rfl K19 rfl (fun j hj => by match j, hj with | 0, _ => rfl | 1, _ => rfl) (fun a F => ?_)
   refine o_toA F rfl Tryz.call24 rfl (toInstance_any _ _ _ _ (A1.go hB).r (A1.go hB).m (toq_some c41)) (fun a v79 b80 w l h81 o82 F => ?_)
   have d83 := Dj.new h57.m o82 (Nat.le_refl _)
   have d84 := Dj.new h63.m o82 (Nat.le_refl _)
   have d85 := Dj.new (inm1 K12) o82 (Nat.le_refl _)
   have d86 := Dj.new (inm1 K19) o82 (Nat.le_refl _)
   have d87 := Dj.new (inm1 K69) o82 (Nat.le_refl _)
   replace o82 := o82.mono hB.size
   replace hB := Below.through l hB
   replace h57 := h57.go l
   replace o58 := o58.go l
   replace h63 := h63.go l
   replace o64 := o64.go l
   replace K12 := K12.thru l
   replace K19 := K19.thru l
   replace K69 := K69.thru l
   refine o_alloc Tryz.zeroValue51 F rfl rfl (fun a w b88 K89 l BK89 F => ?_)
   have nb90 := Dj.bb K12 BK89
   have nb91 := Dj.bb K19 BK89
   have nb92 := Dj.bb K69 BK89
   have d93 := (dj1 h57.m BK89).symm
   have d94 := (dj1 h63.m BK89).symm
   have d95 := (dj1 h81.m BK89).symm
   have CK89 := Nat.le_trans hB.size BK89
   replace hB := Below.through l hB
   replace h57 := h57.go l
   replace o58 := o58.go l
   replace h63 := h63.go l
   replace o64 := o64.go l
   replace h81 := h81.go l
   replace o82 := o82.go l
   replace K12 := K12.thru l
   replace K19 := K19.thru l
   replace K69 := K69.thru l
   obtain ⟨v97, b98, e100, i96, h99, _⟩ := RInstance.rd h81
   subst e100
   refine o_bstoreA (vs := [.int .i64 x1.vars, v97]) Tryz.sizeOf51 F rfl rfl rfl K89 (oc rfl (oc h99.r.one on)) (Nat.le_of_ble_eq_true rfl) rfl (fun w K89 l => ?_)
   replace hB := hB.o l (fun c hc => by rw [List.mem_singleton] at hc; rw [hc]; exact CK89) hB.size
   replace h57 := h57.goO l d93
   replace o58 := o58.goO l d93
   replace h63 := h63.goO l d94
   replace o64 := o64.goO l d94
   replace h81 := h81.goO l d95
   replace o82 := o82.goO l d95
   replace K12 := K12.only l (by simpa using nb90)
   replace K19 := K19.only l (by simpa using nb91)
   replace K69 := K69.only l (by simpa using nb92)
   refine x_end ?_
   refine x_tn ?_
   refine x_seq ?_
   refine x_reg ?_
   refine o_bloadA (cs := [.int .i64 x0.size, v75]) Tryz.isAgg33 Tryz.sizeOf33 F rfl rfl K69 rfl (fun j hj => by match j, hj with | 0, _ => rfl | 1, _ => rfl) (fun a F => ?_)
   refine o_bloadA (cs := [.int .i64 x1.vars, v97]) Tryz.isAgg51 Tryz.sizeOf51 F rfl rfl K89 rfl (fun j hj => by match j, hj with | 0, _ => rfl | 1, _ => rfl) (fun a F => ?_)
   refine o_move F rfl rfl (fun a F => ?_)
   obtain ⟨z101, c102, hR⟩ := bnd_some hR
   refine o_gives F rfl Tryz.call50 rfl (impl_SmallestReason_c z101 c102 _ h63 h81 hx2) (fun a vv w l ⟨v103, rb104, hv108, h106, i107⟩ F => ?_)
   subst vv
   have o110 := h106.own (Own.nil _ _)
   have h109 := h106.rd
   have d111 := Dj.new h57.m o110 (Nat.le_refl _)
   have d112 := Dj.new h63.m o110 (Nat.le_refl _)
   have d113 := Dj.new h81.m o110 (Nat.le_refl _)
   have d114 := Dj.new (inm1 K12) o110 (Nat.le_refl _)
   have d115 := Dj.new (inm1 K19) o110 (Nat.le_refl _)
   have d116 := Dj.new (inm1 K69) o110 (Nat.le_refl _)
   have d117 := Dj.new (inm1 K89) o110 (Nat.le_refl _)
   replace o110 := o110.mono hB.size
   replace hB := Below.through l hB
   replace h57 := h57.go l
   replace o58 := o58.go l
   replace h63 := h63.go l
   replace o64 := o64.go l
   replace h81 := h81.go l
   replace o82 := o82.go l
   replace K12 := K12.thru l
   replace K19 := K19.thru l
   replace K69 := K69.thru l
   replace K89 := K89.thru l
   refine o_move F rfl rfl (fun a F => ?_)
   refine o_extract F rfl rfl rfl (fun a F => ?_)
   refine o_extract F rfl rfl rfl (fun a F => ?_)
   refine o_assign F rfl rfl (fun a F => ?_)
   refine o_assign F rfl rfl (fun a F => ?_)
   refine x_end ?_
   refine x_tn ?_
   refine x_seq ?_
   refine x_seq ?_
   obtain ⟨o121, hR, hk122⟩ := thn_some hR
   refine x_cutQ (fun a w => ∃ (s124 : Bool), o121 = .nx s124 ∧ Sk a 124 [(2, .int .i64 x2), (3, .pointer (some ⟨b11, 0, none⟩)), (4, .pointer (some ⟨b18, 0, none⟩)), (8, v51), (9, .int .i64 z49.2), (10, .pointer (some ⟨b68, 0, none⟩)), (11, .pointer (some ⟨b88, 0, none⟩)), (12, v103), (13, .int .i64 z101.2), (57, .bool s124)] ∧ Below w0.heap.size w0 w ∧ Rd (Sl 1 RInt) w v51 z49.1 (rb52 ++ []) ∧ Own w0.heap.size (rb52 ++ []) w ∧ Rd (Agg 2 RTemplate) w (.agg #[.int .i64 x0.size, v75]) x0 b62 ∧ Own w0.heap.size b62 w ∧ Rd (Agg 2 RInstance) w (.agg #[.int .i64 x1.vars, v97]) x1 b80 ∧ Own w0.heap.size b80 w ∧ Rd (Sl 1 RInt) w v103 z101.1 (rb104 ++ []) ∧ Own w0.heap.size (rb104 ++ []) w ∧ Blk w b11 #[.int .i64 x0.size, v14] 24 ∧ Blk w b18 #[.int .i64 x1.vars, v21] 44 ∧ Blk w b68 #[.int .i64 x0.size, v75] 33 ∧ Blk w b88 #[.int .i64 x1.vars, v97] 51) ?_ ?_
   ·
    refine x_reg ?_
    refine o_move F rfl rfl (fun a F => ?_)
    refine o_move F rfl rfl (fun a F => ?_)
    obtain ⟨z125, c126, hR⟩ := bnd_some hR
    refine o_says F rfl Tryz.call26 rfl (eqq_says (fun y => Rd (Sl 1 RInt) _ _ y _) c126 h57 (fun hy => eqInt64S_any _ _ _ _ _ _ h109.r hy.r h109.m hy.m)) (fun a w l F => ?_)
    replace hB := Below.through l hB
    replace h57 := h57.go l
    replace o58 := o58.go l
    replace h63 := h63.go l
    replace o64 := o64.go l
    replace h81 := h81.go l
    replace o82 := o82.go l
    replace h109 := h109.go l
    replace o110 := o110.go l
    replace K12 := K12.thru l
    replace K19 := K19.thru l
    replace K69 := K69.thru l
    replace K89 := K89.thru l
    refine o_not F rfl rfl (fun a F => ?_)
    refine o_move F rfl rfl (fun a F => ?_)
    rcases bcases (!z125) with hb127 | hb127
    ·
     replace hR := ifT hb127 hR
     have F := F.eq (t := 53) rfl (congrArg Value.bool hb127)
     refine o_no F rfl rfl (fun a F => ?_)
     refine o_no F rfl rfl (fun a F => ?_)
     refine o_no F rfl rfl (fun a F => ?_)
     refine o_pickt F rfl rfl rfl (fun a F => ?_)
     refine x_end ?_
     refine x_tn ?_
     exact ⟨true, (Option.some.inj hR).symm, F.sub (sc rfl (sc rfl (sc rfl (sc rfl (sc rfl (sc rfl (sc rfl (sc rfl (sc rfl (sc rfl sn)))))))))), hB, h57, o58, h63, o64, h81, o82, h109, o110, K12, K19, K69, K89⟩
    ·
     replace hR := ifF hb127 hR
     have F := F.eq (t := 53) rfl (congrArg Value.bool hb127)
     refine o_move F rfl rfl (fun a F => ?_)
     refine o_move F rfl rfl (fun a F => ?_)
     refine o_neq F rfl rfl rfl (fun a F => ?_)
     refine o_pickf F rfl rfl rfl (fun a F => ?_)
     refine x_end ?_
     refine x_tn ?_
     exact ⟨(z101.2 != z49.2), (Option.some.inj hR).symm, F.sub (sc rfl (sc rfl (sc rfl (sc rfl (sc rfl (sc rfl (sc rfl (sc rfl (sc rfl (sc rfl sn)))))))))), hB, h57, o58, h63, o64, h81, o82, h109, o110, K12, K19, K69, K89⟩
   ·
    intro a w ⟨s124, ho123, F, hB, h57, o58, h63, o64, h81, o82, h109, o110, K12, K19, K69, K89⟩
    subst ho123
    have hR := then_nx hk122
    refine x_tn ?_
    refine x_if F rfl (fun hb128 => ?_) (fun hb128 => ?_)
    ·
     replace hR := ifT hb128 hR
     refine x_seq ?_
     refine x_reg ?_
     refine o_assign F rfl rfl (fun a F => ?_)
     refine x_end ?_
     refine x_tn ?_
     refine x_ret ?_
     refine x_tr ?_
     refine x_res1 F rfl (rv_t F rfl) ?_
     obtain rfl := Option.some.inj hR
     exact ⟨rfl, hB⟩
    ·
     replace hR := ifF hb128 hR
     refine x_skip ?_
     refine x_tn ?_
     refine x_seq ?_
     refine x_seq ?_
     refine x_drawn (by kernel_rfl) (fun w l => ?_)
     replace hB := Below.through l hB
     replace h57 := h57.go l
     replace o58 := o58.go l
     replace h63 := h63.go l
     replace o64 := o64.go l
     replace h81 := h81.go l
     replace o82 := o82.go l
     replace h109 := h109.go l
     replace o110 := o110.go l
     replace K12 := K12.thru l
     replace K19 := K19.thru l
     replace K69 := K69.thru l
     replace K89 := K89.thru l
     refine b_q 0 (by kernel_rfl) rfl (by kernel_rfl) (by kernel_rfl) (by kernel_rfl) (by kernel_rfl) ?_
     refine v_val F rfl (fun w l => r_bloadA (cs := [.int .i64 x0.size, v75]) Tryz.isAgg33 Tryz.sizeOf33 F rfl (K69.thru l) rfl (fun j hj => by match j, hj with | 0, _ => rfl | 1, _ => rfl)) (fun a F => ?_)
     refine b_q 1 (by kernel_rfl) rfl (by kernel_rfl) (by kernel_rfl) (by kernel_rfl) (by kernel_rfl) ?_
     refine v_val F rfl (fun w l => r_bloadA (cs := [.int .i64 x0.size, v14]) Tryz.isAgg24 Tryz.sizeOf24 F rfl (K12.thru l) rfl (fun j hj => by match j, hj with | 0, _ => rfl | 1, _ => rfl)) (fun a F => ?_)
     refine b_e 2 rfl (by kernel_rfl) ?_
     refine o_toA F rfl Tryz.call17 rfl (toTemplate_any _ _ _ _ (A0.go hB).r (A0.go hB).m (toq_some c33)) (fun a v129 b130 w l h131 o132 F => ?_)
     have d133 := Dj.new h57.m o132 (Nat.le_refl _)
     have d134 := Dj.new h63.m o132 (Nat.le_refl _)
     have d135 := Dj.new h81.m o132 (Nat.le_refl _)
     have d136 := Dj.new h109.m o132 (Nat.le_refl _)
     have d137 := Dj.new (inm1 K12) o132 (Nat.le_refl _)
     have d138 := Dj.new (inm1 K19) o132 (Nat.le_refl _)
     have d139 := Dj.new (inm1 K69) o132 (Nat.le_refl _)
     have d140 := Dj.new (inm1 K89) o132 (Nat.le_refl _)
     replace o132 := o132.mono hB.size
     replace hB := Below.through l hB
     replace h57 := h57.go l
     replace o58 := o58.go l
     replace h63 := h63.go l
     replace o64 := o64.go l
     replace h81 := h81.go l
     replace o82 := o82.go l
     replace h109 := h109.go l
     replace o110 := o110.go l
     replace K12 := K12.thru l
     replace K19 := K19.thru l
     replace K69 := K69.thru l
     replace K89 := K89.thru l
     refine x_end ?_
     refine x_tn ?_
     refine ⟨.inl l, ?_⟩
     refine b_e 3 rfl (by kernel_rfl) ?_
     obtain ⟨z141, c142, hR⟩ := bnd_some hR
     refine o_says F rfl Tryz.call20 rfl (eqq_says (fun y => Rd (Agg 2 RTemplate) _ _ y _) c142 h131 (fun hy => eqTemplate_any _ _ _ _ _ _ h63.r hy.r h63.m hy.m)) (fun a w l F => ?_)
     replace hB := Below.through l hB
     replace h57 := h57.go l
     replace o58 := o58.go l
     replace h63 := h63.go l
     replace o64 := o64.go l
     replace h81 := h81.go l
     replace o82 := o82.go l
     replace h109 := h109.go l
     replace o110 := o110.go l
     replace K12 := K12.thru l
     replace K19 := K19.thru l
     replace K69 := K69.thru l
     replace K89 := K89.thru l
     refine x_end ?_
     refine x_tn ?_
     refine ⟨.inl l, ?_⟩
     refine b_q 4 (by kernel_rfl) rfl (by kernel_rfl) (by kernel_rfl) (by kernel_rfl) (by kernel_rfl) ?_
     refine v_val F rfl (fun w l => r_not F rfl) (fun a F => ?_)
     refine b_end (by kernel_rfl) ?_
     refine x_tn ?_
     refine x_if F rfl (fun hb143 => ?_) (fun hb143 => ?_)
     ·
      replace hR := ifT hb143 hR
      refine x_seq ?_
      refine x_reg ?_
      refine o_assign F rfl rfl (fun a F => ?_)
      refine x_end ?_
      refine x_tn ?_
      refine x_ret ?_
      refine x_tr ?_
      refine x_res1 F rfl (rv_t F rfl) ?_
      obtain rfl := Option.some.inj hR
      exact ⟨rfl, hB⟩
     ·
      replace hR := ifF hb143 hR
      refine x_skip ?_
      refine x_tn ?_
      refine x_seq ?_
      refine x_seq ?_
      refine x_drawn (by kernel_rfl) (fun w l => ?_)
      replace hB := Below.through l hB
      replace h57 := h57.go l
      replace o58 := o58.go l
      replace h63 := h63.go l
      replace o64 := o64.go l
      replace h81 := h81.go l
      replace o82 := o82.go l
      replace h109 := h109.go l
      replace o110 := o110.go l
      replace K12 := K12.thru l
      replace K19 := K19.thru l
      replace K69 := K69.thru l
      replace K89 := K89.thru l
      refine b_q 0 (by kernel_rfl) rfl (by kernel_rfl) (by kernel_rfl) (by kernel_rfl) (by kernel_rfl) ?_
      refine v_val F rfl (fun w l => r_bloadA (cs := [.int .i64 x1.vars, v97]) Tryz.isAgg51 Tryz.sizeOf51 F rfl (K89.thru l) rfl (fun j hj => by match j, hj with | 0, _ => rfl | 1, _ => rfl)) (fun a F => ?_)
      refine b_q 1 (by kernel_rfl) rfl (by kernel_rfl) (by kernel_rfl) (by kernel_rfl) (by kernel_rfl) ?_
      refine v_val F rfl (fun w l => r_bloadA (cs := [.int .i64 x1.vars, v21]) Tryz.isAgg44 Tryz.sizeOf44 F rfl (K19.thru l) rfl (fun j hj => by match j, hj with | 0, _ => rfl | 1, _ => rfl)) (fun a F => ?_)
      refine b_e 2 rfl (by kernel_rfl) ?_
      refine o_toA F rfl Tryz.call24 rfl (toInstance_any _ _ _ _ (A1.go hB).r (A1.go hB).m (toq_some c41)) (fun a v144 b145 w l h146 o147 F => ?_)
      have d148 := Dj.new h57.m o147 (Nat.le_refl _)
      have d149 := Dj.new h63.m o147 (Nat.le_refl _)
      have d150 := Dj.new h81.m o147 (Nat.le_refl _)
      have d151 := Dj.new h109.m o147 (Nat.le_refl _)
      have d152 := Dj.new (inm1 K12) o147 (Nat.le_refl _)
      have d153 := Dj.new (inm1 K19) o147 (Nat.le_refl _)
      have d154 := Dj.new (inm1 K69) o147 (Nat.le_refl _)
      have d155 := Dj.new (inm1 K89) o147 (Nat.le_refl _)
      replace o147 := o147.mono hB.size
      replace hB := Below.through l hB
      replace h57 := h57.go l
      replace o58 := o58.go l
      replace h63 := h63.go l
      replace o64 := o64.go l
      replace h81 := h81.go l
      replace o82 := o82.go l
      replace h109 := h109.go l
      replace o110 := o110.go l
      replace K12 := K12.thru l
      replace K19 := K19.thru l
      replace K69 := K69.thru l
      replace K89 := K89.thru l
      refine x_end ?_
      refine x_tn ?_
      refine ⟨.inl l, ?_⟩
      refine b_e 3 rfl (by kernel_rfl) ?_
      obtain ⟨z156, c157, hR⟩ := bnd_some hR
      refine o_says F rfl Tryz.call27 rfl (eqq_says (fun y => Rd (Agg 2 RInstance) _ _ y _) c157 h146 (fun hy => eqInstance_any _ _ _ _ _ _ h81.r hy.r h81.m hy.m)) (fun a w l F => ?_)
      replace hB := Below.through l hB
      replace h57 := h57.go l
      replace o58 := o58.go l
      replace h63 := h63.go l
      replace o64 := o64.go l
      replace h81 := h81.go l
      replace o82 := o82.go l
      replace h109 := h109.go l
      replace o110 := o110.go l
      replace K12 := K12.thru l
      replace K19 := K19.thru l
      replace K69 := K69.thru l
      replace K89 := K89.thru l
      refine x_end ?_
      refine x_tn ?_
      refine ⟨.inl l, ?_⟩
      refine b_q 4 (by kernel_rfl) rfl (by kernel_rfl) (by kernel_rfl) (by kernel_rfl) (by kernel_rfl) ?_
      refine v_val F rfl (fun w l => r_not F rfl) (fun a F => ?_)
      refine b_end (by kernel_rfl) ?_
      refine x_tn ?_
      refine x_if F rfl (fun hb158 => ?_) (fun hb158 => ?_)
      ·
       replace hR := ifT hb158 hR
       refine x_seq ?_
       refine x_reg ?_
       refine o_assign F rfl rfl (fun a F => ?_)
       refine x_end ?_
       refine x_tn ?_
       refine x_ret ?_
       refine x_tr ?_
       refine x_res1 F rfl (rv_t F rfl) ?_
       obtain rfl := Option.some.inj hR
       exact ⟨rfl, hB⟩
      ·
       replace hR := ifF hb158 hR
       refine x_skip ?_
       refine x_tn ?_
       refine x_seq ?_
       refine x_reg ?_
       refine o_assign F rfl rfl (fun a F => ?_)
       refine x_end ?_
       refine x_tn ?_
       refine x_seq ?_
       refine x_reg ?_
       refine o_bloadA (cs := [.int .i64 x0.size, v75]) Tryz.isAgg33 Tryz.sizeOf33 F rfl rfl K69 rfl (fun j hj => by match j, hj with | 0, _ => rfl | 1, _ => rfl) (fun a F => ?_)
       refine o_move F rfl rfl (fun a F => ?_)
       obtain ⟨z159, c160, hR⟩ := bnd_some hR
       refine o_markA F rfl Tryz.call28 rfl (mkq_markA c160 (fun h0 h1 => markTemplate_any _ _ _ _ _ _ h63.r o64 h0 h1)) (fun a w l h161 o162 F => ?_)
       replace h57 := h57.goO l d65
       replace o58 := o58.goO l d65
       replace h81 := h81.goO l (Dj.symm d84)
       replace o82 := o82.goO l (Dj.symm d84)
       replace h109 := h109.goO l (Dj.symm d112)
       replace o110 := o110.goO l (Dj.symm d112)
       replace K12 := K12.only l (Dj.in1 d66)
       replace K19 := K19.only l (Dj.in1 d67)
       replace K89 := K89.only l (Dj.in1 (Dj.symm d94))
       replace hB := hB.o l (Own.lo o64) hB.size
       have iz159 := mkq_i c160
       refine o_assign F rfl rfl (fun a F => ?_)
       refine x_end ?_
       refine x_tn ?_
       refine x_seq ?_
       refine x_reg ?_
       refine o_bloadA (cs := [.int .i64 x1.vars, v97]) Tryz.isAgg51 Tryz.sizeOf51 F rfl rfl K89 rfl (fun j hj => by match j, hj with | 0, _ => rfl | 1, _ => rfl) (fun a F => ?_)
       refine o_move F rfl rfl (fun a F => ?_)
       obtain ⟨z163, c164, hR⟩ := bnd_some hR
       refine o_markA F rfl Tryz.call29 rfl (mkq_markA c164 (fun h0 h1 => markInstance_any _ _ _ _ _ _ h81.r o82 h0 h1)) (fun a w l h165 o166 F => ?_)
       replace h57 := h57.goO l d83
       replace o58 := o58.goO l d83
       replace h109 := h109.goO l (Dj.symm d113)
       replace o110 := o110.goO l (Dj.symm d113)
       replace K12 := K12.only l (Dj.in1 d85)
       replace K19 := K19.only l (Dj.in1 d86)
       replace hB := hB.o l (Own.lo o82) hB.size
       have iz163 := mkq_i c164
       refine o_assign F rfl rfl (fun a F => ?_)
       refine x_end ?_
       refine x_tn ?_
       refine x_seq ?_
       refine x_seq ?_
       obtain ⟨o171, hR, hk172⟩ := thn_some hR
       refine x_cutQ (fun a w => ∃ (s174 : Bool), o171 = .nx s174 ∧ Sk a 124 [(2, .int .i64 x2), (3, .pointer (some ⟨b11, 0, none⟩)), (4, .pointer (some ⟨b18, 0, none⟩)), (8, v51), (9, .int .i64 z49.2), (12, v103), (86, .bool s174)] ∧ Below w0.heap.size w0 w ∧ Rd (Sl 1 RInt) w v51 z49.1 (rb52 ++ []) ∧ Own w0.heap.size (rb52 ++ []) w ∧ Rd (Sl 1 RInt) w v103 z101.1 (rb104 ++ []) ∧ Own w0.heap.size (rb104 ++ []) w ∧ Blk w b11 #[.int .i64 x0.size, v14] 24 ∧ Blk w b18 #[.int .i64 x1.vars, v21] 44) ?_ ?_
       ·
        refine x_reg ?_
        refine o_move F rfl rfl (fun a F => ?_)
        refine o_lss F rfl rfl rfl (fun a F => ?_)
        refine o_move F rfl rfl (fun a F => ?_)
        rcases bcases (decide (z163 < 0)) with hb175 | hb175
        ·
         replace hR := ifT hb175 hR
         have F := F.eq (t := 76) rfl (congrArg Value.bool hb175)
         refine o_no F rfl rfl (fun a F => ?_)
         refine o_no F rfl rfl (fun a F => ?_)
         refine o_no F rfl rfl (fun a F => ?_)
         refine o_no F rfl rfl (fun a F => ?_)
         refine o_pickt F rfl rfl rfl (fun a F => ?_)
         refine o_move F rfl rfl (fun a F => ?_)
         refine o_no F rfl rfl (fun a F => ?_)
         refine o_no F rfl rfl (fun a F => ?_)
         refine o_no F rfl rfl (fun a F => ?_)
         refine o_pickt F rfl rfl rfl (fun a F => ?_)
         refine x_end ?_
         refine x_tn ?_
         exact ⟨true, (Option.some.inj hR).symm, F.sub (sc rfl (sc rfl (sc rfl (sc rfl (sc rfl (sc rfl (sc rfl sn))))))), hB, h57, o58, h109, o110, K12, K19⟩
        ·
         replace hR := ifF hb175 hR
         have F := F.eq (t := 76) rfl (congrArg Value.bool hb175)
         refine o_move F rfl rfl (fun a F => ?_)
         refine o_move F rfl rfl (fun a F => ?_)
         obtain ⟨z176, c177, hR⟩ := bnd_some hR
         refine o_says F rfl Tryz.call26 rfl (eqq_says (fun y => Rd (Sl 1 RInt) _ _ y _) c177 h57 (fun hy => eqInt64S_any _ _ _ _ _ _ h109.r hy.r h109.m hy.m)) (fun a w l F => ?_)
         replace hB := Below.through l hB
         replace h57 := h57.go l
         replace o58 := o58.go l
         replace h109 := h109.go l
         replace o110 := o110.go l
         replace K12 := K12.thru l
         replace K19 := K19.thru l
         refine o_not F rfl rfl (fun a F => ?_)
         refine o_pickf F rfl rfl rfl (fun a F => ?_)
         refine o_move F rfl rfl (fun a F => ?_)
         rcases bcases (!z176) with hb178 | hb178
         ·
          replace hR := ifT hb178 hR
          have F := F.eq (t := 82) rfl (congrArg Value.bool hb178)
          refine o_no F rfl rfl (fun a F => ?_)
          refine o_no F rfl rfl (fun a F => ?_)
          refine o_no F rfl rfl (fun a F => ?_)
          refine o_pickt F rfl rfl rfl (fun a F => ?_)
          refine x_end ?_
          refine x_tn ?_
          exact ⟨true, (Option.some.inj hR).symm, F.sub (sc rfl (sc rfl (sc rfl (sc rfl (sc rfl (sc rfl (sc rfl sn))))))), hB, h57, o58, h109, o110, K12, K19⟩
         ·
          replace hR := ifF hb178 hR
          have F := F.eq (t := 82) rfl (congrArg Value.bool hb178)
          refine o_move F rfl rfl (fun a F => ?_)
          refine o_move F rfl rfl (fun a F => ?_)
          refine o_neq F rfl rfl rfl (fun a F => ?_)
          refine o_pickf F rfl rfl rfl (fun a F => ?_)
          refine x_end ?_
          refine x_tn ?_
          exact ⟨(z101.2 != z49.2), (Option.some.inj hR).symm, F.sub (sc rfl (sc rfl (sc rfl (sc rfl (sc rfl (sc rfl (sc rfl sn))))))), hB, h57, o58, h109, o110, K12, K19⟩
       ·
        intro a w ⟨s174, ho173, F, hB, h57, o58, h109, o110, K12, K19⟩
        subst ho173
        have hR := then_nx hk172
        refine x_tn ?_
        refine x_if F rfl (fun hb179 => ?_) (fun hb179 => ?_)
        ·
         replace hR := ifT hb179 hR
         refine x_seq ?_
         refine x_reg ?_
         refine o_assign F rfl rfl (fun a F => ?_)
         refine x_end ?_
         refine x_tn ?_
         refine x_ret ?_
         refine x_tr ?_
         refine x_res1 F rfl (rv_t F rfl) ?_
         obtain rfl := Option.some.inj hR
         exact ⟨rfl, hB⟩
        ·
         replace hR := ifF hb179 hR
         refine x_skip ?_
         refine x_tn ?_
         refine x_seq ?_
         refine x_reg ?_
         refine o_assign F rfl rfl (fun a F => ?_)
         refine x_end ?_
         refine x_tn ?_
         refine x_seq ?_
         refine x_reg ?_
         refine o_move F rfl rfl (fun a F => ?_)
         refine o_move F rfl rfl (fun a F => ?_)
         obtain ⟨z180, c181, hR⟩ := bnd_some hR
         refine o_markS F rfl Tryz.call30 rfl (mkq_markS c181 (fun h0 h1 => markInt64S_any _ _ _ _ _ _ h109.r o110 h0 h1)) (fun a w l h182 o183 F => ?_)
         replace h57 := h57.goO l d111
         replace o58 := o58.goO l d111
         replace K12 := K12.only l (Dj.in1 d114)
         replace K19 := K19.only l (Dj.in1 d115)
         replace hB := hB.o l (Own.lo o110) hB.size
         have iz180 := mkq_i c181
         refine o_assign F rfl rfl (fun a F => ?_)
         refine x_end ?_
         refine x_tn ?_
         refine x_seq ?_
         refine x_reg ?_
         refine o_assign F rfl rfl (fun a F => ?_)
         refine x_end ?_
         refine x_tn ?_
         refine x_seq ?_
         refine x_reg ?_
         refine o_move F rfl rfl (fun a F => ?_)
         refine o_move F rfl rfl (fun a F => ?_)
         refine o_saysI F rfl Tryz.call31 rfl (mkq_says c181 (fun h0 h1 => heldInt64S_any _ _ _ _ _ h182.r h182.m h0 h1)) (fun a w l iz180 F => ?_)
         replace hB := Below.through l hB
         replace h57 := h57.go l
         replace o58 := o58.go l
         replace h182 := h182.go l
         replace o183 := o183.go l
         replace K12 := K12.thru l
         replace K19 := K19.thru l
         refine o_assign F rfl rfl (fun a F => ?_)
         refine x_end ?_
         refine x_tn ?_
         refine x_seq ?_
         refine x_seq ?_
         refine x_reg ?_
         refine o_move F rfl rfl (fun a F => ?_)
         refine o_lss F rfl rfl rfl (fun a F => ?_)
         refine x_end ?_
         refine x_tn ?_
         refine x_if F rfl (fun hb184 => ?_) (fun hb184 => ?_)
         ·
          replace hR := ifT hb184 hR
          refine x_seq ?_
          refine x_reg ?_
          refine o_assign F rfl rfl (fun a F => ?_)
          refine x_end ?_
          refine x_tn ?_
          refine x_ret ?_
          refine x_tr ?_
          refine x_res1 F rfl (rv_t F rfl) ?_
          obtain rfl := Option.some.inj hR
          exact ⟨rfl, hB⟩
         ·
          replace hR := ifF hb184 hR
          refine x_skip ?_
          refine x_tn ?_
          refine x_seq ?_
          refine x_seq ?_
          refine x_reg ?_
          refine o_move F rfl rfl (fun a F => ?_)
          refine o_move F rfl rfl (fun a F => ?_)
          refine o_neq F rfl rfl rfl (fun a F => ?_)
          refine x_end ?_
          refine x_tn ?_
          refine x_if F rfl (fun hb185 => ?_) (fun hb185 => ?_)
          ·
           replace hR := ifT hb185 hR
           refine x_seq ?_
           refine x_reg ?_
           refine o_assign F rfl rfl (fun a F => ?_)
           refine x_end ?_
           refine x_tn ?_
           refine x_ret ?_
           refine x_tr ?_
           refine x_res1 F rfl (rv_t F rfl) ?_
           obtain rfl := Option.some.inj hR
           exact ⟨rfl, hB⟩
          ·
           replace hR := ifF hb185 hR
           refine x_skip ?_
           refine x_tn ?_
           refine x_seq ?_
           refine x_drawn (by kernel_rfl) (fun w l => ?_)
           replace hB := Below.through l hB
           replace h57 := h57.go l
           replace o58 := o58.go l
           replace h182 := h182.go l
           replace o183 := o183.go l
           replace K12 := K12.thru l
           replace K19 := K19.thru l
           refine b_q 0 (by kernel_rfl) rfl (by kernel_rfl) (by kernel_rfl) (by kernel_rfl) (by kernel_rfl) ?_
           refine v_val F rfl (fun w l => r_bloadA (cs := [.int .i64 x0.size, v14]) Tryz.isAgg24 Tryz.sizeOf24 F rfl (K12.thru l) rfl (fun j hj => by match j, hj with | 0, _ => rfl | 1, _ => rfl)) (fun a F => ?_)
           refine b_q 2 (by kernel_rfl) rfl (by kernel_rfl) (by kernel_rfl) (by kernel_rfl) (by kernel_rfl) ?_
           refine v_val F rfl (fun w l => r_bloadA (cs := [.int .i64 x1.vars, v21]) Tryz.isAgg44 Tryz.sizeOf44 F rfl (K19.thru l) rfl (fun j hj => by match j, hj with | 0, _ => rfl | 1, _ => rfl)) (fun a F => ?_)
           refine b_q0 4 rfl (by kernel_rfl) (by kernel_rfl) (by kernel_rfl) ?_
           refine v_val F rfl (fun w l => r_move F rfl) (fun a F => ?_)
           refine b_e 1 rfl (by kernel_rfl) ?_
           refine o_toA F rfl Tryz.call17 rfl (toTemplate_any _ _ _ _ (A0.go hB).r (A0.go hB).m (toq_some c33)) (fun a v186 b187 w l h188 o189 F => ?_)
           have d190 := Dj.new h57.m o189 (Nat.le_refl _)
           have d191 := Dj.new h182.m o189 (Nat.le_refl _)
           replace o189 := o189.mono hB.size
           replace hB := Below.through l hB
           replace h57 := h57.go l
           replace o58 := o58.go l
           replace h182 := h182.go l
           replace o183 := o183.go l
           refine x_end ?_
           refine x_tn ?_
           refine ⟨.inl l, ?_⟩
           refine b_e 3 rfl (by kernel_rfl) ?_
           refine o_toA F rfl Tryz.call24 rfl (toInstance_any _ _ _ _ (A1.go hB).r (A1.go hB).m (toq_some c41)) (fun a v192 b193 w l h194 o195 F => ?_)
           have d196 := Dj.new h57.m o195 (Nat.le_refl _)
           have d197 := Dj.new h182.m o195 (Nat.le_refl _)
           have d198 := Dj.new h188.m o195 (Nat.le_refl _)
           replace o195 := o195.mono hB.size
           replace hB := Below.through l hB
           replace h57 := h57.go l
           replace o58 := o58.go l
           replace h182 := h182.go l
           replace o183 := o183.go l
           replace h188 := h188.go l
           replace o189 := o189.go l
           refine x_end ?_
           refine x_tn ?_
           refine ⟨.inl l, ?_⟩
           refine b_e 5 rfl (by kernel_rfl) ?_
           refine o_gives F rfl Tryz.call50 rfl (impl_SmallestReason_c z101 c102 _ h188 h194 hx2) (fun a vv w l ⟨v199, rb200, hv204, h202, i203⟩ F => ?_)
           subst vv
           have o206 := h202.own (Own.nil _ _)
           have h205 := h202.rd
           have d207 := Dj.new h57.m o206 (Nat.le_refl _)
           have d208 := Dj.new h182.m o206 (Nat.le_refl _)
           replace o206 := o206.mono hB.size
           replace hB := Below.through l hB
           replace h57 := h57.go l
           replace o58 := o58.go l
           replace h182 := h182.go l
           replace o183 := o183.go l
           refine x_end ?_
           refine x_tn ?_
           refine ⟨.inl l, ?_⟩
           refine b_q0 6 rfl (by kernel_rfl) (by kernel_rfl) (by kernel_rfl) ?_
           refine v_val F rfl (fun w l => r_move F rfl) (fun a F => ?_)
           refine b_q 7 (by kernel_rfl) rfl (by kernel_rfl) (by kernel_rfl) (by kernel_rfl) (by kernel_rfl) ?_
           refine v_val F rfl (fun w l => r_extract F rfl rfl) (fun a F => ?_)
           refine b_q 8 (by kernel_rfl) rfl (by kernel_rfl) (by kernel_rfl) (by kernel_rfl) (by kernel_rfl) ?_
           refine v_val F rfl (fun w l => r_extract F rfl rfl) (fun a F => ?_)
           refine b_q0 9 rfl (by kernel_rfl) (by kernel_rfl) (by kernel_rfl) ?_
           refine v_val F rfl (fun w l => r_assign F rfl) (fun a F => ?_)
           refine b_q0 10 rfl (by kernel_rfl) (by kernel_rfl) (by kernel_rfl) ?_
           refine v_val F rfl (fun w l => r_assign F rfl) (fun a F => ?_)
           refine b_end (by kernel_rfl) ?_
           refine x_tn ?_
           refine x_seq ?_
           refine x_seq ?_
           obtain ⟨o212, hR, hk213⟩ := thn_some hR
           refine x_cutQ (fun a w => ∃ (s215 : Bool), o212 = .nx s215 ∧ Sk a 124 [(12, v103), (15, .int .i64 z180), (115, .bool s215)] ∧ Below w0.heap.size w0 w ∧ Rd (Sl 1 RInt) w v103 (mkS mkI cI z101.1 1) (rb104 ++ []) ∧ Own w0.heap.size (rb104 ++ []) w) ?_ ?_
           ·
            refine x_reg ?_
            refine o_move F rfl rfl (fun a F => ?_)
            refine o_move F rfl rfl (fun a F => ?_)
            obtain ⟨z216, c217, hR⟩ := bnd_some hR
            refine o_says F rfl Tryz.call26 rfl (eqq_says (fun y => Rd (Sl 1 RInt) _ _ y _) c217 h57 (fun hy => eqInt64S_any _ _ _ _ _ _ h205.r hy.r h205.m hy.m)) (fun a w l F => ?_)
            replace hB := Below.through l hB
            replace h182 := h182.go l
            replace o183 := o183.go l
            refine o_not F rfl rfl (fun a F => ?_)
            refine o_move F rfl rfl (fun a F => ?_)
            rcases bcases (!z216) with hb218 | hb218
            ·
             replace hR := ifT hb218 hR
             have F := F.eq (t := 111) rfl (congrArg Value.bool hb218)
             refine o_no F rfl rfl (fun a F => ?_)
             refine o_no F rfl rfl (fun a F => ?_)
             refine o_no F rfl rfl (fun a F => ?_)
             refine o_pickt F rfl rfl rfl (fun a F => ?_)
             refine x_end ?_
             refine x_tn ?_
             exact ⟨true, (Option.some.inj hR).symm, F.sub (sc rfl (sc rfl (sc rfl sn))), hB, h182, o183⟩
            ·
             replace hR := ifF hb218 hR
             have F := F.eq (t := 111) rfl (congrArg Value.bool hb218)
             refine o_move F rfl rfl (fun a F => ?_)
             refine o_move F rfl rfl (fun a F => ?_)
             refine o_neq F rfl rfl rfl (fun a F => ?_)
             refine o_pickf F rfl rfl rfl (fun a F => ?_)
             refine x_end ?_
             refine x_tn ?_
             exact ⟨(z101.2 != z49.2), (Option.some.inj hR).symm, F.sub (sc rfl (sc rfl (sc rfl sn))), hB, h182, o183⟩
           ·
            intro a w ⟨s215, ho214, F, hB, h182, o183⟩
            subst ho214
            have hR := then_nx hk213
            refine x_tn ?_
            refine x_if F rfl (fun hb219 => ?_) (fun hb219 => ?_)
            ·
             replace hR := ifT hb219 hR
             refine x_seq ?_
             refine x_reg ?_
             refine o_assign F rfl rfl (fun a F => ?_)
             refine x_end ?_
             refine x_tn ?_
             refine x_ret ?_
             refine x_tr ?_
             refine x_res1 F rfl (rv_t F rfl) ?_
             obtain rfl := Option.some.inj hR
             exact ⟨rfl, hB⟩
            ·
             replace hR := ifF hb219 hR
             refine x_skip ?_
             refine x_tn ?_
             refine x_seq ?_
             refine x_reg ?_
             refine o_assign F rfl rfl (fun a F => ?_)
             refine x_end ?_
             refine x_tn ?_
             refine x_seq ?_
             refine x_reg ?_
             refine o_move F rfl rfl (fun a F => ?_)
             refine o_move F rfl rfl (fun a F => ?_)
             refine o_saysI F rfl Tryz.call31 rfl (mkq_says c181 (fun h0 h1 => heldInt64S_any _ _ _ _ _ h182.r h182.m h0 h1)) (fun a w l iz180 F => ?_)
             replace hB := Below.through l hB
             refine o_assign F rfl rfl (fun a F => ?_)
             refine x_end ?_
             refine x_tn ?_
             refine x_seq ?_
             refine x_seq ?_
             refine x_reg ?_
             refine o_move F rfl rfl (fun a F => ?_)
             refine o_lss F rfl rfl rfl (fun a F => ?_)
             refine x_end ?_
             refine x_tn ?_
             refine x_if F rfl (fun hb220 => ?_) (fun hb220 => ?_)
             ·
              replace hR := ifT hb220 hR
              refine x_seq ?_
              refine x_reg ?_
              refine o_assign F rfl rfl (fun a F => ?_)
              refine x_end ?_
              refine x_tn ?_
              refine x_ret ?_
              refine x_tr ?_
              refine x_res1 F rfl (rv_t F rfl) ?_
              obtain rfl := Option.some.inj hR
              exact ⟨rfl, hB⟩
             ·
              replace hR := ifF hb220 hR
              refine x_skip ?_
              refine x_tn ?_
              refine x_seq ?_
              refine x_seq ?_
              refine x_reg ?_
              refine o_move F rfl rfl (fun a F => ?_)
              refine o_move F rfl rfl (fun a F => ?_)
              refine o_neq F rfl rfl rfl (fun a F => ?_)
              refine x_end ?_
              refine x_tn ?_
              refine x_if F rfl (fun hb221 => ?_) (fun hb221 => ?_)
              ·
               replace hR := ifT hb221 hR
               refine x_seq ?_
               refine x_reg ?_
               refine o_assign F rfl rfl (fun a F => ?_)
               refine x_end ?_
               refine x_tn ?_
               refine x_ret ?_
               refine x_tr ?_
               refine x_res1 F rfl (rv_t F rfl) ?_
               obtain rfl := Option.some.inj hR
               exact ⟨rfl, hB⟩
              ·
               replace hR := ifF hb221 hR
               refine x_skip ?_
               refine x_tn ?_
               refine x_seq ?_
               refine x_reg ?_
               refine o_assign F rfl rfl (fun a F => ?_)
               refine x_end ?_
               refine x_tn ?_
               refine x_ret ?_
               refine x_res1 F rfl (rv_t F rfl) ?_
               obtain rfl := Option.some.inj hR
               exact ⟨rfl, hB⟩
end
end Go.Proofs.YtfepllddlmhjiaaGreat
