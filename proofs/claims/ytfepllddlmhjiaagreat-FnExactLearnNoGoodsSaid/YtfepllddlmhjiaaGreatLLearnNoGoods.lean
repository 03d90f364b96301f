/-
  Laws of the program as plain functions, and that they compute them. Printed by lawfx.py.
-/
import Derived.Test.YtfepllddlmhjiaaGreatS4d
import Derived.Test.YtfepllddlmhjiaaGreatY
import Derived.Test.YtfepllddlmhjiaaGreatL2
import Derived.Test.YtfepllddlmhjiaaGreatL6
import Derived.Test.YtfepllddlmhjiaaGreatL7
namespace Go.Proofs.YtfepllddlmhjiaaGreat
set_option linter.unusedVariables false
set_option linter.unusedSimpArgs false
set_option maxRecDepth 100000
open Go.RowKit
noncomputable section
def laws_FnExactLearnNoGoods (N : Nat) (x0 : Template) (x1 : Instance) (x2 : Int) : Option Bool :=
 bnd (szq 1048576 (x0.sz)) fun z26 =>
 if (decide (z26 < 0)) then
  some true
 else
  bnd (szq z26 (x1.sz)) fun z29 =>
  if (decide (z29 < 0)) then
   some true
  else
   bnd (toq (x0.sz)) fun z32 =>
   bnd (toq (x1.sz)) fun z40 =>
   bnd (spec_LearnNoGoods N x0 x1 x2) fun z49 =>
   bnd (impl_LearnNoGoods N x0 x1 x2) fun z98 =>
   thn (σ := Bool) (
    bnd (eqq z98.1 z49.1) fun z123 =>
    if (!z123) then  some (.nx true) else  some (.nx (z98.2 != z49.2))) fun s122 =>
   if s122 then
    some false
   else
    bnd (eqq x0 x0) fun z139 =>
    if (!z139) then
     some false
    else
     bnd (eqq x1 x1) fun z154 =>
     if (!z154) then
      some false
     else
      bnd (mkq 1 (x0.cnt)) fun z157 =>
      bnd (mkq z157 (x1.cnt)) fun z161 =>
      thn (σ := Bool) (
       if (decide (z161 < 0)) then  some (.nx true) else  bnd (eqq z98.1 z49.1) fun z174 =>
        if (!z174) then  some (.nx true) else  some (.nx (z98.2 != z49.2))) fun s172 =>
      if s172 then
       some false
      else
       bnd (mkq 1 (cntS (cntS Literal.ecnt) z98.1)) fun z178 =>
       if (decide (z178 < 0)) then
        some false
       else
        if (z178 != z178) then
         some false
        else
         thn (σ := Bool) (
          bnd (eqq z98.1 z49.1) fun z215 =>
          if (!z215) then  some (.nx true) else  some (.nx (z98.2 != z49.2))) fun s214 =>
         if s214 then
          some false
         else
          if (decide (z178 < 0)) then
           some false
          else
           if (z178 != z178) then
            some false
           else
            some true
set_option maxHeartbeats 1000000 in
theorem laws_FnExactLearnNoGoods_c {N : Nat} {x0 : Template} {x1 : Instance} {x2 : Int} (r : Bool) (hR : laws_FnExactLearnNoGoods N x0 x1 x2 = some r) {v0 : Value} {b0 : List Nat} {v1 : Value} {b1 : List Nat} (w0 : World) (A0 : Rd (Agg 2 RTemplate) w0 v0 x0 b0) (A1 : Rd (Agg 2 RInstance) w0 v1 x1 b1) (hx2 : I64 x2) : Calls Tryz.prog 10 #[v0, v1, .int .i64 x2] w0 (Says (.bool r) w0) := by
 unfold laws_FnExactLearnNoGoods at hR
 refine x_enter (L := [(0, v0), (1, v1), (2, .int .i64 x2)]) Tryz.func10 rfl rfl rfl (sc rfl (sc rfl (sc rfl sn))) (fun a F => ?_)
 have hB := Below.refl w0.heap.size w0
 refine x_seq ?_
 refine x_reg ?_
 obtain ⟨v14, b15, e17, i13, h16, _⟩ := RTemplate.rd (A0.go hB)
 subst e17
 refine o_box F rfl rfl rfl (fun a w b11 K12 l BK12 F => ?_)
 have CK12 := Nat.le_trans hB.size BK12
 replace hB := Below.through l hB
 obtain ⟨v21, b22, e24, i20, h23, _⟩ := RInstance.rd (A1.go hB)
 subst e24
 refine o_box F rfl rfl rfl (fun a w b18 K19 l BK19 F => ?_)
 have nb25 := Dj.bb K12 BK19
 have CK19 := Nat.le_trans hB.size BK19
 replace hB := Below.through l hB
 replace K12 := K12.thru l
 refine o_assign F rfl rfl (fun a F => ?_)
 refine x_end ?_
 refine x_tn ?_
 refine x_seq ?_
 refine x_reg ?_
 refine o_assign F rfl rfl (fun a F => ?_)
 refine x_end ?_
 refine x_tn ?_
 refine x_seq ?_
 refine x_reg ?_
 refine o_bloadA (cs := [.int .i64 x0.size, v14]) Tryz.isAgg24 Tryz.sizeOf24 F rfl rfl K12 rfl (fun j hj => by match j, hj with | 0, _ => rfl | 1, _ => rfl) (fun a F => ?_)
 refine o_move F rfl rfl (fun a F => ?_)
 obtain ⟨z26, c27, hR⟩ := bnd_some hR
 refine o_saysI F rfl Tryz.call14 rfl (szq_says c27 (fun h0 h1 => szTemplate_any _ _ _ _ _ (A0.go hB).r (A0.go hB).m h0 h1)) (fun a w l iz26 F => ?_)
 replace hB := Below.through l hB
 replace K12 := K12.thru l
 replace K19 := K19.thru l
 refine o_assign F rfl rfl (fun a F => ?_)
 refine x_end ?_
 refine x_tn ?_
 refine x_seq ?_
 refine x_seq ?_
 refine x_reg ?_
 refine o_move F rfl rfl (fun a F => ?_)
 refine o_lss F rfl rfl rfl (fun a F => ?_)
 refine x_end ?_
 refine x_tn ?_
 refine x_if F rfl (fun hb28 => ?_) (fun hb28 => ?_)
 ·
  replace hR := ifT hb28 hR
  refine x_seq ?_
  refine x_reg ?_
  refine o_assign F rfl rfl (fun a F => ?_)
  refine x_end ?_
  refine x_tn ?_
  refine x_ret ?_
  refine x_tr ?_
  refine x_res1 F rfl (rv_t F rfl) ?_
  obtain rfl := Option.some.inj hR
  exact ⟨rfl, hB⟩
 ·
  replace hR := ifF hb28 hR
  refine x_skip ?_
  refine x_tn ?_
  refine x_seq ?_
  refine x_reg ?_
  refine o_bloadA (cs := [.int .i64 x1.vars, v21]) Tryz.isAgg44 Tryz.sizeOf44 F rfl rfl K19 rfl (fun j hj => by match j, hj with | 0, _ => rfl | 1, _ => rfl) (fun a F => ?_)
  refine o_move F rfl rfl (fun a F => ?_)
  obtain ⟨z29, c30, hR⟩ := bnd_some hR
  refine o_saysI F rfl Tryz.call22 rfl (szq_says c30 (fun h0 h1 => szInstance_any _ _ _ _ _ (A1.go hB).r (A1.go hB).m h0 h1)) (fun a w l iz29 F => ?_)
  replace hB := Below.through l hB
  replace K12 := K12.thru l
  replace K19 := K19.thru l
  refine o_assign F rfl rfl (fun a F => ?_)
  refine x_end ?_
  refine x_tn ?_
  refine x_seq ?_
  refine x_seq ?_
  refine x_reg ?_
  refine o_move F rfl rfl (fun a F => ?_)
  refine o_lss F rfl rfl rfl (fun a F => ?_)
  refine x_end ?_
  refine x_tn ?_
  refine x_if F rfl (fun hb31 => ?_) (fun hb31 => ?_)
  ·
   replace hR := ifT hb31 hR
   refine x_seq ?_
   refine x_reg ?_
   refine o_assign F rfl rfl (fun a F => ?_)
   refine x_end ?_
   refine x_tn ?_
   refine x_ret ?_
   refine x_tr ?_
   refine x_res1 F rfl (rv_t F rfl) ?_
   obtain rfl := Option.some.inj hR
   exact ⟨rfl, hB⟩
  ·
   replace hR := ifF hb31 hR
   refine x_skip ?_
   refine x_tn ?_
   refine x_seq ?_
   refine x_drawn (by kernel_rfl) (fun w l => ?_)
   replace hB := Below.through l hB
   replace K12 := K12.thru l
   replace K19 := K19.thru l
   refine b_q 0 (by kernel_rfl) rfl (by kernel_rfl) (by kernel_rfl) (by kernel_rfl) (by kernel_rfl) ?_
   refine v_val F rfl (fun w l => r_bloadA (cs := [.int .i64 x0.size, v14]) Tryz.isAgg24 Tryz.sizeOf24 F rfl (K12.thru l) rfl (fun j hj => by match j, hj with | 0, _ => rfl | 1, _ => rfl)) (fun a F => ?_)
   refine b_q 2 (by kernel_rfl) rfl (by kernel_rfl) (by kernel_rfl) (by kernel_rfl) (by kernel_rfl) ?_
   refine v_val F rfl (fun w l => r_bloadA (cs := [.int .i64 x1.vars, v21]) Tryz.isAgg44 Tryz.sizeOf44 F rfl (K19.thru l) rfl (fun j hj => by match j, hj with | 0, _ => rfl | 1, _ => rfl)) (fun a F => ?_)
   refine b_q0 4 rfl (by kernel_rfl) (by kernel_rfl) (by kernel_rfl) ?_
   refine v_val F rfl (fun w l => r_move F rfl) (fun a F => ?_)
   refine b_e 1 rfl (by kernel_rfl) ?_
   obtain ⟨z32, c33, hR⟩ := bnd_some hR
   refine o_toA F rfl Tryz.call17 rfl (toTemplate_any _ _ _ _ (A0.go hB).r (A0.go hB).m (toq_some c33)) (fun a v34 b35 w l h36 o37 F => ?_)
   have d38 := Dj.new (inm1 K12) o37 (Nat.le_refl _)
   have d39 := Dj.new (inm1 K19) o37 (Nat.le_refl _)
   replace o37 := o37.mono hB.size
   replace hB := Below.through l hB
   replace K12 := K12.thru l
   replace K19 := K19.thru l
   refine x_end ?_
   refine x_tn ?_
   refine ⟨.inl l, ?_⟩
   refine b_e 3 rfl (by kernel_rfl) ?_
   obtain ⟨z40, c41, hR⟩ := bnd_some hR
   refine o_toA F rfl Tryz.call24 rfl (toInstance_any _ _ _ _ (A1.go hB).r (A1.go hB).m (toq_some c41)) (fun a v42 b43 w l h44 o45 F => ?_)
   have d46 := Dj.new h36.m o45 (Nat.le_refl _)
   have d47 := Dj.new (inm1 K12) o45 (Nat.le_refl _)
   have d48 := Dj.new (inm1 K19) o45 (Nat.le_refl _)
   replace o45 := o45.mono hB.size
   replace hB := Below.through l hB
   replace h36 := h36.go l
   replace o37 := o37.go l
   replace K12 := K12.thru l
   replace K19 := K19.thru l
   refine x_end ?_
   refine x_tn ?_
   refine ⟨.inl l, ?_⟩
   refine b_e 5 rfl (by kernel_rfl) ?_
   obtain ⟨z49, c50, hR⟩ := bnd_some hR
   refine o_gives F rfl Tryz.call54 rfl (spec_LearnNoGoods_c z49 c50 _ h36 h44 hx2) (fun a vv w l ⟨v51, rb52, ib53, hv56, h54, i55⟩ F => ?_)
   subst vv
   have h57 := h54.rd
   replace hB := Below.through l hB
   replace K12 := K12.thru l
   replace K19 := K19.thru l
   refine x_end ?_
   refine x_tn ?_
   refine ⟨.inl l, ?_⟩
   refine b_q0 6 rfl (by kernel_rfl) (by kernel_rfl) (by kernel_rfl) ?_
   refine v_val F rfl (fun w l => r_move F rfl) (fun a F => ?_)
   refine b_q 7 (by kernel_rfl) rfl (by kernel_rfl) (by kernel_rfl) (by kernel_rfl) (by kernel_rfl) ?_
   refine v_val F rfl (fun w l => r_extract F rfl rfl) (fun a F => ?_)
   refine b_q 8 (by kernel_rfl) rfl (by kernel_rfl) (by kernel_rfl) (by kernel_rfl) (by kernel_rfl) ?_
   refine v_val F rfl (fun w l => r_extract F rfl rfl) (fun a F => ?_)
   refine b_q0 9 rfl (by kernel_rfl) (by kernel_rfl) (by kernel_rfl) ?_
   refine v_val F rfl (fun w l => r_assign F rfl) (fun a F => ?_)
   refine b_q0 10 rfl (by kernel_rfl) (by kernel_rfl) (by kernel_rfl) ?_
   refine v_val F rfl (fun w l => r_assign F rfl) (fun a F => ?_)
   refine b_end (by kernel_rfl) ?_
   refine x_tn ?_
   refine x_seq ?_
   refine x_reg ?_
   refine o_bloadA (cs := [.int .i64 x0.size, v14]) Tryz.isAgg24 Tryz.sizeOf24 F rfl rfl K12 rfl (fun j hj => by match j, hj with | 0, _ => rfl | 1, _ => rfl) (fun a F => ?_)
   refine o_toA F rfl Tryz.call17 rfl (toTemplate_any _ _ _ _ (A0.go hB).r (A0.go hB).m (toq_some c33)) (fun a v58 b59 w l h60 o61 F => ?_)
   have d62 := Dj.new h57.m o61 (Nat.le_refl _)
   have d63 := Dj.new (inm1 K12) o61 (Nat.le_refl _)
   have d64 := Dj.new (inm1 K19) o61 (Nat.le_refl _)
   replace o61 := o61.mono hB.size
   replace hB := Below.through l hB
   replace h57 := h57.go l
   replace K12 := K12.thru l
   replace K19 := K19.thru l
   refine o_alloc Tryz.zeroValue33 F rfl rfl (fun a w b65 K66 l BK66 F => ?_)
   have nb67 := Dj.bb K12 BK66
   have nb68 := Dj.bb K19 BK66
   have d69 := (dj1 h57.m BK66).symm
   have d70 := (dj1 h60.m BK66).symm
   have CK66 := Nat.le_trans hB.size BK66
   replace hB := Below.through l hB
   replace h57 := h57.go l
   replace h60 := h60.go l
   replace o61 := o61.go l
   replace K12 := K12.thru l
   replace K19 := K19.thru l
   obtain ⟨v72, b73, e75, i71, h74, _⟩ := RTemplate.rd h60
   subst e75
   refine o_bstoreA (vs := [.int .i64 x0.size, v72]) Tryz.sizeOf33 F rfl rfl rfl K66 (oc rfl (oc h74.r.one on)) (Nat.le_of_ble_eq_true rfl) rfl (fun w K66 l => ?_)
   replace hB := hB.o l (fun c hc => by rw [List.mem_singleton] at hc; rw [hc]; exact CK66) hB.size
   replace h57 := h57.goO l d69
   replace h60 := h60.goO l d70
   replace o61 := o61.goO l d70
   replace K12 := K12.only l (by simpa using nb67)
   replace K19 := K19.only l (by simpa using nb68)
   refine x_end ?_
   refine x_tn ?_
   refine x_seq ?_
   refine x_reg ?_
   refine o_bloadA (cs := [.int .i64 x1.vars, v21]) Tryz.isAgg44 Tryz.sizeOf44 F rfl rfl K19 rfl (fun j hj => by match j, hj with | 0, _ => rfl | 1, _ => rfl) (fun a F => ?_)
   refine o_toA F rfl Tryz.call24 rfl (toInstance_any _ _ _ _ (A1.go hB).r (A1.go hB).m (toq_some c41)) (fun a v76 b77 w l h78 o79 F => ?_)
   have d80 := Dj.new h57.m o79 (Nat.le_refl _)
   have d81 := Dj.new h60.m o79 (Nat.le_refl _)
   have d82 := Dj.new (inm1 K12) o79 (Nat.le_refl _)
   have d83 := Dj.new (inm1 K19) o79 (Nat.le_refl _)
   have d84 := Dj.new (inm1 K66) o79 (Nat.le_refl _)
   replace o79 := o79.mono hB.size
   replace hB := Below.through l hB
   replace h57 := h57.go l
   replace h60 := h60.go l
   replace o61 := o61.go l
   replace K12 := K12.thru l
   replace K19 := K19.thru l
   replace K66 := K66.thru l
   refine o_alloc Tryz.zeroValue51 F rfl rfl (fun a w b85 K86 l BK86 F => ?_)
   have nb87 := Dj.bb K12 BK86
   have nb88 := Dj.bb K19 BK86
   have nb89 := Dj.bb K66 BK86
   have d90 := (dj1 h57.m BK86).symm
   have d91 := (dj1 h60.m BK86).symm
   have d92 := (dj1 h78.m BK86).symm
   have CK86 := Nat.le_trans hB.size BK86
   replace hB := Below.through l hB
   replace h57 := h57.go l
   replace h60 := h60.go l
   replace o61 := o61.go l
   replace h78 := h78.go l
   replace o79 := o79.go l
   replace K12 := K12.thru l
   replace K19 := K19.thru l
   replace K66 := K66.thru l
   obtain ⟨v94, b95, e97, i93, h96, _⟩ := RInstance.rd h78
   subst e97
   refine o_bstoreA (vs := [.int .i64 x1.vars, v94]) Tryz.sizeOf51 F rfl rfl rfl K86 (oc rfl (oc h96.r.one on)) (Nat.le_of_ble_eq_true rfl) rfl (fun w K86 l => ?_)
   replace hB := hB.o l (fun c hc => by rw [List.mem_singleton] at hc; rw [hc]; exact CK86) hB.size
   replace h57 := h57.goO l d90
   replace h60 := h60.goO l d91
   replace o61 := o61.goO l d91
   replace h78 := h78.goO l d92
   replace o79 := o79.goO l d92
   replace K12 := K12.only l (by simpa using nb87)
   replace K19 := K19.only l (by simpa using nb88)
   replace K66 := K66.only l (by simpa using nb89)
   refine x_end ?_
   refine x_tn ?_
   refine x_seq ?_
   refine x_reg ?_
   refine o_bloadA (cs := [.int .i64 x0.size, v72]) Tryz.isAgg33 Tryz.sizeOf33 F rfl rfl K66 rfl (fun j hj => by match j, hj with | 0, _ => rfl | 1, _ => rfl) (fun a F => ?_)
   refine o_bloadA (cs := [.int .i64 x1.vars, v94]) Tryz.isAgg51 Tryz.sizeOf51 F rfl rfl K86 rfl (fun j hj => by match j, hj with | 0, _ => rfl | 1, _ => rfl) (fun a F => ?_)
   refine o_move F rfl rfl (fun a F => ?_)
   obtain ⟨z98, c99, hR⟩ := bnd_some hR
   refine o_gives F rfl Tryz.call55 rfl (impl_LearnNoGoods_c z98 c99 _ h60 h78 hx2) (fun a vv w l ⟨v100, rb101, ib102, hv106, h103, ow104, i105⟩ F => ?_)
   subst vv
   have o108 := h103.own ow104
   have h107 := h103.rd
   have d109 := Dj.new h57.m o108 (Nat.le_refl _)
   have d110 := Dj.new h60.m o108 (Nat.le_refl _)
   have d111 := Dj.new h78.m o108 (Nat.le_refl _)
   have d112 := Dj.new (inm1 K12) o108 (Nat.le_refl _)
   have d113 := Dj.new (inm1 K19) o108 (Nat.le_refl _)
   have d114 := Dj.new (inm1 K66) o108 (Nat.le_refl _)
   have d115 := Dj.new (inm1 K86) o108 (Nat.le_refl _)
   replace o108 := o108.mono hB.size
   replace hB := Below.through l hB
   replace h57 := h57.go l
   replace h60 := h60.go l
   replace o61 := o61.go l
   replace h78 := h78.go l
   replace o79 := o79.go l
   replace K12 := K12.thru l
   replace K19 := K19.thru l
   replace K66 := K66.thru l
   replace K86 := K86.thru l
   refine o_move F rfl rfl (fun a F => ?_)
   refine o_extract F rfl rfl rfl (fun a F => ?_)
   refine o_extract F rfl rfl rfl (fun a F => ?_)
   refine o_assign F rfl rfl (fun a F => ?_)
   refine o_assign F rfl rfl (fun a F => ?_)
   refine x_end ?_
   refine x_tn ?_
   refine x_seq ?_
   refine x_seq ?_
   obtain ⟨o119, hR, hk120⟩ := thn_some hR
   refine x_cutQ (fun a w => ∃ (s122 : Bool), o119 = .nx s122 ∧ Sk a 124 [(2, .int .i64 x2), (3, .pointer (some ⟨b11, 0, none⟩)), (4, .pointer (some ⟨b18, 0, none⟩)), (8, v51), (9, .int .i64 z49.2), (10, .pointer (some ⟨b65, 0, none⟩)), (11, .pointer (some ⟨b85, 0, none⟩)), (12, v100), (13, .int .i64 z98.2), (57, .bool s122)] ∧ Below w0.heap.size w0 w ∧ Rd (Sl 1 (RSl 2 RLiteral)) w v51 z49.1 (rb52 ++ ib53) ∧ Rd (Agg 2 RTemplate) w (.agg #[.int .i64 x0.size, v72]) x0 b59 ∧ Own w0.heap.size b59 w ∧ Rd (Agg 2 RInstance) w (.agg #[.int .i64 x1.vars, v94]) x1 b77 ∧ Own w0.heap.size b77 w ∧ Rd (Sl 1 (RSl 2 RLiteral)) w v100 z98.1 (rb101 ++ ib102) ∧ Own w0.heap.size (rb101 ++ ib102) w ∧ Blk w b11 #[.int .i64 x0.size, v14] 24 ∧ Blk w b18 #[.int .i64 x1.vars, v21] 44 ∧ Blk w b65 #[.int .i64 x0.size, v72] 33 ∧ Blk w b85 #[.int .i64 x1.vars, v94] 51) ?_ ?_
   ·
    refine x_reg ?_
    refine o_move F rfl rfl (fun a F => ?_)
    refine o_move F rfl rfl (fun a F => ?_)
    obtain ⟨z123, c124, hR⟩ := bnd_some hR
    refine o_says F rfl Tryz.call56 rfl (eqq_says (fun y => Rd (Sl 1 RLits) _ _ y _) c124 h57 (fun hy => eqLiteralSS_any _ _ _ _ _ _ h107.r hy.r h107.m hy.m)) (fun a w l F => ?_)
    replace hB := Below.through l hB
    replace h57 := h57.go l
    replace h60 := h60.go l
    replace o61 := o61.go l
    replace h78 := h78.go l
    replace o79 := o79.go l
    replace h107 := h107.go l
    replace o108 := o108.go l
    replace K12 := K12.thru l
    replace K19 := K19.thru l
    replace K66 := K66.thru l
    replace K86 := K86.thru l
    refine o_not F rfl rfl (fun a F => ?_)
    refine o_move F rfl rfl (fun a F => ?_)
    rcases bcases (!z123) with hb125 | hb125
    ·
     replace hR := ifT hb125 hR
     have F := F.eq (t := 53) rfl (congrArg Value.bool hb125)
     refine o_no F rfl rfl (fun a F => ?_)
     refine o_no F rfl rfl (fun a F => ?_)
     refine o_no F rfl rfl (fun a F => ?_)
     refine o_pickt F rfl rfl rfl (fun a F => ?_)
     refine x_end ?_
     refine x_tn ?_
     exact ⟨true, (Option.some.inj hR).symm, F.sub (sc rfl (sc rfl (sc rfl (sc rfl (sc rfl (sc rfl (sc rfl (sc rfl (sc rfl (sc rfl sn)))))))))), hB, h57, h60, o61, h78, o79, h107, o108, K12, K19, K66, K86⟩
    ·
     replace hR := ifF hb125 hR
     have F := F.eq (t := 53) rfl (congrArg Value.bool hb125)
     refine o_move F rfl rfl (fun a F => ?_)
     refine o_move F rfl rfl (fun a F => ?_)
     refine o_neq F rfl rfl rfl (fun a F => ?_)
     refine o_pickf F rfl rfl rfl (fun a F => ?_)
     refine x_end ?_
     refine x_tn ?_
     exact ⟨(z98.2 != z49.2), (Option.some.inj hR).symm, F.sub (sc rfl (sc rfl (sc rfl (sc rfl (sc rfl (sc rfl (sc rfl (sc rfl (sc rfl (sc rfl sn)))))))))), hB, h57, h60, o61, h78, o79, h107, o108, K12, K19, K66, K86⟩
   ·
    intro a w ⟨s122, ho121, F, hB, h57, h60, o61, h78, o79, h107, o108, K12, K19, K66, K86⟩
    subst ho121
    have hR := then_nx hk120
    refine x_tn ?_
    refine x_if F rfl (fun hb126 => ?_) (fun hb126 => ?_)
    ·
     replace hR := ifT hb126 hR
     refine x_seq ?_
     refine x_reg ?_
     refine o_assign F rfl rfl (fun a F => ?_)
     refine x_end ?_
     refine x_tn ?_
     refine x_ret ?_
     refine x_tr ?_
     refine x_res1 F rfl (rv_t F rfl) ?_
     obtain rfl := Option.some.inj hR
     exact ⟨rfl, hB⟩
    ·
     replace hR := ifF hb126 hR
     refine x_skip ?_
     refine x_tn ?_
     refine x_seq ?_
     refine x_seq ?_
     refine x_drawn (by kernel_rfl) (fun w l => ?_)
     replace hB := Below.through l hB
     replace h57 := h57.go l
     replace h60 := h60.go l
     replace o61 := o61.go l
     replace h78 := h78.go l
     replace o79 := o79.go l
     replace h107 := h107.go l
     replace o108 := o108.go l
     replace K12 := K12.thru l
     replace K19 := K19.thru l
     replace K66 := K66.thru l
     replace K86 := K86.thru l
     refine b_q 0 (by kernel_rfl) rfl (by kernel_rfl) (by kernel_rfl) (by kernel_rfl) (by kernel_rfl) ?_
     refine v_val F rfl (fun w l => r_bloadA (cs := [.int .i64 x0.size, v72]) Tryz.isAgg33 Tryz.sizeOf33 F rfl (K66.thru l) rfl (fun j hj => by match j, hj with | 0, _ => rfl | 1, _ => rfl)) (fun a F => ?_)
     refine b_q 1 (by kernel_rfl) rfl (by kernel_rfl) (by kernel_rfl) (by kernel_rfl) (by kernel_rfl) ?_
     refine v_val F rfl (fun w l => r_bloadA (cs := [.int .i64 x0.size, v14]) Tryz.isAgg24 Tryz.sizeOf24 F rfl (K12.thru l) rfl (fun j hj => by match j, hj with | 0, _ => rfl | 1, _ => rfl)) (fun a F => ?_)
     refine b_e 2 rfl (by kernel_rfl) ?_
     refine o_toA F rfl Tryz.call17 rfl (toTemplate_any _ _ _ _ (A0.go hB).r (A0.go hB).m (toq_some c33)) (fun a v127 b128 w l h129 o130 F => ?_)
     have d131 := Dj.new h57.m o130 (Nat.le_refl _)
     have d132 := Dj.new h60.m o130 (Nat.le_refl _)
     have d133 := Dj.new h78.m o130 (Nat.le_refl _)
     have d134 := Dj.new h107.m o130 (Nat.le_refl _)
     have d135 := Dj.new (inm1 K12) o130 (Nat.le_refl _)
     have d136 := Dj.new (inm1 K19) o130 (Nat.le_refl _)
     have d137 := Dj.new (inm1 K66) o130 (Nat.le_refl _)
     have d138 := Dj.new (inm1 K86) o130 (Nat.le_refl _)
     replace o130 := o130.mono hB.size
     replace hB := Below.through l hB
     replace h57 := h57.go l
     replace h60 := h60.go l
     replace o61 := o61.go l
     replace h78 := h78.go l
     replace o79 := o79.go l
     replace h107 := h107.go l
     replace o108 := o108.go l
     replace K12 := K12.thru l
     replace K19 := K19.thru l
     replace K66 := K66.thru l
     replace K86 := K86.thru l
     refine x_end ?_
     refine x_tn ?_
     refine ⟨.inl l, ?_⟩
     refine b_e 3 rfl (by kernel_rfl) ?_
     obtain ⟨z139, c140, hR⟩ := bnd_some hR
     refine o_says F rfl Tryz.call20 rfl (eqq_says (fun y => Rd (Agg 2 RTemplate) _ _ y _) c140 h129 (fun hy => eqTemplate_any _ _ _ _ _ _ h60.r hy.r h60.m hy.m)) (fun a w l F => ?_)
     replace hB := Below.through l hB
     replace h57 := h57.go l
     replace h60 := h60.go l
     replace o61 := o61.go l
     replace h78 := h78.go l
     replace o79 := o79.go l
     replace h107 := h107.go l
     replace o108 := o108.go l
     replace K12 := K12.thru l
     replace K19 := K19.thru l
     replace K66 := K66.thru l
     replace K86 := K86.thru l
     refine x_end ?_
     refine x_tn ?_
     refine ⟨.inl l, ?_⟩
     refine b_q 4 (by kernel_rfl) rfl (by kernel_rfl) (by kernel_rfl) (by kernel_rfl) (by kernel_rfl) ?_
     refine v_val F rfl (fun w l => r_not F rfl) (fun a F => ?_)
     refine b_end (by kernel_rfl) ?_
     refine x_tn ?_
     refine x_if F rfl (fun hb141 => ?_) (fun hb141 => ?_)
     ·
      replace hR := ifT hb141 hR
      refine x_seq ?_
      refine x_reg ?_
      refine o_assign F rfl rfl (fun a F => ?_)
      refine x_end ?_
      refine x_tn ?_
      refine x_ret ?_
      refine x_tr ?_
      refine x_res1 F rfl (rv_t F rfl) ?_
      obtain rfl := Option.some.inj hR
      exact ⟨rfl, hB⟩
     ·
      replace hR := ifF hb141 hR
      refine x_skip ?_
      refine x_tn ?_
      refine x_seq ?_
      refine x_seq ?_
      refine x_drawn (by kernel_rfl) (fun w l => ?_)
      replace hB := Below.through l hB
      replace h57 := h57.go l
      replace h60 := h60.go l
      replace o61 := o61.go l
      replace h78 := h78.go l
      replace o79 := o79.go l
      replace h107 := h107.go l
      replace o108 := o108.go l
      replace K12 := K12.thru l
      replace K19 := K19.thru l
      replace K66 := K66.thru l
      replace K86 := K86.thru l
      refine b_q 0 (by kernel_rfl) rfl (by kernel_rfl) (by kernel_rfl) (by kernel_rfl) (by kernel_rfl) ?_
      refine v_val F rfl (fun w l => r_bloadA (cs := [.int .i64 x1.vars, v94]) Tryz.isAgg51 Tryz.sizeOf51 F rfl (K86.thru l) rfl (fun j hj => by match j, hj with | 0, _ => rfl | 1, _ => rfl)) (fun a F => ?_)
      refine b_q 1 (by kernel_rfl) rfl (by kernel_rfl) (by kernel_rfl) (by kernel_rfl) (by kernel_rfl) ?_
      refine v_val F rfl (fun w l => r_bloadA (cs := [.int .i64 x1.vars, v21]) Tryz.isAgg44 Tryz.sizeOf44 F rfl (K19.thru l) rfl (fun j hj => by match j, hj with | 0, _ => rfl | 1, _ => rfl)) (fun a F => ?_)
      refine b_e 2 rfl (by kernel_rfl) ?_
      refine o_toA F rfl Tryz.call24 rfl (toInstance_any _ _ _ _ (A1.go hB).r (A1.go hB).m (toq_some c41)) (fun a v142 b143 w l h144 o145 F => ?_)
      have d146 := Dj.new h57.m o145 (Nat.le_refl _)
      have d147 := Dj.new h60.m o145 (Nat.le_refl _)
      have d148 := Dj.new h78.m o145 (Nat.le_refl _)
      have d149 := Dj.new h107.m o145 (Nat.le_refl _)
      have d150 := Dj.new (inm1 K12) o145 (Nat.le_refl _)
      have d151 := Dj.new (inm1 K19) o145 (Nat.le_refl _)
      have d152 := Dj.new (inm1 K66) o145 (Nat.le_refl _)
      have d153 := Dj.new (inm1 K86) o145 (Nat.le_refl _)
      replace o145 := o145.mono hB.size
      replace hB := Below.through l hB
      replace h57 := h57.go l
      replace h60 := h60.go l
      replace o61 := o61.go l
      replace h78 := h78.go l
      replace o79 := o79.go l
      replace h107 := h107.go l
      replace o108 := o108.go l
      replace K12 := K12.thru l
      replace K19 := K19.thru l
      replace K66 := K66.thru l
      replace K86 := K86.thru l
      refine x_end ?_
      refine x_tn ?_
      refine ⟨.inl l, ?_⟩
      refine b_e 3 rfl (by kernel_rfl) ?_
      obtain ⟨z154, c155, hR⟩ := bnd_some hR
      refine o_says F rfl Tryz.call27 rfl (eqq_says (fun y => Rd (Agg 2 RInstance) _ _ y _) c155 h144 (fun hy => eqInstance_any _ _ _ _ _ _ h78.r hy.r h78.m hy.m)) (fun a w l F => ?_)
      replace hB := Below.through l hB
      replace h57 := h57.go l
      replace h60 := h60.go l
      replace o61 := o61.go l
      replace h78 := h78.go l
      replace o79 := o79.go l
      replace h107 := h107.go l
      replace o108 := o108.go l
      replace K12 := K12.thru l
      replace K19 := K19.thru l
      replace K66 := K66.thru l
      replace K86 := K86.thru l
      refine x_end ?_
      refine x_tn ?_
      refine ⟨.inl l, ?_⟩
      refine b_q 4 (by kernel_rfl) rfl (by kernel_rfl) (by kernel_rfl) (by kernel_rfl) (by kernel_rfl) ?_
      refine v_val F rfl (fun w l => r_not F rfl) (fun a F => ?_)
      refine b_end (by kernel_rfl) ?_
      refine x_tn ?_
      refine x_if F rfl (fun hb156 => ?_) (fun hb156 => ?_)
      ·
       replace hR := ifT hb156 hR
       refine x_seq ?_
       refine x_reg ?_
       refine o_assign F rfl rfl (fun a F => ?_)
       refine x_end ?_
       refine x_tn ?_
       refine x_ret ?_
       refine x_tr ?_
       refine x_res1 F rfl (rv_t F rfl) ?_
       obtain rfl := Option.some.inj hR
       exact ⟨rfl, hB⟩
      ·
       replace hR := ifF hb156 hR
       refine x_skip ?_
       refine x_tn ?_
       refine x_seq ?_
       refine x_reg ?_
       refine o_assign F rfl rfl (fun a F => ?_)
       refine x_end ?_
       refine x_tn ?_
       refine x_seq ?_
       refine x_reg ?_
       refine o_bloadA (cs := [.int .i64 x0.size, v72]) Tryz.isAgg33 Tryz.sizeOf33 F rfl rfl K66 rfl (fun j hj => by match j, hj with | 0, _ => rfl | 1, _ => rfl) (fun a F => ?_)
       refine o_move F rfl rfl (fun a F => ?_)
       obtain ⟨z157, c158, hR⟩ := bnd_some hR
       refine o_markA F rfl Tryz.call28 rfl (mkq_markA c158 (fun h0 h1 => markTemplate_any _ _ _ _ _ _ h60.r o61 h0 h1)) (fun a w l h159 o160 F => ?_)
       replace h57 := h57.goO l d62
       replace h78 := h78.goO l (Dj.symm d81)
       replace o79 := o79.goO l (Dj.symm d81)
       replace h107 := h107.goO l (Dj.symm d110)
       replace o108 := o108.goO l (Dj.symm d110)
       replace K12 := K12.only l (Dj.in1 d63)
       replace K19 := K19.only l (Dj.in1 d64)
       replace K86 := K86.only l (Dj.in1 (Dj.symm d91))
       replace hB := hB.o l (Own.lo o61) hB.size
       have iz157 := mkq_i c158
       refine o_assign F rfl rfl (fun a F => ?_)
       refine x_end ?_
       refine x_tn ?_
       refine x_seq ?_
       refine x_reg ?_
       refine o_bloadA (cs := [.int .i64 x1.vars, v94]) Tryz.isAgg51 Tryz.sizeOf51 F rfl rfl K86 rfl (fun j hj => by match j, hj with | 0, _ => rfl | 1, _ => rfl) (fun a F => ?_)
       refine o_move F rfl rfl (fun a F => ?_)
       obtain ⟨z161, c162, hR⟩ := bnd_some hR
       refine o_markA F rfl Tryz.call29 rfl (mkq_markA c162 (fun h0 h1 => markInstance_any _ _ _ _ _ _ h78.r o79 h0 h1)) (fun a w l h163 o164 F => ?_)
       replace h57 := h57.goO l d80
       replace h107 := h107.goO l (Dj.symm d111)
       replace o108 := o108.goO l (Dj.symm d111)
       replace K12 := K12.only l (Dj.in1 d82)
       replace K19 := K19.only l (Dj.in1 d83)
       replace hB := hB.o l (Own.lo o79) hB.size
       have iz161 := mkq_i c162
       refine o_assign F rfl rfl (fun a F => ?_)
       refine x_end ?_
       refine x_tn ?_
       refine x_seq ?_
       refine x_seq ?_
       obtain ⟨o169, hR, hk170⟩ := thn_some hR
       refine x_cutQ (fun a w => ∃ (s172 : Bool), o169 = .nx s172 ∧ Sk a 124 [(2, .int .i64 x2), (3, .pointer (some ⟨b11, 0, none⟩)), (4, .pointer (some ⟨b18, 0, none⟩)), (8, v51), (9, .int .i64 z49.2), (12, v100), (86, .bool s172)] ∧ Below w0.heap.size w0 w ∧ Rd (Sl 1 (RSl 2 RLiteral)) w v51 z49.1 (rb52 ++ ib53) ∧ Rd (Sl 1 (RSl 2 RLiteral)) w v100 z98.1 (rb101 ++ ib102) ∧ Own w0.heap.size (rb101 ++ ib102) w ∧ Blk w b11 #[.int .i64 x0.size, v14] 24 ∧ Blk w b18 #[.int .i64 x1.vars, v21] 44) ?_ ?_
       ·
        refine x_reg ?_
        refine o_move F rfl rfl (fun a F => ?_)
        refine o_lss F rfl rfl rfl (fun a F => ?_)
        refine o_move F rfl rfl (fun a F => ?_)
        rcases bcases (decide (z161 < 0)) with hb173 | hb173
        ·
         replace hR := ifT hb173 hR
         have F := F.eq (t := 76) rfl (congrArg Value.bool hb173)
         refine o_no F rfl rfl (fun a F => ?_)
         refine o_no F rfl rfl (fun a F => ?_)
         refine o_no F rfl rfl (fun a F => ?_)
         refine o_no F rfl rfl (fun a F => ?_)
         refine o_pickt F rfl rfl rfl (fun a F => ?_)
         refine o_move F rfl rfl (fun a F => ?_)
         refine o_no F rfl rfl (fun a F => ?_)
         refine o_no F rfl rfl (fun a F => ?_)
         refine o_no F rfl rfl (fun a F => ?_)
         refine o_pickt F rfl rfl rfl (fun a F => ?_)
         refine x_end ?_
         refine x_tn ?_
         exact ⟨true, (Option.some.inj hR).symm, F.sub (sc rfl (sc rfl (sc rfl (sc rfl (sc rfl (sc rfl (sc rfl sn))))))), hB, h57, h107, o108, K12, K19⟩
        ·
         replace hR := ifF hb173 hR
         have F := F.eq (t := 76) rfl (congrArg Value.bool hb173)
         refine o_move F rfl rfl (fun a F => ?_)
         refine o_move F rfl rfl (fun a F => ?_)
         obtain ⟨z174, c175, hR⟩ := bnd_some hR
         refine o_says F rfl Tryz.call56 rfl (eqq_says (fun y => Rd (Sl 1 RLits) _ _ y _) c175 h57 (fun hy => eqLiteralSS_any _ _ _ _ _ _ h107.r hy.r h107.m hy.m)) (fun a w l F => ?_)
         replace hB := Below.through l hB
         replace h57 := h57.go l
         replace h107 := h107.go l
         replace o108 := o108.go l
         replace K12 := K12.thru l
         replace K19 := K19.thru l
         refine o_not F rfl rfl (fun a F => ?_)
         refine o_pickf F rfl rfl rfl (fun a F => ?_)
         refine o_move F rfl rfl (fun a F => ?_)
         rcases bcases (!z174) with hb176 | hb176
         ·
          replace hR := ifT hb176 hR
          have F := F.eq (t := 82) rfl (congrArg Value.bool hb176)
          refine o_no F rfl rfl (fun a F => ?_)
          refine o_no F rfl rfl (fun a F => ?_)
          refine o_no F rfl rfl (fun a F => ?_)
          refine o_pickt F rfl rfl rfl (fun a F => ?_)
          refine x_end ?_
          refine x_tn ?_
          exact ⟨true, (Option.some.inj hR).symm, F.sub (sc rfl (sc rfl (sc rfl (sc rfl (sc rfl (sc rfl (sc rfl sn))))))), hB, h57, h107, o108, K12, K19⟩
         ·
          replace hR := ifF hb176 hR
          have F := F.eq (t := 82) rfl (congrArg Value.bool hb176)
          refine o_move F rfl rfl (fun a F => ?_)
          refine o_move F rfl rfl (fun a F => ?_)
          refine o_neq F rfl rfl rfl (fun a F => ?_)
          refine o_pickf F rfl rfl rfl (fun a F => ?_)
          refine x_end ?_
          refine x_tn ?_
          exact ⟨(z98.2 != z49.2), (Option.some.inj hR).symm, F.sub (sc rfl (sc rfl (sc rfl (sc rfl (sc rfl (sc rfl (sc rfl sn))))))), hB, h57, h107, o108, K12, K19⟩
       ·
        intro a w ⟨s172, ho171, F, hB, h57, h107, o108, K12, K19⟩
        subst ho171
        have hR := then_nx hk170
        refine x_tn ?_
        refine x_if F rfl (fun hb177 => ?_) (fun hb177 => ?_)
        ·
         replace hR := ifT hb177 hR
         refine x_seq ?_
         refine x_reg ?_
         refine o_assign F rfl rfl (fun a F => ?_)
         refine x_end ?_
         refine x_tn ?_
         refine x_ret ?_
         refine x_tr ?_
         refine x_res1 F rfl (rv_t F rfl) ?_
         obtain rfl := Option.some.inj hR
         exact ⟨rfl, hB⟩
        ·
         replace hR := ifF hb177 hR
         refine x_skip ?_
         refine x_tn ?_
         refine x_seq ?_
         refine x_reg ?_
         refine o_assign F rfl rfl (fun a F => ?_)
         refine x_end ?_
         refine x_tn ?_
         refine x_seq ?_
         refine x_reg ?_
         refine o_move F rfl rfl (fun a F => ?_)
         refine o_move F rfl rfl (fun a F => ?_)
         obtain ⟨z178, c179, hR⟩ := bnd_some hR
         refine o_markS F rfl Tryz.call57 rfl (mkq_markS c179 (fun h0 h1 => markLiteralSS_any _ _ _ _ _ _ h107.r o108 h0 h1)) (fun a w l h180 o181 F => ?_)
         replace h57 := h57.goO l d109
         replace K12 := K12.only l (Dj.in1 d112)
         replace K19 := K19.only l (Dj.in1 d113)
         replace hB := hB.o l (Own.lo o108) hB.size
         have iz178 := mkq_i c179
         refine o_assign F rfl rfl (fun a F => ?_)
         refine x_end ?_
         refine x_tn ?_
         refine x_seq ?_
         refine x_reg ?_
         refine o_assign F rfl rfl (fun a F => ?_)
         refine x_end ?_
         refine x_tn ?_
         refine x_seq ?_
         refine x_reg ?_
         refine o_move F rfl rfl (fun a F => ?_)
         refine o_move F rfl rfl (fun a F => ?_)
         refine o_saysI F rfl Tryz.call58 rfl (mkq_says c179 (fun h0 h1 => heldLiteralSS_any _ _ _ _ _ h180.r h180.m h0 h1)) (fun a w l iz178 F => ?_)
         replace hB := Below.through l hB
         replace h57 := h57.go l
         replace h180 := h180.go l
         replace o181 := o181.go l
         replace K12 := K12.thru l
         replace K19 := K19.thru l
         refine o_assign F rfl rfl (fun a F => ?_)
         refine x_end ?_
         refine x_tn ?_
         refine x_seq ?_
         refine x_seq ?_
         refine x_reg ?_
         refine o_move F rfl rfl (fun a F => ?_)
         refine o_lss F rfl rfl rfl (fun a F => ?_)
         refine x_end ?_
         refine x_tn ?_
         refine x_if F rfl (fun hb182 => ?_) (fun hb182 => ?_)
         ·
          replace hR := ifT hb182 hR
          refine x_seq ?_
          refine x_reg ?_
          refine o_assign F rfl rfl (fun a F => ?_)
          refine x_end ?_
          refine x_tn ?_
          refine x_ret ?_
          refine x_tr ?_
          refine x_res1 F rfl (rv_t F rfl) ?_
          obtain rfl := Option.some.inj hR
          exact ⟨rfl, hB⟩
         ·
          replace hR := ifF hb182 hR
          refine x_skip ?_
          refine x_tn ?_
          refine x_seq ?_
          refine x_seq ?_
          refine x_reg ?_
          refine o_move F rfl rfl (fun a F => ?_)
          refine o_move F rfl rfl (fun a F => ?_)
          refine o_neq F rfl rfl rfl (fun a F => ?_)
          refine x_end ?_
          refine x_tn ?_
          refine x_if F rfl (fun hb183 => ?_) (fun hb183 => ?_)
          ·
           replace hR := ifT hb183 hR
           refine x_seq ?_
           refine x_reg ?_
           refine o_assign F rfl rfl (fun a F => ?_)
           refine x_end ?_
           refine x_tn ?_
           refine x_ret ?_
           refine x_tr ?_
           refine x_res1 F rfl (rv_t F rfl) ?_
           obtain rfl := Option.some.inj hR
           exact ⟨rfl, hB⟩
          ·
           replace hR := ifF hb183 hR
           refine x_skip ?_
           refine x_tn ?_
           refine x_seq ?_
           refine x_drawn (by kernel_rfl) (fun w l => ?_)
           replace hB := Below.through l hB
           replace h57 := h57.go l
           replace h180 := h180.go l
           replace o181 := o181.go l
           replace K12 := K12.thru l
           replace K19 := K19.thru l
           refine b_q 0 (by kernel_rfl) rfl (by kernel_rfl) (by kernel_rfl) (by kernel_rfl) (by kernel_rfl) ?_
           refine v_val F rfl (fun w l => r_bloadA (cs := [.int .i64 x0.size, v14]) Tryz.isAgg24 Tryz.sizeOf24 F rfl (K12.thru l) rfl (fun j hj => by match j, hj with | 0, _ => rfl | 1, _ => rfl)) (fun a F => ?_)
           refine b_q 2 (by kernel_rfl) rfl (by kernel_rfl) (by kernel_rfl) (by kernel_rfl) (by kernel_rfl) ?_
           refine v_val F rfl (fun w l => r_bloadA (cs := [.int .i64 x1.vars, v21]) Tryz.isAgg44 Tryz.sizeOf44 F rfl (K19.thru l) rfl (fun j hj => by match j, hj with | 0, _ => rfl | 1, _ => rfl)) (fun a F => ?_)
           refine b_q0 4 rfl (by kernel_rfl) (by kernel_rfl) (by kernel_rfl) ?_
           refine v_val F rfl (fun w l => r_move F rfl) (fun a F => ?_)
           refine b_e 1 rfl (by kernel_rfl) ?_
           refine o_toA F rfl Tryz.call17 rfl (toTemplate_any _ _ _ _ (A0.go hB).r (A0.go hB).m (toq_some c33)) (fun a v184 b185 w l h186 o187 F => ?_)
           have d188 := Dj.new h57.m o187 (Nat.le_refl _)
           have d189 := Dj.new h180.m o187 (Nat.le_refl _)
           replace o187 := o187.mono hB.size
           replace hB := Below.through l hB
           replace h57 := h57.go l
           replace h180 := h180.go l
           replace o181 := o181.go l
           refine x_end ?_
           refine x_tn ?_
           refine ⟨.inl l, ?_⟩
           refine b_e 3 rfl (by kernel_rfl) ?_
           refine o_toA F rfl Tryz.call24 rfl (toInstance_any _ _ _ _ (A1.go hB).r (A1.go hB).m (toq_some c41)) (fun a v190 b191 w l h192 o193 F => ?_)
           have d194 := Dj.new h57.m o193 (Nat.le_refl _)
           have d195 := Dj.new h180.m o193 (Nat.le_refl _)
           have d196 := Dj.new h186.m o193 (Nat.le_refl _)
           replace o193 := o193.mono hB.size
           replace hB := Below.through l hB
           replace h57 := h57.go l
           replace h180 := h180.go l
           replace o181 := o181.go l
           replace h186 := h186.go l
           replace o187 := o187.go l
           refine x_end ?_
           refine x_tn ?_
           refine ⟨.inl l, ?_⟩
           refine b_e 5 rfl (by kernel_rfl) ?_
           refine o_gives F rfl Tryz.call55 rfl (impl_LearnNoGoods_c z98 c99 _ h186 h192 hx2) (fun a vv w l ⟨v197, rb198, ib199, hv203, h200, ow201, i202⟩ F => ?_)
           subst vv
           have o205 := h200.own ow201
           have h204 := h200.rd
           have d206 := Dj.new h57.m o205 (Nat.le_refl _)
           have d207 := Dj.new h180.m o205 (Nat.le_refl _)
           replace o205 := o205.mono hB.size
           replace hB := Below.through l hB
           replace h57 := h57.go l
           replace h180 := h180.go l
           replace o181 := o181.go l
           refine x_end ?_
           refine x_tn ?_
           refine ⟨.inl l, ?_⟩
           refine b_q0 6 rfl (by kernel_rfl) (by kernel_rfl) (by kernel_rfl) ?_
           refine v_val F rfl (fun w l => r_move F rfl) (fun a F => ?_)
           refine b_q 7 (by kernel_rfl) rfl (by kernel_rfl) (by kernel_rfl) (by kernel_rfl) (by kernel_rfl) ?_
           refine v_val F rfl (fun w l => r_extract F rfl rfl) (fun a F => ?_)
           refine b_q 8 (by kernel_rfl) rfl (by kernel_rfl) (by kernel_rfl) (by kernel_rfl) (by kernel_rfl) ?_
           refine v_val F rfl (fun w l => r_extract F rfl rfl) (fun a F => ?_)
           refine b_q0 9 rfl (by kernel_rfl) (by kernel_rfl) (by kernel_rfl) ?_
           refine v_val F rfl (fun w l => r_assign F rfl) (fun a F => ?_)
           refine b_q0 10 rfl (by kernel_rfl) (by kernel_rfl) (by kernel_rfl) ?_
           refine v_val F rfl (fun w l => r_assign F rfl) (fun a F => ?_)
           refine b_end (by kernel_rfl) ?_
           refine x_tn ?_
           refine x_seq ?_
           refine x_seq ?_
           obtain ⟨o211, hR, hk212⟩ := thn_some hR
           refine x_cutQ (fun a w => ∃ (s214 : Bool), o211 = .nx s214 ∧ Sk a 124 [(12, v100), (15, .int .i64 z178), (115, .bool s214)] ∧ Below w0.heap.size w0 w ∧ Rd (Sl 1 RLits) w v100 (mkS mkLits (cntS Literal.ecnt) z98.1 1) (rb101 ++ ib102) ∧ Own w0.heap.size (rb101 ++ ib102) w) ?_ ?_
           ·
            refine x_reg ?_
            refine o_move F rfl rfl (fun a F => ?_)
            refine o_move F rfl rfl (fun a F => ?_)
            obtain ⟨z215, c216, hR⟩ := bnd_some hR
            refine o_says F rfl Tryz.call56 rfl (eqq_says (fun y => Rd (Sl 1 RLits) _ _ y _) c216 h57 (fun hy => eqLiteralSS_any _ _ _ _ _ _ h204.r hy.r h204.m hy.m)) (fun a w l F => ?_)
            replace hB := Below.through l hB
            replace h180 := h180.go l
            replace o181 := o181.go l
            refine o_not F rfl rfl (fun a F => ?_)
            refine o_move F rfl rfl (fun a F => ?_)
            rcases bcases (!z215) with hb217 | hb217
            ·
             replace hR := ifT hb217 hR
             have F := F.eq (t := 111) rfl (congrArg Value.bool hb217)
             refine o_no F rfl rfl (fun a F => ?_)
             refine o_no F rfl rfl (fun a F => ?_)
             refine o_no F rfl rfl (fun a F => ?_)
             refine o_pickt F rfl rfl rfl (fun a F => ?_)
             refine x_end ?_
             refine x_tn ?_
             exact ⟨true, (Option.some.inj hR).symm, F.sub (sc rfl (sc rfl (sc rfl sn))), hB, h180, o181⟩
            ·
             replace hR := ifF hb217 hR
             have F := F.eq (t := 111) rfl (congrArg Value.bool hb217)
             refine o_move F rfl rfl (fun a F => ?_)
             refine o_move F rfl rfl (fun a F => ?_)
             refine o_neq F rfl rfl rfl (fun a F => ?_)
             refine o_pickf F rfl rfl rfl (fun a F => ?_)
             refine x_end ?_
             refine x_tn ?_
             exact ⟨(z98.2 != z49.2), (Option.some.inj hR).symm, F.sub (sc rfl (sc rfl (sc rfl sn))), hB, h180, o181⟩
           ·
            intro a w ⟨s214, ho213, F, hB, h180, o181⟩
            subst ho213
            have hR := then_nx hk212
            refine x_tn ?_
            refine x_if F rfl (fun hb218 => ?_) (fun hb218 => ?_)
            ·
             replace hR := ifT hb218 hR
             refine x_seq ?_
             refine x_reg ?_
             refine o_assign F rfl rfl (fun a F => ?_)
             refine x_end ?_
             refine x_tn ?_
             refine x_ret ?_
             refine x_tr ?_
             refine x_res1 F rfl (rv_t F rfl) ?_
             obtain rfl := Option.some.inj hR
             exact ⟨rfl, hB⟩
            ·
             replace hR := ifF hb218 hR
             refine x_skip ?_
             refine x_tn ?_
             refine x_seq ?_
             refine x_reg ?_
             refine o_assign F rfl rfl (fun a F => ?_)
             refine x_end ?_
             refine x_tn ?_
             refine x_seq ?_
             refine x_reg ?_
             refine o_move F rfl rfl (fun a F => ?_)
             refine o_move F rfl rfl (fun a F => ?_)
             refine o_saysI F rfl Tryz.call58 rfl (mkq_says c179 (fun h0 h1 => heldLiteralSS_any _ _ _ _ _ h180.r h180.m h0 h1)) (fun a w l iz178 F => ?_)
             replace hB := Below.through l hB
             refine o_assign F rfl rfl (fun a F => ?_)
             refine x_end ?_
             refine x_tn ?_
             refine x_seq ?_
             refine x_seq ?_
             refine x_reg ?_
             refine o_move F rfl rfl (fun a F => ?_)
             refine o_lss F rfl rfl rfl (fun a F => ?_)
             refine x_end ?_
             refine x_tn ?_
             refine x_if F rfl (fun hb219 => ?_) (fun hb219 => ?_)
             ·
              replace hR := ifT hb219 hR
              refine x_seq ?_
              refine x_reg ?_
              refine o_assign F rfl rfl (fun a F => ?_)
              refine x_end ?_
              refine x_tn ?_
              refine x_ret ?_
              refine x_tr ?_
              refine x_res1 F rfl (rv_t F rfl) ?_
              obtain rfl := Option.some.inj hR
              exact ⟨rfl, hB⟩
             ·
              replace hR := ifF hb219 hR
              refine x_skip ?_
              refine x_tn ?_
              refine x_seq ?_
              refine x_seq ?_
              refine x_reg ?_
              refine o_move F rfl rfl (fun a F => ?_)
              refine o_move F rfl rfl (fun a F => ?_)
              refine o_neq F rfl rfl rfl (fun a F => ?_)
              refine x_end ?_
              refine x_tn ?_
              refine x_if F rfl (fun hb220 => ?_) (fun hb220 => ?_)
              ·
               replace hR := ifT hb220 hR
               refine x_seq ?_
               refine x_reg ?_
               refine o_assign F rfl rfl (fun a F => ?_)
               refine x_end ?_
               refine x_tn ?_
               refine x_ret ?_
               refine x_tr ?_
               refine x_res1 F rfl (rv_t F rfl) ?_
               obtain rfl := Option.some.inj hR
               exact ⟨rfl, hB⟩
              ·
               replace hR := ifF hb220 hR
               refine x_skip ?_
               refine x_tn ?_
               refine x_seq ?_
               refine x_reg ?_
               refine o_assign F rfl rfl (fun a F => ?_)
               refine x_end ?_
               refine x_tn ?_
               refine x_ret ?_
               refine x_res1 F rfl (rv_t F rfl) ?_
               obtain rfl := Option.some.inj hR
               exact ⟨rfl, hB⟩
end
end Go.Proofs.YtfepllddlmhjiaaGreat
