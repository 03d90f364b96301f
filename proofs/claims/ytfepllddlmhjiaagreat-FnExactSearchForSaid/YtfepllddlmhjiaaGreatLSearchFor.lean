/-
  Laws of the program as plain functions, and that they compute them. Printed by lawfx.py.
-/
import Derived.Test.YtfepllddlmhjiaaGreatS3b
import Derived.Test.YtfepllddlmhjiaaGreatY
import Derived.Test.YtfepllddlmhjiaaGreatL1
import Derived.Test.YtfepllddlmhjiaaGreatL2
import Derived.Test.YtfepllddlmhjiaaGreatL6
namespace Go.Proofs.YtfepllddlmhjiaaGreat
set_option linter.unusedVariables false
set_option linter.unusedSimpArgs false
set_option maxRecDepth 100000
open Go.RowKit
noncomputable section
def laws_FnExactSearchFor (N : Nat) (x0 : Template) (x1 : Instance) (x2 : Int) : Option Bool :=
 bnd (szq 1048576 (x0.sz)) fun z26 =>
 if (decide (z26 < 0)) then
  some true
 else
  bnd (szq z26 (x1.sz)) fun z29 =>
  if (decide (z29 < 0)) then
   some true
  else
   bnd (toq (x0.sz)) fun z32 =>
   bnd (toq (x1.sz)) fun z40 =>
   bnd (spec_SearchFor N x0 x1 x2) fun z49 =>
   bnd (impl_SearchFor N x0 x1 x2) fun z102 =>
   thn (σ := Bool) (
    bnd (eqq z102.1 z49.1) fun z128 =>
    if (!z128) then  some (.nx true) else  if (z102.2.1 != z49.2.1) then  some (.nx true) else  some (.nx (z102.2.2 != z49.2.2))) fun s127 =>
   if s127 then
    some false
   else
    bnd (eqq x0 x0) fun z145 =>
    if (!z145) then
     some false
    else
     bnd (eqq x1 x1) fun z160 =>
     if (!z160) then
      some false
     else
      bnd (mkq 1 (x0.cnt)) fun z163 =>
      bnd (mkq z163 (x1.cnt)) fun z167 =>
      thn (σ := Bool) (
       if (decide (z167 < 0)) then  some (.nx true) else  bnd (eqq z102.1 z49.1) fun z181 =>
        if (!z181) then  some (.nx true) else  if (z102.2.1 != z49.2.1) then  some (.nx true) else  some (.nx (z102.2.2 != z49.2.2))) fun s179 =>
      if s179 then
       some false
      else
       bnd (mkq 1 (cntS cI z102.1)) fun z186 =>
       if (decide (z186 < 0)) then
        some false
       else
        if (z186 != z186) then
         some false
        else
         thn (σ := Bool) (
          bnd (eqq z102.1 z49.1) fun z224 =>
          if (!z224) then  some (.nx true) else  if (z102.2.1 != z49.2.1) then  some (.nx true) else  some (.nx (z102.2.2 != z49.2.2))) fun s223 =>
         if s223 then
          some false
         else
          if (decide (z186 < 0)) then
           some false
          else
           if (z186 != z186) then
            some false
           else
            some true
set_option maxHeartbeats 1000000 in
theorem laws_FnExactSearchFor_c {N : Nat} {x0 : Template} {x1 : Instance} {x2 : Int} (r : Bool) (hR : laws_FnExactSearchFor N x0 x1 x2 = some r) {v0 : Value} {b0 : List Nat} {v1 : Value} {b1 : List Nat} (w0 : World) (A0 : Rd (Agg 2 RTemplate) w0 v0 x0 b0) (A1 : Rd (Agg 2 RInstance) w0 v1 x1 b1) (hx2 : I64 x2) : Calls Tryz.prog 4 #[v0, v1, .int .i64 x2] w0 (Says (.bool r) w0) := by
 unfold laws_FnExactSearchFor at hR
 refine x_enter (L := [(0, v0), (1, v1), (2, .int .i64 x2)]) Tryz.func4 rfl rfl rfl (sc rfl (sc rfl (sc rfl sn))) (fun a F => ?_)
 have hB := Below.refl w0.heap.size w0
 refine x_seq ?_
 refine x_reg ?_
 obtain ⟨v14, b15, e17, i13, h16, _⟩ := RTemplate.rd (A0.go hB)
 subst e17
 refine o_box F rfl rfl rfl (fun a w b11 K12 l BK12 F => ?_)
 have CK12 := Nat.le_trans hB.size BK12
 replace hB := Below.through l hB
 obtain ⟨v21, b22, e24, i20, h23, _⟩ := RInstance.rd (A1.go hB)
 subst e24
 refine o_box F rfl rfl rfl (fun a w b18 K19 l BK19 F => ?_)
 have nb25 := Dj.bb K12 BK19
 have CK19 := Nat.le_trans hB.size BK19
 replace hB := Below.through l hB
 replace K12 := K12.thru l
 refine o_assign F rfl rfl (fun a F => ?_)
 refine x_end ?_
 refine x_tn ?_
 refine x_seq ?_
 refine x_reg ?_
 refine o_assign F rfl rfl (fun a F => ?_)
 refine x_end ?_
 refine x_tn ?_
 refine x_seq ?_
 refine x_reg ?_
 refine o_bloadA (cs := [.int .i64 x0.size, v14]) Tryz.isAgg24 Tryz.sizeOf24 F rfl rfl K12 rfl (fun j hj => by match j, hj with | 0, _ => rfl | 1, _ => rfl) (fun a F => ?_)
 refine o_move F rfl rfl (fun a F => ?_)
 obtain ⟨z26, c27, hR⟩ := bnd_some hR
 refine o_saysI F rfl Tryz.call14 rfl (szq_says c27 (fun h0 h1 => szTemplate_any _ _ _ _ _ (A0.go hB).r (A0.go hB).m h0 h1)) (fun a w l iz26 F => ?_)
 replace hB := Below.through l hB
 replace K12 := K12.thru l
 replace K19 := K19.thru l
 refine o_assign F rfl rfl (fun a F => ?_)
 refine x_end ?_
 refine x_tn ?_
 refine x_seq ?_
 refine x_seq ?_
 refine x_reg ?_
 refine o_move F rfl rfl (fun a F => ?_)
 refine o_lss F rfl rfl rfl (fun a F => ?_)
 refine x_end ?_
 refine x_tn ?_
 refine x_if F rfl (fun hb28 => ?_) (fun hb28 => ?_)
 ·
  replace hR := ifT hb28 hR
  refine x_seq ?_
  refine x_reg ?_
  refine o_assign F rfl rfl (fun a F => ?_)
  refine x_end ?_
  refine x_tn ?_
  refine x_ret ?_
  refine x_tr ?_
  refine x_res1 F rfl (rv_t F rfl) ?_
  obtain rfl := Option.some.inj hR
  exact ⟨rfl, hB⟩
 ·
  replace hR := ifF hb28 hR
  refine x_skip ?_
  refine x_tn ?_
  refine x_seq ?_
  refine x_reg ?_
  refine o_bloadA (cs := [.int .i64 x1.vars, v21]) Tryz.isAgg44 Tryz.sizeOf44 F rfl rfl K19 rfl (fun j hj => by match j, hj with | 0, _ => rfl | 1, _ => rfl) (fun a F => ?_)
  refine o_move F rfl rfl (fun a F => ?_)
  obtain ⟨z29, c30, hR⟩ := bnd_some hR
  refine o_saysI F rfl Tryz.call22 rfl (szq_says c30 (fun h0 h1 => szInstance_any _ _ _ _ _ (A1.go hB).r (A1.go hB).m h0 h1)) (fun a w l iz29 F => ?_)
  replace hB := Below.through l hB
  replace K12 := K12.thru l
  replace K19 := K19.thru l
  refine o_assign F rfl rfl (fun a F => ?_)
  refine x_end ?_
  refine x_tn ?_
  refine x_seq ?_
  refine x_seq ?_
  refine x_reg ?_
  refine o_move F rfl rfl (fun a F => ?_)
  refine o_lss F rfl rfl rfl (fun a F => ?_)
  refine x_end ?_
  refine x_tn ?_
  refine x_if F rfl (fun hb31 => ?_) (fun hb31 => ?_)
  ·
   replace hR := ifT hb31 hR
   refine x_seq ?_
   refine x_reg ?_
   refine o_assign F rfl rfl (fun a F => ?_)
   refine x_end ?_
   refine x_tn ?_
   refine x_ret ?_
   refine x_tr ?_
   refine x_res1 F rfl (rv_t F rfl) ?_
   obtain rfl := Option.some.inj hR
   exact ⟨rfl, hB⟩
  ·
   replace hR := ifF hb31 hR
   refine x_skip ?_
   refine x_tn ?_
   refine x_seq ?_
   refine x_drawn (by kernel_rfl) (fun w l => ?_)
   replace hB := Below.through l hB
   replace K12 := K12.thru l
   replace K19 := K19.thru l
   refine b_q 0 (by kernel_rfl) rfl (by kernel_rfl) (by kernel_rfl) (by kernel_rfl) (by kernel_rfl) ?_
   refine v_val F rfl (fun w l => r_bloadA (cs := [.int .i64 x0.size, v14]) Tryz.isAgg24 Tryz.sizeOf24 F rfl (K12.thru l) rfl (fun j hj => by match j, hj with | 0, _ => rfl | 1, _ => rfl)) (fun a F => ?_)
   refine b_q 2 (by kernel_rfl) rfl (by kernel_rfl) (by kernel_rfl) (by kernel_rfl) (by kernel_rfl) ?_
   refine v_val F rfl (fun w l => r_bloadA (cs := [.int .i64 x1.vars, v21]) Tryz.isAgg44 Tryz.sizeOf44 F rfl (K19.thru l) rfl (fun j hj => by match j, hj with | 0, _ => rfl | 1, _ => rfl)) (fun a F => ?_)
   refine b_q0 4 rfl (by kernel_rfl) (by kernel_rfl) (by kernel_rfl) ?_
   refine v_val F rfl (fun w l => r_move F rfl) (fun a F => ?_)
   refine b_e 1 rfl (by kernel_rfl) ?_
   obtain ⟨z32, c33, hR⟩ := bnd_some hR
   refine o_toA F rfl Tryz.call17 rfl (toTemplate_any _ _ _ _ (A0.go hB).r (A0.go hB).m (toq_some c33)) (fun a v34 b35 w l h36 o37 F => ?_)
   have d38 := Dj.new (inm1 K12) o37 (Nat.le_refl _)
   have d39 := Dj.new (inm1 K19) o37 (Nat.le_refl _)
   replace o37 := o37.mono hB.size
   replace hB := Below.through l hB
   replace K12 := K12.thru l
   replace K19 := K19.thru l
   refine x_end ?_
   refine x_tn ?_
   refine ⟨.inl l, ?_⟩
   refine b_e 3 rfl (by kernel_rfl) ?_
   obtain ⟨z40, c41, hR⟩ := bnd_some hR
   refine o_toA F rfl Tryz.call24 rfl (toInstance_any _ _ _ _ (A1.go hB).r (A1.go hB).m (toq_some c41)) (fun a v42 b43 w l h44 o45 F => ?_)
   have d46 := Dj.new h36.m o45 (Nat.le_refl _)
   have d47 := Dj.new (inm1 K12) o45 (Nat.le_refl _)
   have d48 := Dj.new (inm1 K19) o45 (Nat.le_refl _)
   replace o45 := o45.mono hB.size
   replace hB := Below.through l hB
   replace h36 := h36.go l
   replace o37 := o37.go l
   replace K12 := K12.thru l
   replace K19 := K19.thru l
   refine x_end ?_
   refine x_tn ?_
   refine ⟨.inl l, ?_⟩
   refine b_e 5 rfl (by kernel_rfl) ?_
   obtain ⟨z49, c50, hR⟩ := bnd_some hR
   refine o_gives F rfl Tryz.call23 rfl (spec_SearchFor_c z49 c50 _ h36 h44 hx2) (fun a vv w l ⟨v51, rb52, hv57, h54, i55, i56⟩ F => ?_)
   subst vv
   have o59 := h54.own (Own.nil _ _)
   have h58 := h54.rd
   have d60 := Dj.new (inm1 K12) o59 (Nat.le_refl _)
   have d61 := Dj.new (inm1 K19) o59 (Nat.le_refl _)
   replace o59 := o59.mono hB.size
   replace hB := Below.through l hB
   replace K12 := K12.thru l
   replace K19 := K19.thru l
   refine x_end ?_
   refine x_tn ?_
   refine ⟨.inl l, ?_⟩
   refine b_q0 6 rfl (by kernel_rfl) (by kernel_rfl) (by kernel_rfl) ?_
   refine v_val F rfl (fun w l => r_move F rfl) (fun a F => ?_)
   refine b_q 7 (by kernel_rfl) rfl (by kernel_rfl) (by kernel_rfl) (by kernel_rfl) (by kernel_rfl) ?_
   refine v_val F rfl (fun w l => r_extract F rfl rfl) (fun a F => ?_)
   refine b_q 8 (by kernel_rfl) rfl (by kernel_rfl) (by kernel_rfl) (by kernel_rfl) (by kernel_rfl) ?_
   refine v_val F rfl (fun w l => r_extract F rfl rfl) (fun a F => ?_)
   refine b_q 9 (by kernel_rfl) rfl (by kernel_rfl) (by kernel_rfl) (by kernel_rfl) (by kernel_rfl) ?_
   refine v_val F rfl (fun w l => r_extract F rfl rfl) (fun a F => ?_)
   refine b_q0 10 rfl (by kernel_rfl) (by kernel_rfl) (by kernel_rfl) ?_
   refine v_val F rfl (fun w l => r_assign F rfl) (fun a F => ?_)
   refine b_q0 11 rfl (by kernel_rfl) (by kernel_rfl) (by kernel_rfl) ?_
   refine v_val F rfl (fun w l => r_assign F rfl) (fun a F => ?_)
   refine b_q0 12 rfl (by kernel_rfl) (by kernel_rfl) (by kernel_rfl) ?_
   refine v_val F rfl (fun w l => r_assign F rfl) (fun a F => ?_)
   refine b_end (by kernel_rfl) ?_
   refine x_tn ?_
   refine x_seq ?_
   refine x_reg ?_
   refine o_bloadA (cs := [.int .i64 x0.size, v14]) Tryz.isAgg24 Tryz.sizeOf24 F rfl rfl K12 rfl (fun j hj => by match j, hj with | 0, _ => rfl | 1, _ => rfl) (fun a F => ?_)
   refine o_toA F rfl Tryz.call17 rfl (toTemplate_any _ _ _ _ (A0.go hB).r (A0.go hB).m (toq_some c33)) (fun a v62 b63 w l h64 o65 F => ?_)
   have d66 := Dj.new h58.m o65 (Nat.le_refl _)
   have d67 := Dj.new (inm1 K12) o65 (Nat.le_refl _)
   have d68 := Dj.new (inm1 K19) o65 (Nat.le_refl _)
   replace o65 := o65.mono hB.size
   replace hB := Below.through l hB
   replace h58 := h58.go l
   replace o59 := o59.go l
   replace K12 := K12.thru l
   replace K19 := K19.thru l
   refine o_alloc Tryz.zeroValue33 F rfl rfl (fun a w b69 K70 l BK70 F => ?_)
   have nb71 := Dj.bb K12 BK70
   have nb72 := Dj.bb K19 BK70
   have d73 := (dj1 h58.m BK70).symm
   have d74 := (dj1 h64.m BK70).symm
   have CK70 := Nat.le_trans hB.size BK70
   replace hB := Below.through l hB
   replace h58 := h58.go l
   replace o59 := o59.go l
   replace h64 := h64.go l
   replace o65 := o65.go l
   replace K12 := K12.thru l
   replace K19 := K19.thru l
   obtain ⟨v76, b77, e79, i75, h78, _⟩ := RTemplate.rd h64
   subst e79
   refine o_bstoreA (vs := [.int .i64 x0.size, v76]) Tryz.sizeOf33 F rfl rfl rfl K70 (oc rfl (oc h78.r.one on)) (Nat.le_of_ble_eq_true rfl) rfl (fun w K70 l => ?_)
   replace hB := hB.o l (fun c hc => by rw [List.mem_singleton] at hc; rw [hc]; exact CK70) hB.size
   replace h58 := h58.goO l d73
   replace o59 := o59.goO l d73
   replace h64 := h64.goO l d74
   replace o65 := o65.goO l d74
   replace K12 := K12.only l (by simpa using nb71)
   replace K19 := K19.only l (by simpa using nb72)
   refine x_end ?_
   refine x_tn ?_
   refine x_seq ?_
   refine x_reg ?_
   refine o_bloadA (cs := [.int .i64 x1.vars, v21]) Tryz.isAgg44 Tryz.sizeOf44 F rfl rfl K19 rfl (fun j hj => by match j, hj with | 0, _ => rfl | 1, _ => rfl) (fun a F => ?_)
   refine o_toA F rfl Tryz.call24 rfl (toInstance_any _ _ _ _ (A1.go hB).r (A1.go hB).m (toq_some c41)) (fun a v80 b81 w l h82 o83 F => ?_)
   have d84 := Dj.new h58.m o83 (Nat.le_refl _)
   have d85 := Dj.new h64.m o83 (Nat.le_refl _)
   have d86 := Dj.new (inm1 K12) o83 (Nat.le_refl _)
   have d87 := Dj.new (inm1 K19) o83 (Nat.le_refl _)
   have d88 := Dj.new (inm1 K70) o83 (Nat.le_refl _)
   replace o83 := o83.mono hB.size
   replace hB := Below.through l hB
   replace h58 := h58.go l
   replace o59 := o59.go l
   replace h64 := h64.go l
   replace o65 := o65.go l
   replace K12 := K12.thru l
   replace K19 := K19.thru l
   replace K70 := K70.thru l
   refine o_alloc Tryz.zeroValue51 F rfl rfl (fun a w b89 K90 l BK90 F => ?_)
   have nb91 := Dj.bb K12 BK90
   have nb92 := Dj.bb K19 BK90
   have nb93 := Dj.bb K70 BK90
   have d94 := (dj1 h58.m BK90).symm
   have d95 := (dj1 h64.m BK90).symm
   have d96 := (dj1 h82.m BK90).symm
   have CK90 := Nat.le_trans hB.size BK90
   replace hB := Below.through l hB
   replace h58 := h58.go l
   replace o59 := o59.go l
   replace h64 := h64.go l
   replace o65 := o65.go l
   replace h82 := h82.go l
   replace o83 := o83.go l
   replace K12 := K12.thru l
   replace K19 := K19.thru l
   replace K70 := K70.thru l
   obtain ⟨v98, b99, e101, i97, h100, _⟩ := RInstance.rd h82
   subst e101
   refine o_bstoreA (vs := [.int .i64 x1.vars, v98]) Tryz.sizeOf51 F rfl rfl rfl K90 (oc rfl (oc h100.r.one on)) (Nat.le_of_ble_eq_true rfl) rfl (fun w K90 l => ?_)
   replace hB := hB.o l (fun c hc => by rw [List.mem_singleton] at hc; rw [hc]; exact CK90) hB.size
   replace h58 := h58.goO l d94
   replace o59 := o59.goO l d94
   replace h64 := h64.goO l d95
   replace o65 := o65.goO l d95
   replace h82 := h82.goO l d96
   replace o83 := o83.goO l d96
   replace K12 := K12.only l (by simpa using nb91)
   replace K19 := K19.only l (by simpa using nb92)
   replace K70 := K70.only l (by simpa using nb93)
   refine x_end ?_
   refine x_tn ?_
   refine x_seq ?_
   refine x_reg ?_
   refine o_bloadA (cs := [.int .i64 x0.size, v76]) Tryz.isAgg33 Tryz.sizeOf33 F rfl rfl K70 rfl (fun j hj => by match j, hj with | 0, _ => rfl | 1, _ => rfl) (fun a F => ?_)
   refine o_bloadA (cs := [.int .i64 x1.vars, v98]) Tryz.isAgg51 Tryz.sizeOf51 F rfl rfl K90 rfl (fun j hj => by match j, hj with | 0, _ => rfl | 1, _ => rfl) (fun a F => ?_)
   refine o_move F rfl rfl (fun a F => ?_)
   obtain ⟨z102, c103, hR⟩ := bnd_some hR
   refine o_gives F rfl Tryz.call25 rfl (impl_SearchFor_c z102 c103 _ h64 h82 hx2) (fun a vv w l ⟨v104, rb105, hv110, h107, i108, i109⟩ F => ?_)
   subst vv
   have o112 := h107.own (Own.nil _ _)
   have h111 := h107.rd
   have d113 := Dj.new h58.m o112 (Nat.le_refl _)
   have d114 := Dj.new h64.m o112 (Nat.le_refl _)
   have d115 := Dj.new h82.m o112 (Nat.le_refl _)
   have d116 := Dj.new (inm1 K12) o112 (Nat.le_refl _)
   have d117 := Dj.new (inm1 K19) o112 (Nat.le_refl _)
   have d118 := Dj.new (inm1 K70) o112 (Nat.le_refl _)
   have d119 := Dj.new (inm1 K90) o112 (Nat.le_refl _)
   replace o112 := o112.mono hB.size
   replace hB := Below.through l hB
   replace h58 := h58.go l
   replace o59 := o59.go l
   replace h64 := h64.go l
   replace o65 := o65.go l
   replace h82 := h82.go l
   replace o83 := o83.go l
   replace K12 := K12.thru l
   replace K19 := K19.thru l
   replace K70 := K70.thru l
   replace K90 := K90.thru l
   refine o_move F rfl rfl (fun a F => ?_)
   refine o_extract F rfl rfl rfl (fun a F => ?_)
   refine o_extract F rfl rfl rfl (fun a F => ?_)
   refine o_extract F rfl rfl rfl (fun a F => ?_)
   refine o_assign F rfl rfl (fun a F => ?_)
   refine o_assign F rfl rfl (fun a F => ?_)
   refine o_assign F rfl rfl (fun a F => ?_)
   refine x_end ?_
   refine x_tn ?_
   refine x_seq ?_
   refine x_seq ?_
   obtain ⟨o124, hR, hk125⟩ := thn_some hR
   refine x_cutQ (fun a w => ∃ (s127 : Bool), o124 = .nx s127 ∧ Sk a 145 [(2, .int .i64 x2), (3, .pointer (some ⟨b11, 0, none⟩)), (4, .pointer (some ⟨b18, 0, none⟩)), (8, v51), (9, .int .i64 z49.2.1), (10, .int .i64 z49.2.2), (11, .pointer (some ⟨b69, 0, none⟩)), (12, .pointer (some ⟨b89, 0, none⟩)), (13, v104), (14, .int .i64 z102.2.1), (15, .int .i64 z102.2.2), (67, .bool s127)] ∧ Below w0.heap.size w0 w ∧ Rd (Sl 1 RInt) w v51 z49.1 (rb52 ++ []) ∧ Own w0.heap.size (rb52 ++ []) w ∧ Rd (Agg 2 RTemplate) w (.agg #[.int .i64 x0.size, v76]) x0 b63 ∧ Own w0.heap.size b63 w ∧ Rd (Agg 2 RInstance) w (.agg #[.int .i64 x1.vars, v98]) x1 b81 ∧ Own w0.heap.size b81 w ∧ Rd (Sl 1 RInt) w v104 z102.1 (rb105 ++ []) ∧ Own w0.heap.size (rb105 ++ []) w ∧ Blk w b11 #[.int .i64 x0.size, v14] 24 ∧ Blk w b18 #[.int .i64 x1.vars, v21] 44 ∧ Blk w b69 #[.int .i64 x0.size, v76] 33 ∧ Blk w b89 #[.int .i64 x1.vars, v98] 51) ?_ ?_
   ·
    refine x_reg ?_
    refine o_move F rfl rfl (fun a F => ?_)
    refine o_move F rfl rfl (fun a F => ?_)
    obtain ⟨z128, c129, hR⟩ := bnd_some hR
    refine o_says F rfl Tryz.call26 rfl (eqq_says (fun y => Rd (Sl 1 RInt) _ _ y _) c129 h58 (fun hy => eqInt64S_any _ _ _ _ _ _ h111.r hy.r h111.m hy.m)) (fun a w l F => ?_)
    replace hB := Below.through l hB
    replace h58 := h58.go l
    replace o59 := o59.go l
    replace h64 := h64.go l
    replace o65 := o65.go l
    replace h82 := h82.go l
    replace o83 := o83.go l
    replace h111 := h111.go l
    replace o112 := o112.go l
    replace K12 := K12.thru l
    replace K19 := K19.thru l
    replace K70 := K70.thru l
    replace K90 := K90.thru l
    refine o_not F rfl rfl (fun a F => ?_)
    refine o_move F rfl rfl (fun a F => ?_)
    rcases bcases (!z128) with hb130 | hb130
    ·
     replace hR := ifT hb130 hR
     have F := F.eq (t := 58) rfl (congrArg Value.bool hb130)
     refine o_no F rfl rfl (fun a F => ?_)
     refine o_no F rfl rfl (fun a F => ?_)
     refine o_no F rfl rfl (fun a F => ?_)
     refine o_pickt F rfl rfl rfl (fun a F => ?_)
     refine o_move F rfl rfl (fun a F => ?_)
     refine o_no F rfl rfl (fun a F => ?_)
     refine o_no F rfl rfl (fun a F => ?_)
     refine o_no F rfl rfl (fun a F => ?_)
     refine o_pickt F rfl rfl rfl (fun a F => ?_)
     refine x_end ?_
     refine x_tn ?_
     exact ⟨true, (Option.some.inj hR).symm, F.sub (sc rfl (sc rfl (sc rfl (sc rfl (sc rfl (sc rfl (sc rfl (sc rfl (sc rfl (sc rfl (sc rfl (sc rfl sn)))))))))))), hB, h58, o59, h64, o65, h82, o83, h111, o112, K12, K19, K70, K90⟩
    ·
     replace hR := ifF hb130 hR
     have F := F.eq (t := 58) rfl (congrArg Value.bool hb130)
     refine o_move F rfl rfl (fun a F => ?_)
     refine o_move F rfl rfl (fun a F => ?_)
     refine o_neq F rfl rfl rfl (fun a F => ?_)
     refine o_pickf F rfl rfl rfl (fun a F => ?_)
     refine o_move F rfl rfl (fun a F => ?_)
     rcases bcases (z102.2.1 != z49.2.1) with hb131 | hb131
     ·
      replace hR := ifT hb131 hR
      have F := F.eq (t := 63) rfl (congrArg Value.bool hb131)
      refine o_no F rfl rfl (fun a F => ?_)
      refine o_no F rfl rfl (fun a F => ?_)
      refine o_no F rfl rfl (fun a F => ?_)
      refine o_pickt F rfl rfl rfl (fun a F => ?_)
      refine x_end ?_
      refine x_tn ?_
      exact ⟨true, (Option.some.inj hR).symm, F.sub (sc rfl (sc rfl (sc rfl (sc rfl (sc rfl (sc rfl (sc rfl (sc rfl (sc rfl (sc rfl (sc rfl (sc rfl sn)))))))))))), hB, h58, o59, h64, o65, h82, o83, h111, o112, K12, K19, K70, K90⟩
     ·
      replace hR := ifF hb131 hR
      have F := F.eq (t := 63) rfl (congrArg Value.bool hb131)
      refine o_move F rfl rfl (fun a F => ?_)
      refine o_move F rfl rfl (fun a F => ?_)
      refine o_neq F rfl rfl rfl (fun a F => ?_)
      refine o_pickf F rfl rfl rfl (fun a F => ?_)
      refine x_end ?_
      refine x_tn ?_
      exact ⟨(z102.2.2 != z49.2.2), (Option.some.inj hR).symm, F.sub (sc rfl (sc rfl (sc rfl (sc rfl (sc rfl (sc rfl (sc rfl (sc rfl (sc rfl (sc rfl (sc rfl (sc rfl sn)))))))))))), hB, h58, o59, h64, o65, h82, o83, h111, o112, K12, K19, K70, K90⟩
   ·
    intro a w ⟨s127, ho126, F, hB, h58, o59, h64, o65, h82, o83, h111, o112, K12, K19, K70, K90⟩
    subst ho126
    have hR := then_nx hk125
    refine x_tn ?_
    refine x_if F rfl (fun hb132 => ?_) (fun hb132 => ?_)
    ·
     replace hR := ifT hb132 hR
     refine x_seq ?_
     refine x_reg ?_
     refine o_assign F rfl rfl (fun a F => ?_)
     refine x_end ?_
     refine x_tn ?_
     refine x_ret ?_
     refine x_tr ?_
     refine x_res1 F rfl (rv_t F rfl) ?_
     obtain rfl := Option.some.inj hR
     exact ⟨rfl, hB⟩
    ·
     replace hR := ifF hb132 hR
     refine x_skip ?_
     refine x_tn ?_
     refine x_seq ?_
     refine x_seq ?_
     refine x_drawn (by kernel_rfl) (fun w l => ?_)
     replace hB := Below.through l hB
     replace h58 := h58.go l
     replace o59 := o59.go l
     replace h64 := h64.go l
     replace o65 := o65.go l
     replace h82 := h82.go l
     replace o83 := o83.go l
     replace h111 := h111.go l
     replace o112 := o112.go l
     replace K12 := K12.thru l
     replace K19 := K19.thru l
     replace K70 := K70.thru l
     replace K90 := K90.thru l
     refine b_q 0 (by kernel_rfl) rfl (by kernel_rfl) (by kernel_rfl) (by kernel_rfl) (by kernel_rfl) ?_
     refine v_val F rfl (fun w l => r_bloadA (cs := [.int .i64 x0.size, v76]) Tryz.isAgg33 Tryz.sizeOf33 F rfl (K70.thru l) rfl (fun j hj => by match j, hj with | 0, _ => rfl | 1, _ => rfl)) (fun a F => ?_)
     refine b_q 1 (by kernel_rfl) rfl (by kernel_rfl) (by kernel_rfl) (by kernel_rfl) (by kernel_rfl) ?_
     refine v_val F rfl (fun w l => r_bloadA (cs := [.int .i64 x0.size, v14]) Tryz.isAgg24 Tryz.sizeOf24 F rfl (K12.thru l) rfl (fun j hj => by match j, hj with | 0, _ => rfl | 1, _ => rfl)) (fun a F => ?_)
     refine b_e 2 rfl (by kernel_rfl) ?_
     refine o_toA F rfl Tryz.call17 rfl (toTemplate_any _ _ _ _ (A0.go hB).r (A0.go hB).m (toq_some c33)) (fun a v133 b134 w l h135 o136 F => ?_)
     have d137 := Dj.new h58.m o136 (Nat.le_refl _)
     have d138 := Dj.new h64.m o136 (Nat.le_refl _)
     have d139 := Dj.new h82.m o136 (Nat.le_refl _)
     have d140 := Dj.new h111.m o136 (Nat.le_refl _)
     have d141 := Dj.new (inm1 K12) o136 (Nat.le_refl _)
     have d142 := Dj.new (inm1 K19) o136 (Nat.le_refl _)
     have d143 := Dj.new (inm1 K70) o136 (Nat.le_refl _)
     have d144 := Dj.new (inm1 K90) o136 (Nat.le_refl _)
     replace o136 := o136.mono hB.size
     replace hB := Below.through l hB
     replace h58 := h58.go l
     replace o59 := o59.go l
     replace h64 := h64.go l
     replace o65 := o65.go l
     replace h82 := h82.go l
     replace o83 := o83.go l
     replace h111 := h111.go l
     replace o112 := o112.go l
     replace K12 := K12.thru l
     replace K19 := K19.thru l
     replace K70 := K70.thru l
     replace K90 := K90.thru l
     refine x_end ?_
     refine x_tn ?_
     refine ⟨.inl l, ?_⟩
     refine b_e 3 rfl (by kernel_rfl) ?_
     obtain ⟨z145, c146, hR⟩ := bnd_some hR
     refine o_says F rfl Tryz.call20 rfl (eqq_says (fun y => Rd (Agg 2 RTemplate) _ _ y _) c146 h135 (fun hy => eqTemplate_any _ _ _ _ _ _ h64.r hy.r h64.m hy.m)) (fun a w l F => ?_)
     replace hB := Below.through l hB
     replace h58 := h58.go l
     replace o59 := o59.go l
     replace h64 := h64.go l
     replace o65 := o65.go l
     replace h82 := h82.go l
     replace o83 := o83.go l
     replace h111 := h111.go l
     replace o112 := o112.go l
     replace K12 := K12.thru l
     replace K19 := K19.thru l
     replace K70 := K70.thru l
     replace K90 := K90.thru l
     refine x_end ?_
     refine x_tn ?_
     refine ⟨.inl l, ?_⟩
     refine b_q 4 (by kernel_rfl) rfl (by kernel_rfl) (by kernel_rfl) (by kernel_rfl) (by kernel_rfl) ?_
     refine v_val F rfl (fun w l => r_not F rfl) (fun a F => ?_)
     refine b_end (by kernel_rfl) ?_
     refine x_tn ?_
     refine x_if F rfl (fun hb147 => ?_) (fun hb147 => ?_)
     ·
      replace hR := ifT hb147 hR
      refine x_seq ?_
      refine x_reg ?_
      refine o_assign F rfl rfl (fun a F => ?_)
      refine x_end ?_
      refine x_tn ?_
      refine x_ret ?_
      refine x_tr ?_
      refine x_res1 F rfl (rv_t F rfl) ?_
      obtain rfl := Option.some.inj hR
      exact ⟨rfl, hB⟩
     ·
      replace hR := ifF hb147 hR
      refine x_skip ?_
      refine x_tn ?_
      refine x_seq ?_
      refine x_seq ?_
      refine x_drawn (by kernel_rfl) (fun w l => ?_)
      replace hB := Below.through l hB
      replace h58 := h58.go l
      replace o59 := o59.go l
      replace h64 := h64.go l
      replace o65 := o65.go l
      replace h82 := h82.go l
      replace o83 := o83.go l
      replace h111 := h111.go l
      replace o112 := o112.go l
      replace K12 := K12.thru l
      replace K19 := K19.thru l
      replace K70 := K70.thru l
      replace K90 := K90.thru l
      refine b_q 0 (by kernel_rfl) rfl (by kernel_rfl) (by kernel_rfl) (by kernel_rfl) (by kernel_rfl) ?_
      refine v_val F rfl (fun w l => r_bloadA (cs := [.int .i64 x1.vars, v98]) Tryz.isAgg51 Tryz.sizeOf51 F rfl (K90.thru l) rfl (fun j hj => by match j, hj with | 0, _ => rfl | 1, _ => rfl)) (fun a F => ?_)
      refine b_q 1 (by kernel_rfl) rfl (by kernel_rfl) (by kernel_rfl) (by kernel_rfl) (by kernel_rfl) ?_
      refine v_val F rfl (fun w l => r_bloadA (cs := [.int .i64 x1.vars, v21]) Tryz.isAgg44 Tryz.sizeOf44 F rfl (K19.thru l) rfl (fun j hj => by match j, hj with | 0, _ => rfl | 1, _ => rfl)) (fun a F => ?_)
      refine b_e 2 rfl (by kernel_rfl) ?_
      refine o_toA F rfl Tryz.call24 rfl (toInstance_any _ _ _ _ (A1.go hB).r (A1.go hB).m (toq_some c41)) (fun a v148 b149 w l h150 o151 F => ?_)
      have d152 := Dj.new h58.m o151 (Nat.le_refl _)
      have d153 := Dj.new h64.m o151 (Nat.le_refl _)
      have d154 := Dj.new h82.m o151 (Nat.le_refl _)
      have d155 := Dj.new h111.m o151 (Nat.le_refl _)
      have d156 := Dj.new (inm1 K12) o151 (Nat.le_refl _)
      have d157 := Dj.new (inm1 K19) o151 (Nat.le_refl _)
      have d158 := Dj.new (inm1 K70) o151 (Nat.le_refl _)
      have d159 := Dj.new (inm1 K90) o151 (Nat.le_refl _)
      replace o151 := o151.mono hB.size
      replace hB := Below.through l hB
      replace h58 := h58.go l
      replace o59 := o59.go l
      replace h64 := h64.go l
      replace o65 := o65.go l
      replace h82 := h82.go l
      replace o83 := o83.go l
      replace h111 := h111.go l
      replace o112 := o112.go l
      replace K12 := K12.thru l
      replace K19 := K19.thru l
      replace K70 := K70.thru l
      replace K90 := K90.thru l
      refine x_end ?_
      refine x_tn ?_
      refine ⟨.inl l, ?_⟩
      refine b_e 3 rfl (by kernel_rfl) ?_
      obtain ⟨z160, c161, hR⟩ := bnd_some hR
      refine o_says F rfl Tryz.call27 rfl (eqq_says (fun y => Rd (Agg 2 RInstance) _ _ y _) c161 h150 (fun hy => eqInstance_any _ _ _ _ _ _ h82.r hy.r h82.m hy.m)) (fun a w l F => ?_)
      replace hB := Below.through l hB
      replace h58 := h58.go l
      replace o59 := o59.go l
      replace h64 := h64.go l
      replace o65 := o65.go l
      replace h82 := h82.go l
      replace o83 := o83.go l
      replace h111 := h111.go l
      replace o112 := o112.go l
      replace K12 := K12.thru l
      replace K19 := K19.thru l
      replace K70 := K70.thru l
      replace K90 := K90.thru l
      refine x_end ?_
      refine x_tn ?_
      refine ⟨.inl l, ?_⟩
      refine b_q 4 (by kernel_rfl) rfl (by kernel_rfl) (by kernel_rfl) (by kernel_rfl) (by kernel_rfl) ?_
      refine v_val F rfl (fun w l => r_not F rfl) (fun a F => ?_)
      refine b_end (by kernel_rfl) ?_
      refine x_tn ?_
      refine x_if F rfl (fun hb162 => ?_) (fun hb162 => ?_)
      ·
       replace hR := ifT hb162 hR
       refine x_seq ?_
       refine x_reg ?_
       refine o_assign F rfl rfl (fun a F => ?_)
       refine x_end ?_
       refine x_tn ?_
       refine x_ret ?_
       refine x_tr ?_
       refine x_res1 F rfl (rv_t F rfl) ?_
       obtain rfl := Option.some.inj hR
       exact ⟨rfl, hB⟩
      ·
       replace hR := ifF hb162 hR
       refine x_skip ?_
       refine x_tn ?_
       refine x_seq ?_
       refine x_reg ?_
       refine o_assign F rfl rfl (fun a F => ?_)
       refine x_end ?_
       refine x_tn ?_
       refine x_seq ?_
       refine x_reg ?_
       refine o_bloadA (cs := [.int .i64 x0.size, v76]) Tryz.isAgg33 Tryz.sizeOf33 F rfl rfl K70 rfl (fun j hj => by match j, hj with | 0, _ => rfl | 1, _ => rfl) (fun a F => ?_)
       refine o_move F rfl rfl (fun a F => ?_)
       obtain ⟨z163, c164, hR⟩ := bnd_some hR
       refine o_markA F rfl Tryz.call28 rfl (mkq_markA c164 (fun h0 h1 => markTemplate_any _ _ _ _ _ _ h64.r o65 h0 h1)) (fun a w l h165 o166 F => ?_)
       replace h58 := h58.goO l d66
       replace o59 := o59.goO l d66
       replace h82 := h82.goO l (Dj.symm d85)
       replace o83 := o83.goO l (Dj.symm d85)
       replace h111 := h111.goO l (Dj.symm d114)
       replace o112 := o112.goO l (Dj.symm d114)
       replace K12 := K12.only l (Dj.in1 d67)
       replace K19 := K19.only l (Dj.in1 d68)
       replace K90 := K90.only l (Dj.in1 (Dj.symm d95))
       replace hB := hB.o l (Own.lo o65) hB.size
       have iz163 := mkq_i c164
       refine o_assign F rfl rfl (fun a F => ?_)
       refine x_end ?_
       refine x_tn ?_
       refine x_seq ?_
       refine x_reg ?_
       refine o_bloadA (cs := [.int .i64 x1.vars, v98]) Tryz.isAgg51 Tryz.sizeOf51 F rfl rfl K90 rfl (fun j hj => by match j, hj with | 0, _ => rfl | 1, _ => rfl) (fun a F => ?_)
       refine o_move F rfl rfl (fun a F => ?_)
       obtain ⟨z167, c168, hR⟩ := bnd_some hR
       refine o_markA F rfl Tryz.call29 rfl (mkq_markA c168 (fun h0 h1 => markInstance_any _ _ _ _ _ _ h82.r o83 h0 h1)) (fun a w l h169 o170 F => ?_)
       replace h58 := h58.goO l d84
       replace o59 := o59.goO l d84
       replace h111 := h111.goO l (Dj.symm d115)
       replace o112 := o112.goO l (Dj.symm d115)
       replace K12 := K12.only l (Dj.in1 d86)
       replace K19 := K19.only l (Dj.in1 d87)
       replace hB := hB.o l (Own.lo o83) hB.size
       have iz167 := mkq_i c168
       refine o_assign F rfl rfl (fun a F => ?_)
       refine x_end ?_
       refine x_tn ?_
       refine x_seq ?_
       refine x_seq ?_
       obtain ⟨o176, hR, hk177⟩ := thn_some hR
       refine x_cutQ (fun a w => ∃ (s179 : Bool), o176 = .nx s179 ∧ Sk a 145 [(2, .int .i64 x2), (3, .pointer (some ⟨b11, 0, none⟩)), (4, .pointer (some ⟨b18, 0, none⟩)), (8, v51), (9, .int .i64 z49.2.1), (10, .int .i64 z49.2.2), (13, v104), (101, .bool s179)] ∧ Below w0.heap.size w0 w ∧ Rd (Sl 1 RInt) w v51 z49.1 (rb52 ++ []) ∧ Own w0.heap.size (rb52 ++ []) w ∧ Rd (Sl 1 RInt) w v104 z102.1 (rb105 ++ []) ∧ Own w0.heap.size (rb105 ++ []) w ∧ Blk w b11 #[.int .i64 x0.size, v14] 24 ∧ Blk w b18 #[.int .i64 x1.vars, v21] 44) ?_ ?_
       ·
        refine x_reg ?_
        refine o_move F rfl rfl (fun a F => ?_)
        refine o_lss F rfl rfl rfl (fun a F => ?_)
        refine o_move F rfl rfl (fun a F => ?_)
        rcases bcases (decide (z167 < 0)) with hb180 | hb180
        ·
         replace hR := ifT hb180 hR
         have F := F.eq (t := 86) rfl (congrArg Value.bool hb180)
         refine o_no F rfl rfl (fun a F => ?_)
         refine o_no F rfl rfl (fun a F => ?_)
         refine o_no F rfl rfl (fun a F => ?_)
         refine o_no F rfl rfl (fun a F => ?_)
         refine o_pickt F rfl rfl rfl (fun a F => ?_)
         refine o_move F rfl rfl (fun a F => ?_)
         refine o_no F rfl rfl (fun a F => ?_)
         refine o_no F rfl rfl (fun a F => ?_)
         refine o_no F rfl rfl (fun a F => ?_)
         refine o_pickt F rfl rfl rfl (fun a F => ?_)
         refine o_move F rfl rfl (fun a F => ?_)
         refine o_no F rfl rfl (fun a F => ?_)
         refine o_no F rfl rfl (fun a F => ?_)
         refine o_no F rfl rfl (fun a F => ?_)
         refine o_pickt F rfl rfl rfl (fun a F => ?_)
         refine x_end ?_
         refine x_tn ?_
         exact ⟨true, (Option.some.inj hR).symm, F.sub (sc rfl (sc rfl (sc rfl (sc rfl (sc rfl (sc rfl (sc rfl (sc rfl sn)))))))), hB, h58, o59, h111, o112, K12, K19⟩
        ·
         replace hR := ifF hb180 hR
         have F := F.eq (t := 86) rfl (congrArg Value.bool hb180)
         refine o_move F rfl rfl (fun a F => ?_)
         refine o_move F rfl rfl (fun a F => ?_)
         obtain ⟨z181, c182, hR⟩ := bnd_some hR
         refine o_says F rfl Tryz.call26 rfl (eqq_says (fun y => Rd (Sl 1 RInt) _ _ y _) c182 h58 (fun hy => eqInt64S_any _ _ _ _ _ _ h111.r hy.r h111.m hy.m)) (fun a w l F => ?_)
         replace hB := Below.through l hB
         replace h58 := h58.go l
         replace o59 := o59.go l
         replace h111 := h111.go l
         replace o112 := o112.go l
         replace K12 := K12.thru l
         replace K19 := K19.thru l
         refine o_not F rfl rfl (fun a F => ?_)
         refine o_pickf F rfl rfl rfl (fun a F => ?_)
         refine o_move F rfl rfl (fun a F => ?_)
         rcases bcases (!z181) with hb183 | hb183
         ·
          replace hR := ifT hb183 hR
          have F := F.eq (t := 92) rfl (congrArg Value.bool hb183)
          refine o_no F rfl rfl (fun a F => ?_)
          refine o_no F rfl rfl (fun a F => ?_)
          refine o_no F rfl rfl (fun a F => ?_)
          refine o_pickt F rfl rfl rfl (fun a F => ?_)
          refine o_move F rfl rfl (fun a F => ?_)
          refine o_no F rfl rfl (fun a F => ?_)
          refine o_no F rfl rfl (fun a F => ?_)
          refine o_no F rfl rfl (fun a F => ?_)
          refine o_pickt F rfl rfl rfl (fun a F => ?_)
          refine x_end ?_
          refine x_tn ?_
          exact ⟨true, (Option.some.inj hR).symm, F.sub (sc rfl (sc rfl (sc rfl (sc rfl (sc rfl (sc rfl (sc rfl (sc rfl sn)))))))), hB, h58, o59, h111, o112, K12, K19⟩
         ·
          replace hR := ifF hb183 hR
          have F := F.eq (t := 92) rfl (congrArg Value.bool hb183)
          refine o_move F rfl rfl (fun a F => ?_)
          refine o_move F rfl rfl (fun a F => ?_)
          refine o_neq F rfl rfl rfl (fun a F => ?_)
          refine o_pickf F rfl rfl rfl (fun a F => ?_)
          refine o_move F rfl rfl (fun a F => ?_)
          rcases bcases (z102.2.1 != z49.2.1) with hb184 | hb184
          ·
           replace hR := ifT hb184 hR
           have F := F.eq (t := 97) rfl (congrArg Value.bool hb184)
           refine o_no F rfl rfl (fun a F => ?_)
           refine o_no F rfl rfl (fun a F => ?_)
           refine o_no F rfl rfl (fun a F => ?_)
           refine o_pickt F rfl rfl rfl (fun a F => ?_)
           refine x_end ?_
           refine x_tn ?_
           exact ⟨true, (Option.some.inj hR).symm, F.sub (sc rfl (sc rfl (sc rfl (sc rfl (sc rfl (sc rfl (sc rfl (sc rfl sn)))))))), hB, h58, o59, h111, o112, K12, K19⟩
          ·
           replace hR := ifF hb184 hR
           have F := F.eq (t := 97) rfl (congrArg Value.bool hb184)
           refine o_move F rfl rfl (fun a F => ?_)
           refine o_move F rfl rfl (fun a F => ?_)
           refine o_neq F rfl rfl rfl (fun a F => ?_)
           refine o_pickf F rfl rfl rfl (fun a F => ?_)
           refine x_end ?_
           refine x_tn ?_
           exact ⟨(z102.2.2 != z49.2.2), (Option.some.inj hR).symm, F.sub (sc rfl (sc rfl (sc rfl (sc rfl (sc rfl (sc rfl (sc rfl (sc rfl sn)))))))), hB, h58, o59, h111, o112, K12, K19⟩
       ·
        intro a w ⟨s179, ho178, F, hB, h58, o59, h111, o112, K12, K19⟩
        subst ho178
        have hR := then_nx hk177
        refine x_tn ?_
        refine x_if F rfl (fun hb185 => ?_) (fun hb185 => ?_)
        ·
         replace hR := ifT hb185 hR
         refine x_seq ?_
         refine x_reg ?_
         refine o_assign F rfl rfl (fun a F => ?_)
         refine x_end ?_
         refine x_tn ?_
         refine x_ret ?_
         refine x_tr ?_
         refine x_res1 F rfl (rv_t F rfl) ?_
         obtain rfl := Option.some.inj hR
         exact ⟨rfl, hB⟩
        ·
         replace hR := ifF hb185 hR
         refine x_skip ?_
         refine x_tn ?_
         refine x_seq ?_
         refine x_reg ?_
         refine o_assign F rfl rfl (fun a F => ?_)
         refine x_end ?_
         refine x_tn ?_
         refine x_seq ?_
         refine x_reg ?_
         refine o_move F rfl rfl (fun a F => ?_)
         refine o_move F rfl rfl (fun a F => ?_)
         obtain ⟨z186, c187, hR⟩ := bnd_some hR
         refine o_markS F rfl Tryz.call30 rfl (mkq_markS c187 (fun h0 h1 => markInt64S_any _ _ _ _ _ _ h111.r o112 h0 h1)) (fun a w l h188 o189 F => ?_)
         replace h58 := h58.goO l d113
         replace o59 := o59.goO l d113
         replace K12 := K12.only l (Dj.in1 d116)
         replace K19 := K19.only l (Dj.in1 d117)
         replace hB := hB.o l (Own.lo o112) hB.size
         have iz186 := mkq_i c187
         refine o_assign F rfl rfl (fun a F => ?_)
         refine x_end ?_
         refine x_tn ?_
         refine x_seq ?_
         refine x_reg ?_
         refine o_assign F rfl rfl (fun a F => ?_)
         refine x_end ?_
         refine x_tn ?_
         refine x_seq ?_
         refine x_reg ?_
         refine o_move F rfl rfl (fun a F => ?_)
         refine o_move F rfl rfl (fun a F => ?_)
         refine o_saysI F rfl Tryz.call31 rfl (mkq_says c187 (fun h0 h1 => heldInt64S_any _ _ _ _ _ h188.r h188.m h0 h1)) (fun a w l iz186 F => ?_)
         replace hB := Below.through l hB
         replace h58 := h58.go l
         replace o59 := o59.go l
         replace h188 := h188.go l
         replace o189 := o189.go l
         replace K12 := K12.thru l
         replace K19 := K19.thru l
         refine o_assign F rfl rfl (fun a F => ?_)
         refine x_end ?_
         refine x_tn ?_
         refine x_seq ?_
         refine x_seq ?_
         refine x_reg ?_
         refine o_move F rfl rfl (fun a F => ?_)
         refine o_lss F rfl rfl rfl (fun a F => ?_)
         refine x_end ?_
         refine x_tn ?_
         refine x_if F rfl (fun hb190 => ?_) (fun hb190 => ?_)
         ·
          replace hR := ifT hb190 hR
          refine x_seq ?_
          refine x_reg ?_
          refine o_assign F rfl rfl (fun a F => ?_)
          refine x_end ?_
          refine x_tn ?_
          refine x_ret ?_
          refine x_tr ?_
          refine x_res1 F rfl (rv_t F rfl) ?_
          obtain rfl := Option.some.inj hR
          exact ⟨rfl, hB⟩
         ·
          replace hR := ifF hb190 hR
          refine x_skip ?_
          refine x_tn ?_
          refine x_seq ?_
          refine x_seq ?_
          refine x_reg ?_
          refine o_move F rfl rfl (fun a F => ?_)
          refine o_move F rfl rfl (fun a F => ?_)
          refine o_neq F rfl rfl rfl (fun a F => ?_)
          refine x_end ?_
          refine x_tn ?_
          refine x_if F rfl (fun hb191 => ?_) (fun hb191 => ?_)
          ·
           replace hR := ifT hb191 hR
           refine x_seq ?_
           refine x_reg ?_
           refine o_assign F rfl rfl (fun a F => ?_)
           refine x_end ?_
           refine x_tn ?_
           refine x_ret ?_
           refine x_tr ?_
           refine x_res1 F rfl (rv_t F rfl) ?_
           obtain rfl := Option.some.inj hR
           exact ⟨rfl, hB⟩
          ·
           replace hR := ifF hb191 hR
           refine x_skip ?_
           refine x_tn ?_
           refine x_seq ?_
           refine x_drawn (by kernel_rfl) (fun w l => ?_)
           replace hB := Below.through l hB
           replace h58 := h58.go l
           replace o59 := o59.go l
           replace h188 := h188.go l
           replace o189 := o189.go l
           replace K12 := K12.thru l
           replace K19 := K19.thru l
           refine b_q 0 (by kernel_rfl) rfl (by kernel_rfl) (by kernel_rfl) (by kernel_rfl) (by kernel_rfl) ?_
           refine v_val F rfl (fun w l => r_bloadA (cs := [.int .i64 x0.size, v14]) Tryz.isAgg24 Tryz.sizeOf24 F rfl (K12.thru l) rfl (fun j hj => by match j, hj with | 0, _ => rfl | 1, _ => rfl)) (fun a F => ?_)
           refine b_q 2 (by kernel_rfl) rfl (by kernel_rfl) (by kernel_rfl) (by kernel_rfl) (by kernel_rfl) ?_
           refine v_val F rfl (fun w l => r_bloadA (cs := [.int .i64 x1.vars, v21]) Tryz.isAgg44 Tryz.sizeOf44 F rfl (K19.thru l) rfl (fun j hj => by match j, hj with | 0, _ => rfl | 1, _ => rfl)) (fun a F => ?_)
           refine b_q0 4 rfl (by kernel_rfl) (by kernel_rfl) (by kernel_rfl) ?_
           refine v_val F rfl (fun w l => r_move F rfl) (fun a F => ?_)
           refine b_e 1 rfl (by kernel_rfl) ?_
           refine o_toA F rfl Tryz.call17 rfl (toTemplate_any _ _ _ _ (A0.go hB).r (A0.go hB).m (toq_some c33)) (fun a v192 b193 w l h194 o195 F => ?_)
           have d196 := Dj.new h58.m o195 (Nat.le_refl _)
           have d197 := Dj.new h188.m o195 (Nat.le_refl _)
           replace o195 := o195.mono hB.size
           replace hB := Below.through l hB
           replace h58 := h58.go l
           replace o59 := o59.go l
           replace h188 := h188.go l
           replace o189 := o189.go l
           refine x_end ?_
           refine x_tn ?_
           refine ⟨.inl l, ?_⟩
           refine b_e 3 rfl (by kernel_rfl) ?_
           refine o_toA F rfl Tryz.call24 rfl (toInstance_any _ _ _ _ (A1.go hB).r (A1.go hB).m (toq_some c41)) (fun a v198 b199 w l h200 o201 F => ?_)
           have d202 := Dj.new h58.m o201 (Nat.le_refl _)
           have d203 := Dj.new h188.m o201 (Nat.le_refl _)
           have d204 := Dj.new h194.m o201 (Nat.le_refl _)
           replace o201 := o201.mono hB.size
           replace hB := Below.through l hB
           replace h58 := h58.go l
           replace o59 := o59.go l
           replace h188 := h188.go l
           replace o189 := o189.go l
           replace h194 := h194.go l
           replace o195 := o195.go l
           refine x_end ?_
           refine x_tn ?_
           refine ⟨.inl l, ?_⟩
           refine b_e 5 rfl (by kernel_rfl) ?_
           refine o_gives F rfl Tryz.call25 rfl (impl_SearchFor_c z102 c103 _ h194 h200 hx2) (fun a vv w l ⟨v205, rb206, hv211, h208, i209, i210⟩ F => ?_)
           subst vv
           have o213 := h208.own (Own.nil _ _)
           have h212 := h208.rd
           have d214 := Dj.new h58.m o213 (Nat.le_refl _)
           have d215 := Dj.new h188.m o213 (Nat.le_refl _)
           replace o213 := o213.mono hB.size
           replace hB := Below.through l hB
           replace h58 := h58.go l
           replace o59 := o59.go l
           replace h188 := h188.go l
           replace o189 := o189.go l
           refine x_end ?_
           refine x_tn ?_
           refine ⟨.inl l, ?_⟩
           refine b_q0 6 rfl (by kernel_rfl) (by kernel_rfl) (by kernel_rfl) ?_
           refine v_val F rfl (fun w l => r_move F rfl) (fun a F => ?_)
           refine b_q 7 (by kernel_rfl) rfl (by kernel_rfl) (by kernel_rfl) (by kernel_rfl) (by kernel_rfl) ?_
           refine v_val F rfl (fun w l => r_extract F rfl rfl) (fun a F => ?_)
           refine b_q 8 (by kernel_rfl) rfl (by kernel_rfl) (by kernel_rfl) (by kernel_rfl) (by kernel_rfl) ?_
           refine v_val F rfl (fun w l => r_extract F rfl rfl) (fun a F => ?_)
           refine b_q 9 (by kernel_rfl) rfl (by kernel_rfl) (by kernel_rfl) (by kernel_rfl) (by kernel_rfl) ?_
           refine v_val F rfl (fun w l => r_extract F rfl rfl) (fun a F => ?_)
           refine b_q0 10 rfl (by kernel_rfl) (by kernel_rfl) (by kernel_rfl) ?_
           refine v_val F rfl (fun w l => r_assign F rfl) (fun a F => ?_)
           refine b_q0 11 rfl (by kernel_rfl) (by kernel_rfl) (by kernel_rfl) ?_
           refine v_val F rfl (fun w l => r_assign F rfl) (fun a F => ?_)
           refine b_q0 12 rfl (by kernel_rfl) (by kernel_rfl) (by kernel_rfl) ?_
           refine v_val F rfl (fun w l => r_assign F rfl) (fun a F => ?_)
           refine b_end (by kernel_rfl) ?_
           refine x_tn ?_
           refine x_seq ?_
           refine x_seq ?_
           obtain ⟨o220, hR, hk221⟩ := thn_some hR
           refine x_cutQ (fun a w => ∃ (s223 : Bool), o220 = .nx s223 ∧ Sk a 145 [(13, v104), (17, .int .i64 z186), (136, .bool s223)] ∧ Below w0.heap.size w0 w ∧ Rd (Sl 1 RInt) w v104 (mkS mkI cI z102.1 1) (rb105 ++ []) ∧ Own w0.heap.size (rb105 ++ []) w) ?_ ?_
           ·
            refine x_reg ?_
            refine o_move F rfl rfl (fun a F => ?_)
            refine o_move F rfl rfl (fun a F => ?_)
            obtain ⟨z224, c225, hR⟩ := bnd_some hR
            refine o_says F rfl Tryz.call26 rfl (eqq_says (fun y => Rd (Sl 1 RInt) _ _ y _) c225 h58 (fun hy => eqInt64S_any _ _ _ _ _ _ h212.r hy.r h212.m hy.m)) (fun a w l F => ?_)
            replace hB := Below.through l hB
            replace h188 := h188.go l
            replace o189 := o189.go l
            refine o_not F rfl rfl (fun a F => ?_)
            refine o_move F rfl rfl (fun a F => ?_)
            rcases bcases (!z224) with hb226 | hb226
            ·
             replace hR := ifT hb226 hR
             have F := F.eq (t := 127) rfl (congrArg Value.bool hb226)
             refine o_no F rfl rfl (fun a F => ?_)
             refine o_no F rfl rfl (fun a F => ?_)
             refine o_no F rfl rfl (fun a F => ?_)
             refine o_pickt F rfl rfl rfl (fun a F => ?_)
             refine o_move F rfl rfl (fun a F => ?_)
             refine o_no F rfl rfl (fun a F => ?_)
             refine o_no F rfl rfl (fun a F => ?_)
             refine o_no F rfl rfl (fun a F => ?_)
             refine o_pickt F rfl rfl rfl (fun a F => ?_)
             refine x_end ?_
             refine x_tn ?_
             exact ⟨true, (Option.some.inj hR).symm, F.sub (sc rfl (sc rfl (sc rfl sn))), hB, h188, o189⟩
            ·
             replace hR := ifF hb226 hR
             have F := F.eq (t := 127) rfl (congrArg Value.bool hb226)
             refine o_move F rfl rfl (fun a F => ?_)
             refine o_move F rfl rfl (fun a F => ?_)
             refine o_neq F rfl rfl rfl (fun a F => ?_)
             refine o_pickf F rfl rfl rfl (fun a F => ?_)
             refine o_move F rfl rfl (fun a F => ?_)
             rcases bcases (z102.2.1 != z49.2.1) with hb227 | hb227
             ·
              replace hR := ifT hb227 hR
              have F := F.eq (t := 132) rfl (congrArg Value.bool hb227)
              refine o_no F rfl rfl (fun a F => ?_)
              refine o_no F rfl rfl (fun a F => ?_)
              refine o_no F rfl rfl (fun a F => ?_)
              refine o_pickt F rfl rfl rfl (fun a F => ?_)
              refine x_end ?_
              refine x_tn ?_
              exact ⟨true, (Option.some.inj hR).symm, F.sub (sc rfl (sc rfl (sc rfl sn))), hB, h188, o189⟩
             ·
              replace hR := ifF hb227 hR
              have F := F.eq (t := 132) rfl (congrArg Value.bool hb227)
              refine o_move F rfl rfl (fun a F => ?_)
              refine o_move F rfl rfl (fun a F => ?_)
              refine o_neq F rfl rfl rfl (fun a F => ?_)
              refine o_pickf F rfl rfl rfl (fun a F => ?_)
              refine x_end ?_
              refine x_tn ?_
              exact ⟨(z102.2.2 != z49.2.2), (Option.some.inj hR).symm, F.sub (sc rfl (sc rfl (sc rfl sn))), hB, h188, o189⟩
           ·
            intro a w ⟨s223, ho222, F, hB, h188, o189⟩
            subst ho222
            have hR := then_nx hk221
            refine x_tn ?_
            refine x_if F rfl (fun hb228 => ?_) (fun hb228 => ?_)
            ·
             replace hR := ifT hb228 hR
             refine x_seq ?_
             refine x_reg ?_
             refine o_assign F rfl rfl (fun a F => ?_)
             refine x_end ?_
             refine x_tn ?_
             refine x_ret ?_
             refine x_tr ?_
             refine x_res1 F rfl (rv_t F rfl) ?_
             obtain rfl := Option.some.inj hR
             exact ⟨rfl, hB⟩
            ·
             replace hR := ifF hb228 hR
             refine x_skip ?_
             refine x_tn ?_
             refine x_seq ?_
             refine x_reg ?_
             refine o_assign F rfl rfl (fun a F => ?_)
             refine x_end ?_
             refine x_tn ?_
             refine x_seq ?_
             refine x_reg ?_
             refine o_move F rfl rfl (fun a F => ?_)
             refine o_move F rfl rfl (fun a F => ?_)
             refine o_saysI F rfl Tryz.call31 rfl (mkq_says c187 (fun h0 h1 => heldInt64S_any _ _ _ _ _ h188.r h188.m h0 h1)) (fun a w l iz186 F => ?_)
             replace hB := Below.through l hB
             refine o_assign F rfl rfl (fun a F => ?_)
             refine x_end ?_
             refine x_tn ?_
             refine x_seq ?_
             refine x_seq ?_
             refine x_reg ?_
             refine o_move F rfl rfl (fun a F => ?_)
             refine o_lss F rfl rfl rfl (fun a F => ?_)
             refine x_end ?_
             refine x_tn ?_
             refine x_if F rfl (fun hb229 => ?_) (fun hb229 => ?_)
             ·
              replace hR := ifT hb229 hR
              refine x_seq ?_
              refine x_reg ?_
              refine o_assign F rfl rfl (fun a F => ?_)
              refine x_end ?_
              refine x_tn ?_
              refine x_ret ?_
              refine x_tr ?_
              refine x_res1 F rfl (rv_t F rfl) ?_
              obtain rfl := Option.some.inj hR
              exact ⟨rfl, hB⟩
             ·
              replace hR := ifF hb229 hR
              refine x_skip ?_
              refine x_tn ?_
              refine x_seq ?_
              refine x_seq ?_
              refine x_reg ?_
              refine o_move F rfl rfl (fun a F => ?_)
              refine o_move F rfl rfl (fun a F => ?_)
              refine o_neq F rfl rfl rfl (fun a F => ?_)
              refine x_end ?_
              refine x_tn ?_
              refine x_if F rfl (fun hb230 => ?_) (fun hb230 => ?_)
              ·
               replace hR := ifT hb230 hR
               refine x_seq ?_
               refine x_reg ?_
               refine o_assign F rfl rfl (fun a F => ?_)
               refine x_end ?_
               refine x_tn ?_
               refine x_ret ?_
               refine x_tr ?_
               refine x_res1 F rfl (rv_t F rfl) ?_
               obtain rfl := Option.some.inj hR
               exact ⟨rfl, hB⟩
              ·
               replace hR := ifF hb230 hR
               refine x_skip ?_
               refine x_tn ?_
               refine x_seq ?_
               refine x_reg ?_
               refine o_assign F rfl rfl (fun a F => ?_)
               refine x_end ?_
               refine x_tn ?_
               refine x_ret ?_
               refine x_res1 F rfl (rv_t F rfl) ?_
               obtain rfl := Option.some.inj hR
               exact ⟨rfl, hB⟩
end
end Go.Proofs.YtfepllddlmhjiaaGreat
