/-
  Laws of the program as plain functions, and that they compute them. Printed by lawfx.py.
-/
import Derived.Test.YtfepllddlmhjiaaGreatS4a
import Derived.Test.YtfepllddlmhjiaaGreatY
import Derived.Test.YtfepllddlmhjiaaGreatL2
import Derived.Test.YtfepllddlmhjiaaGreatL5
import Derived.Test.YtfepllddlmhjiaaGreatL6
namespace Go.Proofs.YtfepllddlmhjiaaGreat
set_option linter.unusedVariables false
set_option linter.unusedSimpArgs false
set_option maxRecDepth 100000
open Go.RowKit
noncomputable section
def laws_FnExactIsNoGood (N : Nat) (x0 : Template) (x1 : Instance) (x2 : List Literal) (x3 : Int) : Option Bool :=
 bnd (szq 1048576 (x0.sz)) fun z26 =>
 if (decide (z26 < 0)) then
  some true
 else
  bnd (szq z26 (x1.sz)) fun z29 =>
  if (decide (z29 < 0)) then
   some true
  else
   bnd (szq z29 ((x2.length))) fun z32 =>
   if (decide (z32 < 0)) then
    some true
   else
    bnd (toq (x0.sz)) fun z35 =>
    bnd (toq (x1.sz)) fun z43 =>
    bnd (toq (x2.length)) fun z52 =>
    bnd (spec_IsNoGood N x0 x1 x2 x3) fun z62 =>
    bnd (impl_IsNoGood N x0 x1 x2 x3) fun z112 =>
    thn (σ := Bool) (
     if (z112.1 != z62.1) then  some (.nx true) else  some (.nx (z112.2 != z62.2))) fun s120 =>
    if s120 then
     some false
    else
     bnd (eqq x0 x0) fun z132 =>
     if (!z132) then
      some false
     else
      bnd (eqq x1 x1) fun z141 =>
      if (!z141) then
       some false
      else
       bnd (eqq x2 x2) fun z149 =>
       if (!z149) then
        some false
       else
        some true
set_option maxHeartbeats 1000000 in
theorem laws_FnExactIsNoGood_c {N : Nat} {x0 : Template} {x1 : Instance} {x2 : List Literal} {x3 : Int} (r : Bool) (hR : laws_FnExactIsNoGood N x0 x1 x2 x3 = some r) {v0 : Value} {b0 : List Nat} {v1 : Value} {b1 : List Nat} {v2 : Value} {b2 : List Nat} (w0 : World) (A0 : Rd (Agg 2 RTemplate) w0 v0 x0 b0) (A1 : Rd (Agg 2 RInstance) w0 v1 x1 b1) (A2 : Rd (Sl 2 RLiteral) w0 v2 x2 b2) (hx3 : I64 x3) : Calls Tryz.prog 5 #[v0, v1, v2, .int .i64 x3] w0 (Says (.bool r) w0) := by
 unfold laws_FnExactIsNoGood at hR
 refine x_enter (L := [(0, v0), (1, v1), (2, v2), (3, .int .i64 x3)]) Tryz.func5 rfl rfl rfl (sc rfl (sc rfl (sc rfl (sc rfl sn)))) (fun a F => ?_)
 have hB := Below.refl w0.heap.size w0
 refine x_seq ?_
 refine x_reg ?_
 obtain ⟨v14, b15, e17, i13, h16, _⟩ := RTemplate.rd (A0.go hB)
 subst e17
 refine o_box F rfl rfl rfl (fun a w b11 K12 l BK12 F => ?_)
 have CK12 := Nat.le_trans hB.size BK12
 replace hB := Below.through l hB
 obtain ⟨v21, b22, e24, i20, h23, _⟩ := RInstance.rd (A1.go hB)
 subst e24
 refine o_box F rfl rfl rfl (fun a w b18 K19 l BK19 F => ?_)
 have nb25 := Dj.bb K12 BK19
 have CK19 := Nat.le_trans hB.size BK19
 replace hB := Below.through l hB
 replace K12 := K12.thru l
 refine o_assign F rfl rfl (fun a F => ?_)
 refine x_end ?_
 refine x_tn ?_
 refine x_seq ?_
 refine x_reg ?_
 refine o_assign F rfl rfl (fun a F => ?_)
 refine x_end ?_
 refine x_tn ?_
 refine x_seq ?_
 refine x_reg ?_
 refine o_bloadA (cs := [.int .i64 x0.size, v14]) Tryz.isAgg24 Tryz.sizeOf24 F rfl rfl K12 rfl (fun j hj => by match j, hj with | 0, _ => rfl | 1, _ => rfl) (fun a F => ?_)
 refine o_move F rfl rfl (fun a F => ?_)
 obtain ⟨z26, c27, hR⟩ := bnd_some hR
 refine o_saysI F rfl Tryz.call14 rfl (szq_says c27 (fun h0 h1 => szTemplate_any _ _ _ _ _ (A0.go hB).r (A0.go hB).m h0 h1)) (fun a w l iz26 F => ?_)
 replace hB := Below.through l hB
 replace K12 := K12.thru l
 replace K19 := K19.thru l
 refine o_assign F rfl rfl (fun a F => ?_)
 refine x_end ?_
 refine x_tn ?_
 refine x_seq ?_
 refine x_seq ?_
 refine x_reg ?_
 refine o_move F rfl rfl (fun a F => ?_)
 refine o_lss F rfl rfl rfl (fun a F => ?_)
 refine x_end ?_
 refine x_tn ?_
 refine x_if F rfl (fun hb28 => ?_) (fun hb28 => ?_)
 ·
  replace hR := ifT hb28 hR
  refine x_seq ?_
  refine x_reg ?_
  refine o_assign F rfl rfl (fun a F => ?_)
  refine x_end ?_
  refine x_tn ?_
  refine x_ret ?_
  refine x_tr ?_
  refine x_res1 F rfl (rv_t F rfl) ?_
  obtain rfl := Option.some.inj hR
  exact ⟨rfl, hB⟩
 ·
  replace hR := ifF hb28 hR
  refine x_skip ?_
  refine x_tn ?_
  refine x_seq ?_
  refine x_reg ?_
  refine o_bloadA (cs := [.int .i64 x1.vars, v21]) Tryz.isAgg44 Tryz.sizeOf44 F rfl rfl K19 rfl (fun j hj => by match j, hj with | 0, _ => rfl | 1, _ => rfl) (fun a F => ?_)
  refine o_move F rfl rfl (fun a F => ?_)
  obtain ⟨z29, c30, hR⟩ := bnd_some hR
  refine o_saysI F rfl Tryz.call22 rfl (szq_says c30 (fun h0 h1 => szInstance_any _ _ _ _ _ (A1.go hB).r (A1.go hB).m h0 h1)) (fun a w l iz29 F => ?_)
  replace hB := Below.through l hB
  replace K12 := K12.thru l
  replace K19 := K19.thru l
  refine o_assign F rfl rfl (fun a F => ?_)
  refine x_end ?_
  refine x_tn ?_
  refine x_seq ?_
  refine x_seq ?_
  refine x_reg ?_
  refine o_move F rfl rfl (fun a F => ?_)
  refine o_lss F rfl rfl rfl (fun a F => ?_)
  refine x_end ?_
  refine x_tn ?_
  refine x_if F rfl (fun hb31 => ?_) (fun hb31 => ?_)
  ·
   replace hR := ifT hb31 hR
   refine x_seq ?_
   refine x_reg ?_
   refine o_assign F rfl rfl (fun a F => ?_)
   refine x_end ?_
   refine x_tn ?_
   refine x_ret ?_
   refine x_tr ?_
   refine x_res1 F rfl (rv_t F rfl) ?_
   obtain rfl := Option.some.inj hR
   exact ⟨rfl, hB⟩
  ·
   replace hR := ifF hb31 hR
   refine x_skip ?_
   refine x_tn ?_
   refine x_seq ?_
   refine x_reg ?_
   refine o_move F rfl rfl (fun a F => ?_)
   refine o_move F rfl rfl (fun a F => ?_)
   obtain ⟨z32, c33, hR⟩ := bnd_some hR
   refine o_saysI F rfl Tryz.call32 rfl (szq_says c33 (fun h0 h1 => szLiteralS_any _ _ _ _ _ (A2.go hB).r (A2.go hB).m h0 h1)) (fun a w l iz32 F => ?_)
   replace hB := Below.through l hB
   replace K12 := K12.thru l
   replace K19 := K19.thru l
   refine o_assign F rfl rfl (fun a F => ?_)
   refine x_end ?_
   refine x_tn ?_
   refine x_seq ?_
   refine x_seq ?_
   refine x_reg ?_
   refine o_move F rfl rfl (fun a F => ?_)
   refine o_lss F rfl rfl rfl (fun a F => ?_)
   refine x_end ?_
   refine x_tn ?_
   refine x_if F rfl (fun hb34 => ?_) (fun hb34 => ?_)
   ·
    replace hR := ifT hb34 hR
    refine x_seq ?_
    refine x_reg ?_
    refine o_assign F rfl rfl (fun a F => ?_)
    refine x_end ?_
    refine x_tn ?_
    refine x_ret ?_
    refine x_tr ?_
    refine x_res1 F rfl (rv_t F rfl) ?_
    obtain rfl := Option.some.inj hR
    exact ⟨rfl, hB⟩
   ·
    replace hR := ifF hb34 hR
    refine x_skip ?_
    refine x_tn ?_
    refine x_seq ?_
    refine x_drawn (by kernel_rfl) (fun w l => ?_)
    replace hB := Below.through l hB
    replace K12 := K12.thru l
    replace K19 := K19.thru l
    refine b_q 0 (by kernel_rfl) rfl (by kernel_rfl) (by kernel_rfl) (by kernel_rfl) (by kernel_rfl) ?_
    refine v_val F rfl (fun w l => r_bloadA (cs := [.int .i64 x0.size, v14]) Tryz.isAgg24 Tryz.sizeOf24 F rfl (K12.thru l) rfl (fun j hj => by match j, hj with | 0, _ => rfl | 1, _ => rfl)) (fun a F => ?_)
    refine b_q 2 (by kernel_rfl) rfl (by kernel_rfl) (by kernel_rfl) (by kernel_rfl) (by kernel_rfl) ?_
    refine v_val F rfl (fun w l => r_bloadA (cs := [.int .i64 x1.vars, v21]) Tryz.isAgg44 Tryz.sizeOf44 F rfl (K19.thru l) rfl (fun j hj => by match j, hj with | 0, _ => rfl | 1, _ => rfl)) (fun a F => ?_)
    refine b_q0 4 rfl (by kernel_rfl) (by kernel_rfl) (by kernel_rfl) ?_
    refine v_val F rfl (fun w l => r_move F rfl) (fun a F => ?_)
    refine b_q0 6 rfl (by kernel_rfl) (by kernel_rfl) (by kernel_rfl) ?_
    refine v_val F rfl (fun w l => r_move F rfl) (fun a F => ?_)
    refine b_e 1 rfl (by kernel_rfl) ?_
    obtain ⟨z35, c36, hR⟩ := bnd_some hR
    refine o_toA F rfl Tryz.call17 rfl (toTemplate_any _ _ _ _ (A0.go hB).r (A0.go hB).m (toq_some c36)) (fun a v37 b38 w l h39 o40 F => ?_)
    have d41 := Dj.new (inm1 K12) o40 (Nat.le_refl _)
    have d42 := Dj.new (inm1 K19) o40 (Nat.le_refl _)
    replace o40 := o40.mono hB.size
    replace hB := Below.through l hB
    replace K12 := K12.thru l
    replace K19 := K19.thru l
    refine x_end ?_
    refine x_tn ?_
    refine ⟨.inl l, ?_⟩
    refine b_e 3 rfl (by kernel_rfl) ?_
    obtain ⟨z43, c44, hR⟩ := bnd_some hR
    refine o_toA F rfl Tryz.call24 rfl (toInstance_any _ _ _ _ (A1.go hB).r (A1.go hB).m (toq_some c44)) (fun a v45 b46 w l h47 o48 F => ?_)
    have d49 := Dj.new h39.m o48 (Nat.le_refl _)
    have d50 := Dj.new (inm1 K12) o48 (Nat.le_refl _)
    have d51 := Dj.new (inm1 K19) o48 (Nat.le_refl _)
    replace o48 := o48.mono hB.size
    replace hB := Below.through l hB
    replace h39 := h39.go l
    replace o40 := o40.go l
    replace K12 := K12.thru l
    replace K19 := K19.thru l
    refine x_end ?_
    refine x_tn ?_
    refine ⟨.inl l, ?_⟩
    refine b_e 5 rfl (by kernel_rfl) ?_
    obtain ⟨z52, c53, hR⟩ := bnd_some hR
    refine o_toS F rfl Tryz.call34 rfl (toLiteralS_any _ _ _ _ (A2.go hB).r (A2.go hB).m (toq_some c53)) (fun a v54 b55 w l h56 o57 F => ?_)
    have d58 := Dj.new h39.m o57 (Nat.le_refl _)
    have d59 := Dj.new h47.m o57 (Nat.le_refl _)
    have d60 := Dj.new (inm1 K12) o57 (Nat.le_refl _)
    have d61 := Dj.new (inm1 K19) o57 (Nat.le_refl _)
    replace o57 := o57.mono hB.size
    replace hB := Below.through l hB
    replace h39 := h39.go l
    replace o40 := o40.go l
    replace h47 := h47.go l
    replace o48 := o48.go l
    replace K12 := K12.thru l
    replace K19 := K19.thru l
    refine x_end ?_
    refine x_tn ?_
    refine ⟨.inl l, ?_⟩
    refine b_e 7 rfl (by kernel_rfl) ?_
    obtain ⟨z62, c63, hR⟩ := bnd_some hR
    refine o_gives F rfl Tryz.call33 rfl (spec_IsNoGood_c z62 c63 _ h39 h47 h56 hx3) (fun a vv w l ⟨hv65, i64⟩ F => ?_)
    subst vv
    replace hB := Below.through l hB
    replace K12 := K12.thru l
    replace K19 := K19.thru l
    refine x_end ?_
    refine x_tn ?_
    refine ⟨.inl l, ?_⟩
    refine b_q0 8 rfl (by kernel_rfl) (by kernel_rfl) (by kernel_rfl) ?_
    refine v_val F rfl (fun w l => r_move F rfl) (fun a F => ?_)
    refine b_q 9 (by kernel_rfl) rfl (by kernel_rfl) (by kernel_rfl) (by kernel_rfl) (by kernel_rfl) ?_
    refine v_val F rfl (fun w l => r_extract F rfl rfl) (fun a F => ?_)
    refine b_q 10 (by kernel_rfl) rfl (by kernel_rfl) (by kernel_rfl) (by kernel_rfl) (by kernel_rfl) ?_
    refine v_val F rfl (fun w l => r_extract F rfl rfl) (fun a F => ?_)
    refine b_q0 11 rfl (by kernel_rfl) (by kernel_rfl) (by kernel_rfl) ?_
    refine v_val F rfl (fun w l => r_assign F rfl) (fun a F => ?_)
    refine b_q0 12 rfl (by kernel_rfl) (by kernel_rfl) (by kernel_rfl) ?_
    refine v_val F rfl (fun w l => r_assign F rfl) (fun a F => ?_)
    refine b_end (by kernel_rfl) ?_
    refine x_tn ?_
    refine x_seq ?_
    refine x_reg ?_
    refine o_bloadA (cs := [.int .i64 x0.size, v14]) Tryz.isAgg24 Tryz.sizeOf24 F rfl rfl K12 rfl (fun j hj => by match j, hj with | 0, _ => rfl | 1, _ => rfl) (fun a F => ?_)
    refine o_toA F rfl Tryz.call17 rfl (toTemplate_any _ _ _ _ (A0.go hB).r (A0.go hB).m (toq_some c36)) (fun a v66 b67 w l h68 o69 F => ?_)
    have d70 := Dj.new (inm1 K12) o69 (Nat.le_refl _)
    have d71 := Dj.new (inm1 K19) o69 (Nat.le_refl _)
    replace o69 := o69.mono hB.size
    replace hB := Below.through l hB
    replace K12 := K12.thru l
    replace K19 := K19.thru l
    refine o_alloc Tryz.zeroValue33 F rfl rfl (fun a w b72 K73 l BK73 F => ?_)
    have nb74 := Dj.bb K12 BK73
    have nb75 := Dj.bb K19 BK73
    have d76 := (dj1 h68.m BK73).symm
    have CK73 := Nat.le_trans hB.size BK73
    replace hB := Below.through l hB
    replace h68 := h68.go l
    replace o69 := o69.go l
    replace K12 := K12.thru l
    replace K19 := K19.thru l
    obtain ⟨v78, b79, e81, i77, h80, _⟩ := RTemplate.rd h68
    subst e81
    refine o_bstoreA (vs := [.int .i64 x0.size, v78]) Tryz.sizeOf33 F rfl rfl rfl K73 (oc rfl (oc h80.r.one on)) (Nat.le_of_ble_eq_true rfl) rfl (fun w K73 l => ?_)
    replace hB := hB.o l (fun c hc => by rw [List.mem_singleton] at hc; rw [hc]; exact CK73) hB.size
    replace h68 := h68.goO l d76
    replace o69 := o69.goO l d76
    replace K12 := K12.only l (by simpa using nb74)
    replace K19 := K19.only l (by simpa using nb75)
    refine x_end ?_
    refine x_tn ?_
    refine x_seq ?_
    refine x_reg ?_
    refine o_bloadA (cs := [.int .i64 x1.vars, v21]) Tryz.isAgg44 Tryz.sizeOf44 F rfl rfl K19 rfl (fun j hj => by match j, hj with | 0, _ => rfl | 1, _ => rfl) (fun a F => ?_)
    refine o_toA F rfl Tryz.call24 rfl (toInstance_any _ _ _ _ (A1.go hB).r (A1.go hB).m (toq_some c44)) (fun a v82 b83 w l h84 o85 F => ?_)
    have d86 := Dj.new h68.m o85 (Nat.le_refl _)
    have d87 := Dj.new (inm1 K12) o85 (Nat.le_refl _)
    have d88 := Dj.new (inm1 K19) o85 (Nat.le_refl _)
    have d89 := Dj.new (inm1 K73) o85 (Nat.le_refl _)
    replace o85 := o85.mono hB.size
    replace hB := Below.through l hB
    replace h68 := h68.go l
    replace o69 := o69.go l
    replace K12 := K12.thru l
    replace K19 := K19.thru l
    replace K73 := K73.thru l
    refine o_alloc Tryz.zeroValue51 F rfl rfl (fun a w b90 K91 l BK91 F => ?_)
    have nb92 := Dj.bb K12 BK91
    have nb93 := Dj.bb K19 BK91
    have nb94 := Dj.bb K73 BK91
    have d95 := (dj1 h68.m BK91).symm
    have d96 := (dj1 h84.m BK91).symm
    have CK91 := Nat.le_trans hB.size BK91
    replace hB := Below.through l hB
    replace h68 := h68.go l
    replace o69 := o69.go l
    replace h84 := h84.go l
    replace o85 := o85.go l
    replace K12 := K12.thru l
    replace K19 := K19.thru l
    replace K73 := K73.thru l
    obtain ⟨v98, b99, e101, i97, h100, _⟩ := RInstance.rd h84
    subst e101
    refine o_bstoreA (vs := [.int .i64 x1.vars, v98]) Tryz.sizeOf51 F rfl rfl rfl K91 (oc rfl (oc h100.r.one on)) (Nat.le_of_ble_eq_true rfl) rfl (fun w K91 l => ?_)
    replace hB := hB.o l (fun c hc => by rw [List.mem_singleton] at hc; rw [hc]; exact CK91) hB.size
    replace h68 := h68.goO l d95
    replace o69 := o69.goO l d95
    replace h84 := h84.goO l d96
    replace o85 := o85.goO l d96
    replace K12 := K12.only l (by simpa using nb92)
    replace K19 := K19.only l (by simpa using nb93)
    replace K73 := K73.only l (by simpa using nb94)
    refine x_end ?_
    refine x_tn ?_
    refine x_seq ?_
    refine x_reg ?_
    refine o_move F rfl rfl (fun a F => ?_)
    refine o_toS F rfl Tryz.call34 rfl (toLiteralS_any _ _ _ _ (A2.go hB).r (A2.go hB).m (toq_some c53)) (fun a v102 b103 w l h104 o105 F => ?_)
    have d106 := Dj.new h68.m o105 (Nat.le_refl _)
    have d107 := Dj.new h84.m o105 (Nat.le_refl _)
    have d108 := Dj.new (inm1 K12) o105 (Nat.le_refl _)
    have d109 := Dj.new (inm1 K19) o105 (Nat.le_refl _)
    have d110 := Dj.new (inm1 K73) o105 (Nat.le_refl _)
    have d111 := Dj.new (inm1 K91) o105 (Nat.le_refl _)
    replace o105 := o105.mono hB.size
    replace hB := Below.through l hB
    replace h68 := h68.go l
    replace o69 := o69.go l
    replace h84 := h84.go l
    replace o85 := o85.go l
    replace K12 := K12.thru l
    replace K19 := K19.thru l
    replace K73 := K73.thru l
    replace K91 := K91.thru l
    refine o_assign F rfl rfl (fun a F => ?_)
    refine x_end ?_
    refine x_tn ?_
    refine x_seq ?_
    refine x_reg ?_
    refine o_bloadA (cs := [.int .i64 x0.size, v78]) Tryz.isAgg33 Tryz.sizeOf33 F rfl rfl K73 rfl (fun j hj => by match j, hj with | 0, _ => rfl | 1, _ => rfl) (fun a F => ?_)
    refine o_bloadA (cs := [.int .i64 x1.vars, v98]) Tryz.isAgg51 Tryz.sizeOf51 F rfl rfl K91 rfl (fun j hj => by match j, hj with | 0, _ => rfl | 1, _ => rfl) (fun a F => ?_)
    refine o_move F rfl rfl (fun a F => ?_)
    refine o_move F rfl rfl (fun a F => ?_)
    obtain ⟨z112, c113, hR⟩ := bnd_some hR
    refine o_gives F rfl Tryz.call35 rfl (impl_IsNoGood_c z112 c113 _ h68 h84 h104 hx3) (fun a vv w l ⟨hv115, i114⟩ F => ?_)
    subst vv
    replace hB := Below.through l hB
    replace h68 := h68.go l
    replace o69 := o69.go l
    replace h84 := h84.go l
    replace o85 := o85.go l
    replace h104 := h104.go l
    replace o105 := o105.go l
    replace K12 := K12.thru l
    replace K19 := K19.thru l
    replace K73 := K73.thru l
    replace K91 := K91.thru l
    refine o_move F rfl rfl (fun a F => ?_)
    refine o_extract F rfl rfl rfl (fun a F => ?_)
    refine o_extract F rfl rfl rfl (fun a F => ?_)
    refine o_assign F rfl rfl (fun a F => ?_)
    refine o_assign F rfl rfl (fun a F => ?_)
    refine x_end ?_
    refine x_tn ?_
    refine x_seq ?_
    refine x_seq ?_
    obtain ⟨o117, hR, hk118⟩ := thn_some hR
    refine x_cutQ (fun a w => ∃ (s120 : Bool), o117 = .nx s120 ∧ Sk a 80 [(2, v2), (4, .pointer (some ⟨b11, 0, none⟩)), (5, .pointer (some ⟨b18, 0, none⟩)), (12, .pointer (some ⟨b72, 0, none⟩)), (13, .pointer (some ⟨b90, 0, none⟩)), (14, v102), (64, .bool s120)] ∧ Below w0.heap.size w0 w ∧ Rd (Agg 2 RTemplate) w (.agg #[.int .i64 x0.size, v78]) x0 b67 ∧ Own w0.heap.size b67 w ∧ Rd (Agg 2 RInstance) w (.agg #[.int .i64 x1.vars, v98]) x1 b83 ∧ Own w0.heap.size b83 w ∧ Rd (Sl 2 RLiteral) w v102 x2 b103 ∧ Own w0.heap.size b103 w ∧ Blk w b11 #[.int .i64 x0.size, v14] 24 ∧ Blk w b18 #[.int .i64 x1.vars, v21] 44 ∧ Blk w b72 #[.int .i64 x0.size, v78] 33 ∧ Blk w b90 #[.int .i64 x1.vars, v98] 51) ?_ ?_
    ·
     refine x_reg ?_
     refine o_move F rfl rfl (fun a F => ?_)
     refine o_move F rfl rfl (fun a F => ?_)
     refine o_neqB Tryz.underlying4 F rfl rfl rfl (fun a F => ?_)
     refine o_move F rfl rfl (fun a F => ?_)
     rcases bcases (z112.1 != z62.1) with hb121 | hb121
     ·
      replace hR := ifT hb121 hR
      have F := F.eq (t := 60) rfl (congrArg Value.bool hb121)
      refine o_no F rfl rfl (fun a F => ?_)
      refine o_no F rfl rfl (fun a F => ?_)
      refine o_no F rfl rfl (fun a F => ?_)
      refine o_pickt F rfl rfl rfl (fun a F => ?_)
      refine x_end ?_
      refine x_tn ?_
      exact ⟨true, (Option.some.inj hR).symm, F.sub (sc rfl (sc rfl (sc rfl (sc rfl (sc rfl (sc rfl (sc rfl sn))))))), hB, h68, o69, h84, o85, h104, o105, K12, K19, K73, K91⟩
     ·
      replace hR := ifF hb121 hR
      have F := F.eq (t := 60) rfl (congrArg Value.bool hb121)
      refine o_move F rfl rfl (fun a F => ?_)
      refine o_move F rfl rfl (fun a F => ?_)
      refine o_neq F rfl rfl rfl (fun a F => ?_)
      refine o_pickf F rfl rfl rfl (fun a F => ?_)
      refine x_end ?_
      refine x_tn ?_
      exact ⟨(z112.2 != z62.2), (Option.some.inj hR).symm, F.sub (sc rfl (sc rfl (sc rfl (sc rfl (sc rfl (sc rfl (sc rfl sn))))))), hB, h68, o69, h84, o85, h104, o105, K12, K19, K73, K91⟩
    ·
     intro a w ⟨s120, ho119, F, hB, h68, o69, h84, o85, h104, o105, K12, K19, K73, K91⟩
     subst ho119
     have hR := then_nx hk118
     refine x_tn ?_
     refine x_if F rfl (fun hb122 => ?_) (fun hb122 => ?_)
     ·
      replace hR := ifT hb122 hR
      refine x_seq ?_
      refine x_reg ?_
      refine o_assign F rfl rfl (fun a F => ?_)
      refine x_end ?_
      refine x_tn ?_
      refine x_ret ?_
      refine x_tr ?_
      refine x_res1 F rfl (rv_t F rfl) ?_
      obtain rfl := Option.some.inj hR
      exact ⟨rfl, hB⟩
     ·
      replace hR := ifF hb122 hR
      refine x_skip ?_
      refine x_tn ?_
      refine x_seq ?_
      refine x_seq ?_
      refine x_drawn (by kernel_rfl) (fun w l => ?_)
      replace hB := Below.through l hB
      replace h68 := h68.go l
      replace o69 := o69.go l
      replace h84 := h84.go l
      replace o85 := o85.go l
      replace h104 := h104.go l
      replace o105 := o105.go l
      replace K12 := K12.thru l
      replace K19 := K19.thru l
      replace K73 := K73.thru l
      replace K91 := K91.thru l
      refine b_q 0 (by kernel_rfl) rfl (by kernel_rfl) (by kernel_rfl) (by kernel_rfl) (by kernel_rfl) ?_
      refine v_val F rfl (fun w l => r_bloadA (cs := [.int .i64 x0.size, v78]) Tryz.isAgg33 Tryz.sizeOf33 F rfl (K73.thru l) rfl (fun j hj => by match j, hj with | 0, _ => rfl | 1, _ => rfl)) (fun a F => ?_)
      refine b_q 1 (by kernel_rfl) rfl (by kernel_rfl) (by kernel_rfl) (by kernel_rfl) (by kernel_rfl) ?_
      refine v_val F rfl (fun w l => r_bloadA (cs := [.int .i64 x0.size, v14]) Tryz.isAgg24 Tryz.sizeOf24 F rfl (K12.thru l) rfl (fun j hj => by match j, hj with | 0, _ => rfl | 1, _ => rfl)) (fun a F => ?_)
      refine b_e 2 rfl (by kernel_rfl) ?_
      refine o_toA F rfl Tryz.call17 rfl (toTemplate_any _ _ _ _ (A0.go hB).r (A0.go hB).m (toq_some c36)) (fun a v123 b124 w l h125 o126 F => ?_)
      have d127 := Dj.new h68.m o126 (Nat.le_refl _)
      have d128 := Dj.new h84.m o126 (Nat.le_refl _)
      have d129 := Dj.new h104.m o126 (Nat.le_refl _)
      have d130 := Dj.new (inm1 K19) o126 (Nat.le_refl _)
      have d131 := Dj.new (inm1 K91) o126 (Nat.le_refl _)
      replace o126 := o126.mono hB.size
      replace hB := Below.through l hB
      replace h68 := h68.go l
      replace o69 := o69.go l
      replace h84 := h84.go l
      replace o85 := o85.go l
      replace h104 := h104.go l
      replace o105 := o105.go l
      replace K19 := K19.thru l
      replace K91 := K91.thru l
      refine x_end ?_
      refine x_tn ?_
      refine ⟨.inl l, ?_⟩
      refine b_e 3 rfl (by kernel_rfl) ?_
      obtain ⟨z132, c133, hR⟩ := bnd_some hR
      refine o_says F rfl Tryz.call20 rfl (eqq_says (fun y => Rd (Agg 2 RTemplate) _ _ y _) c133 h125 (fun hy => eqTemplate_any _ _ _ _ _ _ h68.r hy.r h68.m hy.m)) (fun a w l F => ?_)
      replace hB := Below.through l hB
      replace h84 := h84.go l
      replace o85 := o85.go l
      replace h104 := h104.go l
      replace o105 := o105.go l
      replace K19 := K19.thru l
      replace K91 := K91.thru l
      refine x_end ?_
      refine x_tn ?_
      refine ⟨.inl l, ?_⟩
      refine b_q 4 (by kernel_rfl) rfl (by kernel_rfl) (by kernel_rfl) (by kernel_rfl) (by kernel_rfl) ?_
      refine v_val F rfl (fun w l => r_not F rfl) (fun a F => ?_)
      refine b_end (by kernel_rfl) ?_
      refine x_tn ?_
      refine x_if F rfl (fun hb134 => ?_) (fun hb134 => ?_)
      ·
       replace hR := ifT hb134 hR
       refine x_seq ?_
       refine x_reg ?_
       refine o_assign F rfl rfl (fun a F => ?_)
       refine x_end ?_
       refine x_tn ?_
       refine x_ret ?_
       refine x_tr ?_
       refine x_res1 F rfl (rv_t F rfl) ?_
       obtain rfl := Option.some.inj hR
       exact ⟨rfl, hB⟩
      ·
       replace hR := ifF hb134 hR
       refine x_skip ?_
       refine x_tn ?_
       refine x_seq ?_
       refine x_seq ?_
       refine x_drawn (by kernel_rfl) (fun w l => ?_)
       replace hB := Below.through l hB
       replace h84 := h84.go l
       replace o85 := o85.go l
       replace h104 := h104.go l
       replace o105 := o105.go l
       replace K19 := K19.thru l
       replace K91 := K91.thru l
       refine b_q 0 (by kernel_rfl) rfl (by kernel_rfl) (by kernel_rfl) (by kernel_rfl) (by kernel_rfl) ?_
       refine v_val F rfl (fun w l => r_bloadA (cs := [.int .i64 x1.vars, v98]) Tryz.isAgg51 Tryz.sizeOf51 F rfl (K91.thru l) rfl (fun j hj => by match j, hj with | 0, _ => rfl | 1, _ => rfl)) (fun a F => ?_)
       refine b_q 1 (by kernel_rfl) rfl (by kernel_rfl) (by kernel_rfl) (by kernel_rfl) (by kernel_rfl) ?_
       refine v_val F rfl (fun w l => r_bloadA (cs := [.int .i64 x1.vars, v21]) Tryz.isAgg44 Tryz.sizeOf44 F rfl (K19.thru l) rfl (fun j hj => by match j, hj with | 0, _ => rfl | 1, _ => rfl)) (fun a F => ?_)
       refine b_e 2 rfl (by kernel_rfl) ?_
       refine o_toA F rfl Tryz.call24 rfl (toInstance_any _ _ _ _ (A1.go hB).r (A1.go hB).m (toq_some c44)) (fun a v135 b136 w l h137 o138 F => ?_)
       have d139 := Dj.new h84.m o138 (Nat.le_refl _)
       have d140 := Dj.new h104.m o138 (Nat.le_refl _)
       replace o138 := o138.mono hB.size
       replace hB := Below.through l hB
       replace h84 := h84.go l
       replace o85 := o85.go l
       replace h104 := h104.go l
       replace o105 := o105.go l
       refine x_end ?_
       refine x_tn ?_
       refine ⟨.inl l, ?_⟩
       refine b_e 3 rfl (by kernel_rfl) ?_
       obtain ⟨z141, c142, hR⟩ := bnd_some hR
       refine o_says F rfl Tryz.call27 rfl (eqq_says (fun y => Rd (Agg 2 RInstance) _ _ y _) c142 h137 (fun hy => eqInstance_any _ _ _ _ _ _ h84.r hy.r h84.m hy.m)) (fun a w l F => ?_)
       replace hB := Below.through l hB
       replace h104 := h104.go l
       replace o105 := o105.go l
       refine x_end ?_
       refine x_tn ?_
       refine ⟨.inl l, ?_⟩
       refine b_q 4 (by kernel_rfl) rfl (by kernel_rfl) (by kernel_rfl) (by kernel_rfl) (by kernel_rfl) ?_
       refine v_val F rfl (fun w l => r_not F rfl) (fun a F => ?_)
       refine b_end (by kernel_rfl) ?_
       refine x_tn ?_
       refine x_if F rfl (fun hb143 => ?_) (fun hb143 => ?_)
       ·
        replace hR := ifT hb143 hR
        refine x_seq ?_
        refine x_reg ?_
        refine o_assign F rfl rfl (fun a F => ?_)
        refine x_end ?_
        refine x_tn ?_
        refine x_ret ?_
        refine x_tr ?_
        refine x_res1 F rfl (rv_t F rfl) ?_
        obtain rfl := Option.some.inj hR
        exact ⟨rfl, hB⟩
       ·
        replace hR := ifF hb143 hR
        refine x_skip ?_
        refine x_tn ?_
        refine x_seq ?_
        refine x_seq ?_
        refine x_reg ?_
        refine o_move F rfl rfl (fun a F => ?_)
        refine o_move F rfl rfl (fun a F => ?_)
        refine o_toS F rfl Tryz.call34 rfl (toLiteralS_any _ _ _ _ (A2.go hB).r (A2.go hB).m (toq_some c53)) (fun a v144 b145 w l h146 o147 F => ?_)
        have d148 := Dj.new h104.m o147 (Nat.le_refl _)
        replace o147 := o147.mono hB.size
        replace hB := Below.through l hB
        replace h104 := h104.go l
        replace o105 := o105.go l
        obtain ⟨z149, c150, hR⟩ := bnd_some hR
        refine o_says F rfl Tryz.call36 rfl (eqq_says (fun y => Rd (Sl 2 RLiteral) _ _ y _) c150 h146 (fun hy => eqLiteralS_any _ _ _ _ _ _ h104.r hy.r h104.m hy.m)) (fun a w l F => ?_)
        replace hB := Below.through l hB
        refine o_not F rfl rfl (fun a F => ?_)
        refine x_end ?_
        refine x_tn ?_
        refine x_if F rfl (fun hb151 => ?_) (fun hb151 => ?_)
        ·
         replace hR := ifT hb151 hR
         refine x_seq ?_
         refine x_reg ?_
         refine o_assign F rfl rfl (fun a F => ?_)
         refine x_end ?_
         refine x_tn ?_
         refine x_ret ?_
         refine x_tr ?_
         refine x_res1 F rfl (rv_t F rfl) ?_
         obtain rfl := Option.some.inj hR
         exact ⟨rfl, hB⟩
        ·
         replace hR := ifF hb151 hR
         refine x_skip ?_
         refine x_tn ?_
         refine x_seq ?_
         refine x_reg ?_
         refine o_assign F rfl rfl (fun a F => ?_)
         refine x_end ?_
         refine x_tn ?_
         refine x_ret ?_
         refine x_res1 F rfl (rv_t F rfl) ?_
         obtain rfl := Option.some.inj hR
         exact ⟨rfl, hB⟩
end
end Go.Proofs.YtfepllddlmhjiaaGreat
