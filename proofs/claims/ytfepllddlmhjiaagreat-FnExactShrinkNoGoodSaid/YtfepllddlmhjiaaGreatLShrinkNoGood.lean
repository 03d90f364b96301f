/-
  Laws of the program as plain functions, and that they compute them. Printed by lawfx.py.
-/
import Derived.Test.YtfepllddlmhjiaaGreatS4e
import Derived.Test.YtfepllddlmhjiaaGreatY
import Derived.Test.YtfepllddlmhjiaaGreatL2
import Derived.Test.YtfepllddlmhjiaaGreatL5
import Derived.Test.YtfepllddlmhjiaaGreatL6
namespace Go.Proofs.YtfepllddlmhjiaaGreat
set_option linter.unusedVariables false
set_option linter.unusedSimpArgs false
set_option maxRecDepth 100000
open Go.RowKit
noncomputable section
def laws_FnExactShrinkNoGood (N : Nat) (x0 : Template) (x1 : Instance) (x2 : List Literal) (x3 : Int) : Option Bool :=
 bnd (szq 1048576 (x0.sz)) fun z26 =>
 if (decide (z26 < 0)) then
  some true
 else
  bnd (szq z26 (x1.sz)) fun z29 =>
  if (decide (z29 < 0)) then
   some true
  else
   bnd (szq z29 ((x2.length))) fun z32 =>
   if (decide (z32 < 0)) then
    some true
   else
    bnd (toq (x0.sz)) fun z35 =>
    bnd (toq (x1.sz)) fun z43 =>
    bnd (toq (x2.length)) fun z52 =>
    bnd (spec_ShrinkNoGood N x0 x1 x2 x3) fun z62 =>
    bnd (impl_ShrinkNoGood N x0 x1 x2 x3) fun z125 =>
    thn (σ := Bool) (
     bnd (eqq z125.1 z62.1) fun z150 =>
     if (!z150) then  some (.nx true) else  some (.nx (z125.2 != z62.2))) fun s149 =>
    if s149 then
     some false
    else
     bnd (eqq x0 x0) fun z167 =>
     if (!z167) then
      some false
     else
      bnd (eqq x1 x1) fun z183 =>
      if (!z183) then
       some false
      else
       bnd (eqq x2 x2) fun z199 =>
       if (!z199) then
        some false
       else
        bnd (mkq 1 (x0.cnt)) fun z202 =>
        bnd (mkq z202 (x1.cnt)) fun z206 =>
        bnd (mkq z206 (cntS Literal.ecnt x2)) fun z210 =>
        thn (σ := Bool) (
         if (decide (z210 < 0)) then  some (.nx true) else  bnd (eqq z125.1 z62.1) fun z223 =>
          if (!z223) then  some (.nx true) else  some (.nx (z125.2 != z62.2))) fun s221 =>
        if s221 then
         some false
        else
         bnd (mkq 1 (cntS Literal.ecnt z125.1)) fun z227 =>
         if (decide (z227 < 0)) then
          some false
         else
          if (z227 != z227) then
           some false
          else
           thn (σ := Bool) (
            bnd (eqq z125.1 z62.1) fun z271 =>
            if (!z271) then  some (.nx true) else  some (.nx (z125.2 != z62.2))) fun s270 =>
           if s270 then
            some false
           else
            if (decide (z227 < 0)) then
             some false
            else
             if (z227 != z227) then
              some false
             else
              some true
set_option maxHeartbeats 1000000 in
theorem laws_FnExactShrinkNoGood_c {N : Nat} {x0 : Template} {x1 : Instance} {x2 : List Literal} {x3 : Int} (r : Bool) (hR : laws_FnExactShrinkNoGood N x0 x1 x2 x3 = some r) {v0 : Value} {b0 : List Nat} {v1 : Value} {b1 : List Nat} {v2 : Value} {b2 : List Nat} (w0 : World) (A0 : Rd (Agg 2 RTemplate) w0 v0 x0 b0) (A1 : Rd (Agg 2 RInstance) w0 v1 x1 b1) (A2 : Rd (Sl 2 RLiteral) w0 v2 x2 b2) (hx3 : I64 x3) : Calls Tryz.prog 11 #[v0, v1, v2, .int .i64 x3] w0 (Says (.bool r) w0) := by
 unfold laws_FnExactShrinkNoGood at hR
 refine x_enter (L := [(0, v0), (1, v1), (2, v2), (3, .int .i64 x3)]) Tryz.func11 rfl rfl rfl (sc rfl (sc rfl (sc rfl (sc rfl sn)))) (fun a F => ?_)
 have hB := Below.refl w0.heap.size w0
 refine x_seq ?_
 refine x_reg ?_
 obtain ⟨v14, b15, e17, i13, h16, _⟩ := RTemplate.rd (A0.go hB)
 subst e17
 refine o_box F rfl rfl rfl (fun a w b11 K12 l BK12 F => ?_)
 have CK12 := Nat.le_trans hB.size BK12
 replace hB := Below.through l hB
 obtain ⟨v21, b22, e24, i20, h23, _⟩ := RInstance.rd (A1.go hB)
 subst e24
 refine o_box F rfl rfl rfl (fun a w b18 K19 l BK19 F => ?_)
 have nb25 := Dj.bb K12 BK19
 have CK19 := Nat.le_trans hB.size BK19
 replace hB := Below.through l hB
 replace K12 := K12.thru l
 refine o_assign F rfl rfl (fun a F => ?_)
 refine x_end ?_
 refine x_tn ?_
 refine x_seq ?_
 refine x_reg ?_
 refine o_assign F rfl rfl (fun a F => ?_)
 refine x_end ?_
 refine x_tn ?_
 refine x_seq ?_
 refine x_reg ?_
 refine o_bloadA (cs := [.int .i64 x0.size, v14]) Tryz.isAgg24 Tryz.sizeOf24 F rfl rfl K12 rfl (fun j hj => by match j, hj with | 0, _ => rfl | 1, _ => rfl) (fun a F => ?_)
 refine o_move F rfl rfl (fun a F => ?_)
 obtain ⟨z26, c27, hR⟩ := bnd_some hR
 refine o_saysI F rfl Tryz.call14 rfl (szq_says c27 (fun h0 h1 => szTemplate_any _ _ _ _ _ (A0.go hB).r (A0.go hB).m h0 h1)) (fun a w l iz26 F => ?_)
 replace hB := Below.through l hB
 replace K12 := K12.thru l
 replace K19 := K19.thru l
 refine o_assign F rfl rfl (fun a F => ?_)
 refine x_end ?_
 refine x_tn ?_
 refine x_seq ?_
 refine x_seq ?_
 refine x_reg ?_
 refine o_move F rfl rfl (fun a F => ?_)
 refine o_lss F rfl rfl rfl (fun a F => ?_)
 refine x_end ?_
 refine x_tn ?_
 refine x_if F rfl (fun hb28 => ?_) (fun hb28 => ?_)
 ·
  replace hR := ifT hb28 hR
  refine x_seq ?_
  refine x_reg ?_
  refine o_assign F rfl rfl (fun a F => ?_)
  refine x_end ?_
  refine x_tn ?_
  refine x_ret ?_
  refine x_tr ?_
  refine x_res1 F rfl (rv_t F rfl) ?_
  obtain rfl := Option.some.inj hR
  exact ⟨rfl, hB⟩
 ·
  replace hR := ifF hb28 hR
  refine x_skip ?_
  refine x_tn ?_
  refine x_seq ?_
  refine x_reg ?_
  refine o_bloadA (cs := [.int .i64 x1.vars, v21]) Tryz.isAgg44 Tryz.sizeOf44 F rfl rfl K19 rfl (fun j hj => by match j, hj with | 0, _ => rfl | 1, _ => rfl) (fun a F => ?_)
  refine o_move F rfl rfl (fun a F => ?_)
  obtain ⟨z29, c30, hR⟩ := bnd_some hR
  refine o_saysI F rfl Tryz.call22 rfl (szq_says c30 (fun h0 h1 => szInstance_any _ _ _ _ _ (A1.go hB).r (A1.go hB).m h0 h1)) (fun a w l iz29 F => ?_)
  replace hB := Below.through l hB
  replace K12 := K12.thru l
  replace K19 := K19.thru l
  refine o_assign F rfl rfl (fun a F => ?_)
  refine x_end ?_
  refine x_tn ?_
  refine x_seq ?_
  refine x_seq ?_
  refine x_reg ?_
  refine o_move F rfl rfl (fun a F => ?_)
  refine o_lss F rfl rfl rfl (fun a F => ?_)
  refine x_end ?_
  refine x_tn ?_
  refine x_if F rfl (fun hb31 => ?_) (fun hb31 => ?_)
  ·
   replace hR := ifT hb31 hR
   refine x_seq ?_
   refine x_reg ?_
   refine o_assign F rfl rfl (fun a F => ?_)
   refine x_end ?_
   refine x_tn ?_
   refine x_ret ?_
   refine x_tr ?_
   refine x_res1 F rfl (rv_t F rfl) ?_
   obtain rfl := Option.some.inj hR
   exact ⟨rfl, hB⟩
  ·
   replace hR := ifF hb31 hR
   refine x_skip ?_
   refine x_tn ?_
   refine x_seq ?_
   refine x_reg ?_
   refine o_move F rfl rfl (fun a F => ?_)
   refine o_move F rfl rfl (fun a F => ?_)
   obtain ⟨z32, c33, hR⟩ := bnd_some hR
   refine o_saysI F rfl Tryz.call32 rfl (szq_says c33 (fun h0 h1 => szLiteralS_any _ _ _ _ _ (A2.go hB).r (A2.go hB).m h0 h1)) (fun a w l iz32 F => ?_)
   replace hB := Below.through l hB
   replace K12 := K12.thru l
   replace K19 := K19.thru l
   refine o_assign F rfl rfl (fun a F => ?_)
   refine x_end ?_
   refine x_tn ?_
   refine x_seq ?_
   refine x_seq ?_
   refine x_reg ?_
   refine o_move F rfl rfl (fun a F => ?_)
   refine o_lss F rfl rfl rfl (fun a F => ?_)
   refine x_end ?_
   refine x_tn ?_
   refine x_if F rfl (fun hb34 => ?_) (fun hb34 => ?_)
   ·
    replace hR := ifT hb34 hR
    refine x_seq ?_
    refine x_reg ?_
    refine o_assign F rfl rfl (fun a F => ?_)
    refine x_end ?_
    refine x_tn ?_
    refine x_ret ?_
    refine x_tr ?_
    refine x_res1 F rfl (rv_t F rfl) ?_
    obtain rfl := Option.some.inj hR
    exact ⟨rfl, hB⟩
   ·
    replace hR := ifF hb34 hR
    refine x_skip ?_
    refine x_tn ?_
    refine x_seq ?_
    refine x_drawn (by kernel_rfl) (fun w l => ?_)
    replace hB := Below.through l hB
    replace K12 := K12.thru l
    replace K19 := K19.thru l
    refine b_q 0 (by kernel_rfl) rfl (by kernel_rfl) (by kernel_rfl) (by kernel_rfl) (by kernel_rfl) ?_
    refine v_val F rfl (fun w l => r_bloadA (cs := [.int .i64 x0.size, v14]) Tryz.isAgg24 Tryz.sizeOf24 F rfl (K12.thru l) rfl (fun j hj => by match j, hj with | 0, _ => rfl | 1, _ => rfl)) (fun a F => ?_)
    refine b_q 2 (by kernel_rfl) rfl (by kernel_rfl) (by kernel_rfl) (by kernel_rfl) (by kernel_rfl) ?_
    refine v_val F rfl (fun w l => r_bloadA (cs := [.int .i64 x1.vars, v21]) Tryz.isAgg44 Tryz.sizeOf44 F rfl (K19.thru l) rfl (fun j hj => by match j, hj with | 0, _ => rfl | 1, _ => rfl)) (fun a F => ?_)
    refine b_q0 4 rfl (by kernel_rfl) (by kernel_rfl) (by kernel_rfl) ?_
    refine v_val F rfl (fun w l => r_move F rfl) (fun a F => ?_)
    refine b_q0 6 rfl (by kernel_rfl) (by kernel_rfl) (by kernel_rfl) ?_
    refine v_val F rfl (fun w l => r_move F rfl) (fun a F => ?_)
    refine b_e 1 rfl (by kernel_rfl) ?_
    obtain ⟨z35, c36, hR⟩ := bnd_some hR
    refine o_toA F rfl Tryz.call17 rfl (toTemplate_any _ _ _ _ (A0.go hB).r (A0.go hB).m (toq_some c36)) (fun a v37 b38 w l h39 o40 F => ?_)
    have d41 := Dj.new (inm1 K12) o40 (Nat.le_refl _)
    have d42 := Dj.new (inm1 K19) o40 (Nat.le_refl _)
    replace o40 := o40.mono hB.size
    replace hB := Below.through l hB
    replace K12 := K12.thru l
    replace K19 := K19.thru l
    refine x_end ?_
    refine x_tn ?_
    refine ⟨.inl l, ?_⟩
    refine b_e 3 rfl (by kernel_rfl) ?_
    obtain ⟨z43, c44, hR⟩ := bnd_some hR
    refine o_toA F rfl Tryz.call24 rfl (toInstance_any _ _ _ _ (A1.go hB).r (A1.go hB).m (toq_some c44)) (fun a v45 b46 w l h47 o48 F => ?_)
    have d49 := Dj.new h39.m o48 (Nat.le_refl _)
    have d50 := Dj.new (inm1 K12) o48 (Nat.le_refl _)
    have d51 := Dj.new (inm1 K19) o48 (Nat.le_refl _)
    replace o48 := o48.mono hB.size
    replace hB := Below.through l hB
    replace h39 := h39.go l
    replace o40 := o40.go l
    replace K12 := K12.thru l
    replace K19 := K19.thru l
    refine x_end ?_
    refine x_tn ?_
    refine ⟨.inl l, ?_⟩
    refine b_e 5 rfl (by kernel_rfl) ?_
    obtain ⟨z52, c53, hR⟩ := bnd_some hR
    refine o_toS F rfl Tryz.call34 rfl (toLiteralS_any _ _ _ _ (A2.go hB).r (A2.go hB).m (toq_some c53)) (fun a v54 b55 w l h56 o57 F => ?_)
    have d58 := Dj.new h39.m o57 (Nat.le_refl _)
    have d59 := Dj.new h47.m o57 (Nat.le_refl _)
    have d60 := Dj.new (inm1 K12) o57 (Nat.le_refl _)
    have d61 := Dj.new (inm1 K19) o57 (Nat.le_refl _)
    replace o57 := o57.mono hB.size
    replace hB := Below.through l hB
    replace h39 := h39.go l
    replace o40 := o40.go l
    replace h47 := h47.go l
    replace o48 := o48.go l
    replace K12 := K12.thru l
    replace K19 := K19.thru l
    refine x_end ?_
    refine x_tn ?_
    refine ⟨.inl l, ?_⟩
    refine b_e 7 rfl (by kernel_rfl) ?_
    obtain ⟨z62, c63, hR⟩ := bnd_some hR
    refine o_gives F rfl Tryz.call59 rfl (spec_ShrinkNoGood_c z62 c63 _ h39 h47 h56 hx3) (fun a vv w l ⟨v64, rb65, hv69, h67, i68⟩ F => ?_)
    subst vv
    have o71 := h67.own (Own.nil _ _)
    have h70 := h67.rd
    have d72 := Dj.new (inm1 K12) o71 (Nat.le_refl _)
    have d73 := Dj.new (inm1 K19) o71 (Nat.le_refl _)
    replace o71 := o71.mono hB.size
    replace hB := Below.through l hB
    replace K12 := K12.thru l
    replace K19 := K19.thru l
    refine x_end ?_
    refine x_tn ?_
    refine ⟨.inl l, ?_⟩
    refine b_q0 8 rfl (by kernel_rfl) (by kernel_rfl) (by kernel_rfl) ?_
    refine v_val F rfl (fun w l => r_move F rfl) (fun a F => ?_)
    refine b_q 9 (by kernel_rfl) rfl (by kernel_rfl) (by kernel_rfl) (by kernel_rfl) (by kernel_rfl) ?_
    refine v_val F rfl (fun w l => r_extract F rfl rfl) (fun a F => ?_)
    refine b_q 10 (by kernel_rfl) rfl (by kernel_rfl) (by kernel_rfl) (by kernel_rfl) (by kernel_rfl) ?_
    refine v_val F rfl (fun w l => r_extract F rfl rfl) (fun a F => ?_)
    refine b_q0 11 rfl (by kernel_rfl) (by kernel_rfl) (by kernel_rfl) ?_
    refine v_val F rfl (fun w l => r_assign F rfl) (fun a F => ?_)
    refine b_q0 12 rfl (by kernel_rfl) (by kernel_rfl) (by kernel_rfl) ?_
    refine v_val F rfl (fun w l => r_assign F rfl) (fun a F => ?_)
    refine b_end (by kernel_rfl) ?_
    refine x_tn ?_
    refine x_seq ?_
    refine x_reg ?_
    refine o_bloadA (cs := [.int .i64 x0.size, v14]) Tryz.isAgg24 Tryz.sizeOf24 F rfl rfl K12 rfl (fun j hj => by match j, hj with | 0, _ => rfl | 1, _ => rfl) (fun a F => ?_)
    refine o_toA F rfl Tryz.call17 rfl (toTemplate_any _ _ _ _ (A0.go hB).r (A0.go hB).m (toq_some c36)) (fun a v74 b75 w l h76 o77 F => ?_)
    have d78 := Dj.new h70.m o77 (Nat.le_refl _)
    have d79 := Dj.new (inm1 K12) o77 (Nat.le_refl _)
    have d80 := Dj.new (inm1 K19) o77 (Nat.le_refl _)
    replace o77 := o77.mono hB.size
    replace hB := Below.through l hB
    replace h70 := h70.go l
    replace o71 := o71.go l
    replace K12 := K12.thru l
    replace K19 := K19.thru l
    refine o_alloc Tryz.zeroValue33 F rfl rfl (fun a w b81 K82 l BK82 F => ?_)
    have nb83 := Dj.bb K12 BK82
    have nb84 := Dj.bb K19 BK82
    have d85 := (dj1 h70.m BK82).symm
    have d86 := (dj1 h76.m BK82).symm
    have CK82 := Nat.le_trans hB.size BK82
    replace hB := Below.through l hB
    replace h70 := h70.go l
    replace o71 := o71.go l
    replace h76 := h76.go l
    replace o77 := o77.go l
    replace K12 := K12.thru l
    replace K19 := K19.thru l
    obtain ⟨v88, b89, e91, i87, h90, _⟩ := RTemplate.rd h76
    subst e91
    refine o_bstoreA (vs := [.int .i64 x0.size, v88]) Tryz.sizeOf33 F rfl rfl rfl K82 (oc rfl (oc h90.r.one on)) (Nat.le_of_ble_eq_true rfl) rfl (fun w K82 l => ?_)
    replace hB := hB.o l (fun c hc => by rw [List.mem_singleton] at hc; rw [hc]; exact CK82) hB.size
    replace h70 := h70.goO l d85
    replace o71 := o71.goO l d85
    replace h76 := h76.goO l d86
    replace o77 := o77.goO l d86
    replace K12 := K12.only l (by simpa using nb83)
    replace K19 := K19.only l (by simpa using nb84)
    refine x_end ?_
    refine x_tn ?_
    refine x_seq ?_
    refine x_reg ?_
    refine o_bloadA (cs := [.int .i64 x1.vars, v21]) Tryz.isAgg44 Tryz.sizeOf44 F rfl rfl K19 rfl (fun j hj => by match j, hj with | 0, _ => rfl | 1, _ => rfl) (fun a F => ?_)
    refine o_toA F rfl Tryz.call24 rfl (toInstance_any _ _ _ _ (A1.go hB).r (A1.go hB).m (toq_some c44)) (fun a v92 b93 w l h94 o95 F => ?_)
    have d96 := Dj.new h70.m o95 (Nat.le_refl _)
    have d97 := Dj.new h76.m o95 (Nat.le_refl _)
    have d98 := Dj.new (inm1 K12) o95 (Nat.le_refl _)
    have d99 := Dj.new (inm1 K19) o95 (Nat.le_refl _)
    have d100 := Dj.new (inm1 K82) o95 (Nat.le_refl _)
    replace o95 := o95.mono hB.size
    replace hB := Below.through l hB
    replace h70 := h70.go l
    replace o71 := o71.go l
    replace h76 := h76.go l
    replace o77 := o77.go l
    replace K12 := K12.thru l
    replace K19 := K19.thru l
    replace K82 := K82.thru l
    refine o_alloc Tryz.zeroValue51 F rfl rfl (fun a w b101 K102 l BK102 F => ?_)
    have nb103 := Dj.bb K12 BK102
    have nb104 := Dj.bb K19 BK102
    have nb105 := Dj.bb K82 BK102
    have d106 := (dj1 h70.m BK102).symm
    have d107 := (dj1 h76.m BK102).symm
    have d108 := (dj1 h94.m BK102).symm
    have CK102 := Nat.le_trans hB.size BK102
    replace hB := Below.through l hB
    replace h70 := h70.go l
    replace o71 := o71.go l
    replace h76 := h76.go l
    replace o77 := o77.go l
    replace h94 := h94.go l
    replace o95 := o95.go l
    replace K12 := K12.thru l
    replace K19 := K19.thru l
    replace K82 := K82.thru l
    obtain ⟨v110, b111, e113, i109, h112, _⟩ := RInstance.rd h94
    subst e113
    refine o_bstoreA (vs := [.int .i64 x1.vars, v110]) Tryz.sizeOf51 F rfl rfl rfl K102 (oc rfl (oc h112.r.one on)) (Nat.le_of_ble_eq_true rfl) rfl (fun w K102 l => ?_)
    replace hB := hB.o l (fun c hc => by rw [List.mem_singleton] at hc; rw [hc]; exact CK102) hB.size
    replace h70 := h70.goO l d106
    replace o71 := o71.goO l d106
    replace h76 := h76.goO l d107
    replace o77 := o77.goO l d107
    replace h94 := h94.goO l d108
    replace o95 := o95.goO l d108
    replace K12 := K12.only l (by simpa using nb103)
    replace K19 := K19.only l (by simpa using nb104)
    replace K82 := K82.only l (by simpa using nb105)
    refine x_end ?_
    refine x_tn ?_
    refine x_seq ?_
    refine x_reg ?_
    refine o_move F rfl rfl (fun a F => ?_)
    refine o_toS F rfl Tryz.call34 rfl (toLiteralS_any _ _ _ _ (A2.go hB).r (A2.go hB).m (toq_some c53)) (fun a v114 b115 w l h116 o117 F => ?_)
    have d118 := Dj.new h70.m o117 (Nat.le_refl _)
    have d119 := Dj.new h76.m o117 (Nat.le_refl _)
    have d120 := Dj.new h94.m o117 (Nat.le_refl _)
    have d121 := Dj.new (inm1 K12) o117 (Nat.le_refl _)
    have d122 := Dj.new (inm1 K19) o117 (Nat.le_refl _)
    have d123 := Dj.new (inm1 K82) o117 (Nat.le_refl _)
    have d124 := Dj.new (inm1 K102) o117 (Nat.le_refl _)
    replace o117 := o117.mono hB.size
    replace hB := Below.through l hB
    replace h70 := h70.go l
    replace o71 := o71.go l
    replace h76 := h76.go l
    replace o77 := o77.go l
    replace h94 := h94.go l
    replace o95 := o95.go l
    replace K12 := K12.thru l
    replace K19 := K19.thru l
    replace K82 := K82.thru l
    replace K102 := K102.thru l
    refine o_assign F rfl rfl (fun a F => ?_)
    refine x_end ?_
    refine x_tn ?_
    refine x_seq ?_
    refine x_reg ?_
    refine o_bloadA (cs := [.int .i64 x0.size, v88]) Tryz.isAgg33 Tryz.sizeOf33 F rfl rfl K82 rfl (fun j hj => by match j, hj with | 0, _ => rfl | 1, _ => rfl) (fun a F => ?_)
    refine o_bloadA (cs := [.int .i64 x1.vars, v110]) Tryz.isAgg51 Tryz.sizeOf51 F rfl rfl K102 rfl (fun j hj => by match j, hj with | 0, _ => rfl | 1, _ => rfl) (fun a F => ?_)
    refine o_move F rfl rfl (fun a F => ?_)
    refine o_move F rfl rfl (fun a F => ?_)
    obtain ⟨z125, c126, hR⟩ := bnd_some hR
    refine o_gives F rfl Tryz.call60 rfl (impl_ShrinkNoGood_c z125 c126 _ h76 h94 h116 hx3) (fun a vv w l ⟨v127, rb128, hv132, h130, i131⟩ F => ?_)
    subst vv
    have o134 := h130.own (Own.nil _ _)
    have h133 := h130.rd
    have d135 := Dj.new h70.m o134 (Nat.le_refl _)
    have d136 := Dj.new h76.m o134 (Nat.le_refl _)
    have d137 := Dj.new h94.m o134 (Nat.le_refl _)
    have d138 := Dj.new h116.m o134 (Nat.le_refl _)
    have d139 := Dj.new (inm1 K12) o134 (Nat.le_refl _)
    have d140 := Dj.new (inm1 K19) o134 (Nat.le_refl _)
    have d141 := Dj.new (inm1 K82) o134 (Nat.le_refl _)
    have d142 := Dj.new (inm1 K102) o134 (Nat.le_refl _)
    replace o134 := o134.mono hB.size
    replace hB := Below.through l hB
    replace h70 := h70.go l
    replace o71 := o71.go l
    replace h76 := h76.go l
    replace o77 := o77.go l
    replace h94 := h94.go l
    replace o95 := o95.go l
    replace h116 := h116.go l
    replace o117 := o117.go l
    replace K12 := K12.thru l
    replace K19 := K19.thru l
    replace K82 := K82.thru l
    replace K102 := K102.thru l
    refine o_move F rfl rfl (fun a F => ?_)
    refine o_extract F rfl rfl rfl (fun a F => ?_)
    refine o_extract F rfl rfl rfl (fun a F => ?_)
    refine o_assign F rfl rfl (fun a F => ?_)
    refine o_assign F rfl rfl (fun a F => ?_)
    refine x_end ?_
    refine x_tn ?_
    refine x_seq ?_
    refine x_seq ?_
    obtain ⟨o146, hR, hk147⟩ := thn_some hR
    refine x_cutQ (fun a w => ∃ (s149 : Bool), o146 = .nx s149 ∧ Sk a 147 [(2, v2), (3, .int .i64 x3), (4, .pointer (some ⟨b11, 0, none⟩)), (5, .pointer (some ⟨b18, 0, none⟩)), (10, v64), (11, .int .i64 z62.2), (12, .pointer (some ⟨b81, 0, none⟩)), (13, .pointer (some ⟨b101, 0, none⟩)), (14, v114), (15, v127), (16, .int .i64 z125.2), (70, .bool s149)] ∧ Below w0.heap.size w0 w ∧ Rd (Sl 2 RLiteral) w v64 z62.1 (rb65 ++ []) ∧ Own w0.heap.size (rb65 ++ []) w ∧ Rd (Agg 2 RTemplate) w (.agg #[.int .i64 x0.size, v88]) x0 b75 ∧ Own w0.heap.size b75 w ∧ Rd (Agg 2 RInstance) w (.agg #[.int .i64 x1.vars, v110]) x1 b93 ∧ Own w0.heap.size b93 w ∧ Rd (Sl 2 RLiteral) w v114 x2 b115 ∧ Own w0.heap.size b115 w ∧ Rd (Sl 2 RLiteral) w v127 z125.1 (rb128 ++ []) ∧ Own w0.heap.size (rb128 ++ []) w ∧ Blk w b11 #[.int .i64 x0.size, v14] 24 ∧ Blk w b18 #[.int .i64 x1.vars, v21] 44 ∧ Blk w b81 #[.int .i64 x0.size, v88] 33 ∧ Blk w b101 #[.int .i64 x1.vars, v110] 51) ?_ ?_
    ·
     refine x_reg ?_
     refine o_move F rfl rfl (fun a F => ?_)
     refine o_move F rfl rfl (fun a F => ?_)
     obtain ⟨z150, c151, hR⟩ := bnd_some hR
     refine o_says F rfl Tryz.call36 rfl (eqq_says (fun y => Rd (Sl 2 RLiteral) _ _ y _) c151 h70 (fun hy => eqLiteralS_any _ _ _ _ _ _ h133.r hy.r h133.m hy.m)) (fun a w l F => ?_)
     replace hB := Below.through l hB
     replace h70 := h70.go l
     replace o71 := o71.go l
     replace h76 := h76.go l
     replace o77 := o77.go l
     replace h94 := h94.go l
     replace o95 := o95.go l
     replace h116 := h116.go l
     replace o117 := o117.go l
     replace h133 := h133.go l
     replace o134 := o134.go l
     replace K12 := K12.thru l
     replace K19 := K19.thru l
     replace K82 := K82.thru l
     replace K102 := K102.thru l
     refine o_not F rfl rfl (fun a F => ?_)
     refine o_move F rfl rfl (fun a F => ?_)
     rcases bcases (!z150) with hb152 | hb152
     ·
      replace hR := ifT hb152 hR
      have F := F.eq (t := 66) rfl (congrArg Value.bool hb152)
      refine o_no F rfl rfl (fun a F => ?_)
      refine o_no F rfl rfl (fun a F => ?_)
      refine o_no F rfl rfl (fun a F => ?_)
      refine o_pickt F rfl rfl rfl (fun a F => ?_)
      refine x_end ?_
      refine x_tn ?_
      exact ⟨true, (Option.some.inj hR).symm, F.sub (sc rfl (sc rfl (sc rfl (sc rfl (sc rfl (sc rfl (sc rfl (sc rfl (sc rfl (sc rfl (sc rfl (sc rfl sn)))))))))))), hB, h70, o71, h76, o77, h94, o95, h116, o117, h133, o134, K12, K19, K82, K102⟩
     ·
      replace hR := ifF hb152 hR
      have F := F.eq (t := 66) rfl (congrArg Value.bool hb152)
      refine o_move F rfl rfl (fun a F => ?_)
      refine o_move F rfl rfl (fun a F => ?_)
      refine o_neq F rfl rfl rfl (fun a F => ?_)
      refine o_pickf F rfl rfl rfl (fun a F => ?_)
      refine x_end ?_
      refine x_tn ?_
      exact ⟨(z125.2 != z62.2), (Option.some.inj hR).symm, F.sub (sc rfl (sc rfl (sc rfl (sc rfl (sc rfl (sc rfl (sc rfl (sc rfl (sc rfl (sc rfl (sc rfl (sc rfl sn)))))))))))), hB, h70, o71, h76, o77, h94, o95, h116, o117, h133, o134, K12, K19, K82, K102⟩
    ·
     intro a w ⟨s149, ho148, F, hB, h70, o71, h76, o77, h94, o95, h116, o117, h133, o134, K12, K19, K82, K102⟩
     subst ho148
     have hR := then_nx hk147
     refine x_tn ?_
     refine x_if F rfl (fun hb153 => ?_) (fun hb153 => ?_)
     ·
      replace hR := ifT hb153 hR
      refine x_seq ?_
      refine x_reg ?_
      refine o_assign F rfl rfl (fun a F => ?_)
      refine x_end ?_
      refine x_tn ?_
      refine x_ret ?_
      refine x_tr ?_
      refine x_res1 F rfl (rv_t F rfl) ?_
      obtain rfl := Option.some.inj hR
      exact ⟨rfl, hB⟩
     ·
      replace hR := ifF hb153 hR
      refine x_skip ?_
      refine x_tn ?_
      refine x_seq ?_
      refine x_seq ?_
      refine x_drawn (by kernel_rfl) (fun w l => ?_)
      replace hB := Below.through l hB
      replace h70 := h70.go l
      replace o71 := o71.go l
      replace h76 := h76.go l
      replace o77 := o77.go l
      replace h94 := h94.go l
      replace o95 := o95.go l
      replace h116 := h116.go l
      replace o117 := o117.go l
      replace h133 := h133.go l
      replace o134 := o134.go l
      replace K12 := K12.thru l
      replace K19 := K19.thru l
      replace K82 := K82.thru l
      replace K102 := K102.thru l
      refine b_q 0 (by kernel_rfl) rfl (by kernel_rfl) (by kernel_rfl) (by kernel_rfl) (by kernel_rfl) ?_
      refine v_val F rfl (fun w l => r_bloadA (cs := [.int .i64 x0.size, v88]) Tryz.isAgg33 Tryz.sizeOf33 F rfl (K82.thru l) rfl (fun j hj => by match j, hj with | 0, _ => rfl | 1, _ => rfl)) (fun a F => ?_)
      refine b_q 1 (by kernel_rfl) rfl (by kernel_rfl) (by kernel_rfl) (by kernel_rfl) (by kernel_rfl) ?_
      refine v_val F rfl (fun w l => r_bloadA (cs := [.int .i64 x0.size, v14]) Tryz.isAgg24 Tryz.sizeOf24 F rfl (K12.thru l) rfl (fun j hj => by match j, hj with | 0, _ => rfl | 1, _ => rfl)) (fun a F => ?_)
      refine b_e 2 rfl (by kernel_rfl) ?_
      refine o_toA F rfl Tryz.call17 rfl (toTemplate_any _ _ _ _ (A0.go hB).r (A0.go hB).m (toq_some c36)) (fun a v154 b155 w l h156 o157 F => ?_)
      have d158 := Dj.new h70.m o157 (Nat.le_refl _)
      have d159 := Dj.new h76.m o157 (Nat.le_refl _)
      have d160 := Dj.new h94.m o157 (Nat.le_refl _)
      have d161 := Dj.new h116.m o157 (Nat.le_refl _)
      have d162 := Dj.new h133.m o157 (Nat.le_refl _)
      have d163 := Dj.new (inm1 K12) o157 (Nat.le_refl _)
      have d164 := Dj.new (inm1 K19) o157 (Nat.le_refl _)
      have d165 := Dj.new (inm1 K82) o157 (Nat.le_refl _)
      have d166 := Dj.new (inm1 K102) o157 (Nat.le_refl _)
      replace o157 := o157.mono hB.size
      replace hB := Below.through l hB
      replace h70 := h70.go l
      replace o71 := o71.go l
      replace h76 := h76.go l
      replace o77 := o77.go l
      replace h94 := h94.go l
      replace o95 := o95.go l
      replace h116 := h116.go l
      replace o117 := o117.go l
      replace h133 := h133.go l
      replace o134 := o134.go l
      replace K12 := K12.thru l
      replace K19 := K19.thru l
      replace K82 := K82.thru l
      replace K102 := K102.thru l
      refine x_end ?_
      refine x_tn ?_
      refine ⟨.inl l, ?_⟩
      refine b_e 3 rfl (by kernel_rfl) ?_
      obtain ⟨z167, c168, hR⟩ := bnd_some hR
      refine o_says F rfl Tryz.call20 rfl (eqq_says (fun y => Rd (Agg 2 RTemplate) _ _ y _) c168 h156 (fun hy => eqTemplate_any _ _ _ _ _ _ h76.r hy.r h76.m hy.m)) (fun a w l F => ?_)
      replace hB := Below.through l hB
      replace h70 := h70.go l
      replace o71 := o71.go l
      replace h76 := h76.go l
      replace o77 := o77.go l
      replace h94 := h94.go l
      replace o95 := o95.go l
      replace h116 := h116.go l
      replace o117 := o117.go l
      replace h133 := h133.go l
      replace o134 := o134.go l
      replace K12 := K12.thru l
      replace K19 := K19.thru l
      replace K82 := K82.thru l
      replace K102 := K102.thru l
      refine x_end ?_
      refine x_tn ?_
      refine ⟨.inl l, ?_⟩
      refine b_q 4 (by kernel_rfl) rfl (by kernel_rfl) (by kernel_rfl) (by kernel_rfl) (by kernel_rfl) ?_
      refine v_val F rfl (fun w l => r_not F rfl) (fun a F => ?_)
      refine b_end (by kernel_rfl) ?_
      refine x_tn ?_
      refine x_if F rfl (fun hb169 => ?_) (fun hb169 => ?_)
      ·
       replace hR := ifT hb169 hR
       refine x_seq ?_
       refine x_reg ?_
       refine o_assign F rfl rfl (fun a F => ?_)
       refine x_end ?_
       refine x_tn ?_
       refine x_ret ?_
       refine x_tr ?_
       refine x_res1 F rfl (rv_t F rfl) ?_
       obtain rfl := Option.some.inj hR
       exact ⟨rfl, hB⟩
      ·
       replace hR := ifF hb169 hR
       refine x_skip ?_
       refine x_tn ?_
       refine x_seq ?_
       refine x_seq ?_
       refine x_drawn (by kernel_rfl) (fun w l => ?_)
       replace hB := Below.through l hB
       replace h70 := h70.go l
       replace o71 := o71.go l
       replace h76 := h76.go l
       replace o77 := o77.go l
       replace h94 := h94.go l
       replace o95 := o95.go l
       replace h116 := h116.go l
       replace o117 := o117.go l
       replace h133 := h133.go l
       replace o134 := o134.go l
       replace K12 := K12.thru l
       replace K19 := K19.thru l
       replace K82 := K82.thru l
       replace K102 := K102.thru l
       refine b_q 0 (by kernel_rfl) rfl (by kernel_rfl) (by kernel_rfl) (by kernel_rfl) (by kernel_rfl) ?_
       refine v_val F rfl (fun w l => r_bloadA (cs := [.int .i64 x1.vars, v110]) Tryz.isAgg51 Tryz.sizeOf51 F rfl (K102.thru l) rfl (fun j hj => by match j, hj with | 0, _ => rfl | 1, _ => rfl)) (fun a F => ?_)
       refine b_q 1 (by kernel_rfl) rfl (by kernel_rfl) (by kernel_rfl) (by kernel_rfl) (by kernel_rfl) ?_
       refine v_val F rfl (fun w l => r_bloadA (cs := [.int .i64 x1.vars, v21]) Tryz.isAgg44 Tryz.sizeOf44 F rfl (K19.thru l) rfl (fun j hj => by match j, hj with | 0, _ => rfl | 1, _ => rfl)) (fun a F => ?_)
       refine b_e 2 rfl (by kernel_rfl) ?_
       refine o_toA F rfl Tryz.call24 rfl (toInstance_any _ _ _ _ (A1.go hB).r (A1.go hB).m (toq_some c44)) (fun a v170 b171 w l h172 o173 F => ?_)
       have d174 := Dj.new h70.m o173 (Nat.le_refl _)
       have d175 := Dj.new h76.m o173 (Nat.le_refl _)
       have d176 := Dj.new h94.m o173 (Nat.le_refl _)
       have d177 := Dj.new h116.m o173 (Nat.le_refl _)
       have d178 := Dj.new h133.m o173 (Nat.le_refl _)
       have d179 := Dj.new (inm1 K12) o173 (Nat.le_refl _)
       have d180 := Dj.new (inm1 K19) o173 (Nat.le_refl _)
       have d181 := Dj.new (inm1 K82) o173 (Nat.le_refl _)
       have d182 := Dj.new (inm1 K102) o173 (Nat.le_refl _)
       replace o173 := o173.mono hB.size
       replace hB := Below.through l hB
       replace h70 := h70.go l
       replace o71 := o71.go l
       replace h76 := h76.go l
       replace o77 := o77.go l
       replace h94 := h94.go l
       replace o95 := o95.go l
       replace h116 := h116.go l
       replace o117 := o117.go l
       replace h133 := h133.go l
       replace o134 := o134.go l
       replace K12 := K12.thru l
       replace K19 := K19.thru l
       replace K82 := K82.thru l
       replace K102 := K102.thru l
       refine x_end ?_
       refine x_tn ?_
       refine ⟨.inl l, ?_⟩
       refine b_e 3 rfl (by kernel_rfl) ?_
       obtain ⟨z183, c184, hR⟩ := bnd_some hR
       refine o_says F rfl Tryz.call27 rfl (eqq_says (fun y => Rd (Agg 2 RInstance) _ _ y _) c184 h172 (fun hy => eqInstance_any _ _ _ _ _ _ h94.r hy.r h94.m hy.m)) (fun a w l F => ?_)
       replace hB := Below.through l hB
       replace h70 := h70.go l
       replace o71 := o71.go l
       replace h76 := h76.go l
       replace o77 := o77.go l
       replace h94 := h94.go l
       replace o95 := o95.go l
       replace h116 := h116.go l
       replace o117 := o117.go l
       replace h133 := h133.go l
       replace o134 := o134.go l
       replace K12 := K12.thru l
       replace K19 := K19.thru l
       replace K82 := K82.thru l
       replace K102 := K102.thru l
       refine x_end ?_
       refine x_tn ?_
       refine ⟨.inl l, ?_⟩
       refine b_q 4 (by kernel_rfl) rfl (by kernel_rfl) (by kernel_rfl) (by kernel_rfl) (by kernel_rfl) ?_
       refine v_val F rfl (fun w l => r_not F rfl) (fun a F => ?_)
       refine b_end (by kernel_rfl) ?_
       refine x_tn ?_
       refine x_if F rfl (fun hb185 => ?_) (fun hb185 => ?_)
       ·
        replace hR := ifT hb185 hR
        refine x_seq ?_
        refine x_reg ?_
        refine o_assign F rfl rfl (fun a F => ?_)
        refine x_end ?_
        refine x_tn ?_
        refine x_ret ?_
        refine x_tr ?_
        refine x_res1 F rfl (rv_t F rfl) ?_
        obtain rfl := Option.some.inj hR
        exact ⟨rfl, hB⟩
       ·
        replace hR := ifF hb185 hR
        refine x_skip ?_
        refine x_tn ?_
        refine x_seq ?_
        refine x_seq ?_
        refine x_reg ?_
        refine o_move F rfl rfl (fun a F => ?_)
        refine o_move F rfl rfl (fun a F => ?_)
        refine o_toS F rfl Tryz.call34 rfl (toLiteralS_any _ _ _ _ (A2.go hB).r (A2.go hB).m (toq_some c53)) (fun a v186 b187 w l h188 o189 F => ?_)
        have d190 := Dj.new h70.m o189 (Nat.le_refl _)
        have d191 := Dj.new h76.m o189 (Nat.le_refl _)
        have d192 := Dj.new h94.m o189 (Nat.le_refl _)
        have d193 := Dj.new h116.m o189 (Nat.le_refl _)
        have d194 := Dj.new h133.m o189 (Nat.le_refl _)
        have d195 := Dj.new (inm1 K12) o189 (Nat.le_refl _)
        have d196 := Dj.new (inm1 K19) o189 (Nat.le_refl _)
        have d197 := Dj.new (inm1 K82) o189 (Nat.le_refl _)
        have d198 := Dj.new (inm1 K102) o189 (Nat.le_refl _)
        replace o189 := o189.mono hB.size
        replace hB := Below.through l hB
        replace h70 := h70.go l
        replace o71 := o71.go l
        replace h76 := h76.go l
        replace o77 := o77.go l
        replace h94 := h94.go l
        replace o95 := o95.go l
        replace h116 := h116.go l
        replace o117 := o117.go l
        replace h133 := h133.go l
        replace o134 := o134.go l
        replace K12 := K12.thru l
        replace K19 := K19.thru l
        replace K82 := K82.thru l
        replace K102 := K102.thru l
        obtain ⟨z199, c200, hR⟩ := bnd_some hR
        refine o_says F rfl Tryz.call36 rfl (eqq_says (fun y => Rd (Sl 2 RLiteral) _ _ y _) c200 h188 (fun hy => eqLiteralS_any _ _ _ _ _ _ h116.r hy.r h116.m hy.m)) (fun a w l F => ?_)
        replace hB := Below.through l hB
        replace h70 := h70.go l
        replace o71 := o71.go l
        replace h76 := h76.go l
        replace o77 := o77.go l
        replace h94 := h94.go l
        replace o95 := o95.go l
        replace h116 := h116.go l
        replace o117 := o117.go l
        replace h133 := h133.go l
        replace o134 := o134.go l
        replace K12 := K12.thru l
        replace K19 := K19.thru l
        replace K82 := K82.thru l
        replace K102 := K102.thru l
        refine o_not F rfl rfl (fun a F => ?_)
        refine x_end ?_
        refine x_tn ?_
        refine x_if F rfl (fun hb201 => ?_) (fun hb201 => ?_)
        ·
         replace hR := ifT hb201 hR
         refine x_seq ?_
         refine x_reg ?_
         refine o_assign F rfl rfl (fun a F => ?_)
         refine x_end ?_
         refine x_tn ?_
         refine x_ret ?_
         refine x_tr ?_
         refine x_res1 F rfl (rv_t F rfl) ?_
         obtain rfl := Option.some.inj hR
         exact ⟨rfl, hB⟩
        ·
         replace hR := ifF hb201 hR
         refine x_skip ?_
         refine x_tn ?_
         refine x_seq ?_
         refine x_reg ?_
         refine o_assign F rfl rfl (fun a F => ?_)
         refine x_end ?_
         refine x_tn ?_
         refine x_seq ?_
         refine x_reg ?_
         refine o_bloadA (cs := [.int .i64 x0.size, v88]) Tryz.isAgg33 Tryz.sizeOf33 F rfl rfl K82 rfl (fun j hj => by match j, hj with | 0, _ => rfl | 1, _ => rfl) (fun a F => ?_)
         refine o_move F rfl rfl (fun a F => ?_)
         obtain ⟨z202, c203, hR⟩ := bnd_some hR
         refine o_markA F rfl Tryz.call28 rfl (mkq_markA c203 (fun h0 h1 => markTemplate_any _ _ _ _ _ _ h76.r o77 h0 h1)) (fun a w l h204 o205 F => ?_)
         replace h70 := h70.goO l d78
         replace o71 := o71.goO l d78
         replace h94 := h94.goO l (Dj.symm d97)
         replace o95 := o95.goO l (Dj.symm d97)
         replace h116 := h116.goO l (Dj.symm d119)
         replace o117 := o117.goO l (Dj.symm d119)
         replace h133 := h133.goO l (Dj.symm d136)
         replace o134 := o134.goO l (Dj.symm d136)
         replace K12 := K12.only l (Dj.in1 d79)
         replace K19 := K19.only l (Dj.in1 d80)
         replace K102 := K102.only l (Dj.in1 (Dj.symm d107))
         replace hB := hB.o l (Own.lo o77) hB.size
         have iz202 := mkq_i c203
         refine o_assign F rfl rfl (fun a F => ?_)
         refine x_end ?_
         refine x_tn ?_
         refine x_seq ?_
         refine x_reg ?_
         refine o_bloadA (cs := [.int .i64 x1.vars, v110]) Tryz.isAgg51 Tryz.sizeOf51 F rfl rfl K102 rfl (fun j hj => by match j, hj with | 0, _ => rfl | 1, _ => rfl) (fun a F => ?_)
         refine o_move F rfl rfl (fun a F => ?_)
         obtain ⟨z206, c207, hR⟩ := bnd_some hR
         refine o_markA F rfl Tryz.call29 rfl (mkq_markA c207 (fun h0 h1 => markInstance_any _ _ _ _ _ _ h94.r o95 h0 h1)) (fun a w l h208 o209 F => ?_)
         replace h70 := h70.goO l d96
         replace o71 := o71.goO l d96
         replace h116 := h116.goO l (Dj.symm d120)
         replace o117 := o117.goO l (Dj.symm d120)
         replace h133 := h133.goO l (Dj.symm d137)
         replace o134 := o134.goO l (Dj.symm d137)
         replace K12 := K12.only l (Dj.in1 d98)
         replace K19 := K19.only l (Dj.in1 d99)
         replace hB := hB.o l (Own.lo o95) hB.size
         have iz206 := mkq_i c207
         refine o_assign F rfl rfl (fun a F => ?_)
         refine x_end ?_
         refine x_tn ?_
         refine x_seq ?_
         refine x_reg ?_
         refine o_move F rfl rfl (fun a F => ?_)
         refine o_move F rfl rfl (fun a F => ?_)
         obtain ⟨z210, c211, hR⟩ := bnd_some hR
         refine o_markS F rfl Tryz.call61 rfl (mkq_markS c211 (fun h0 h1 => markLiteralS_any _ _ _ _ _ _ h116.r o117 h0 h1)) (fun a w l h212 o213 F => ?_)
         replace h70 := h70.goO l d118
         replace o71 := o71.goO l d118
         replace h133 := h133.goO l (Dj.symm d138)
         replace o134 := o134.goO l (Dj.symm d138)
         replace K12 := K12.only l (Dj.in1 d121)
         replace K19 := K19.only l (Dj.in1 d122)
         replace hB := hB.o l (Own.lo o117) hB.size
         have iz210 := mkq_i c211
         refine o_assign F rfl rfl (fun a F => ?_)
         refine x_end ?_
         refine x_tn ?_
         refine x_seq ?_
         refine x_seq ?_
         obtain ⟨o218, hR, hk219⟩ := thn_some hR
         refine x_cutQ (fun a w => ∃ (s221 : Bool), o218 = .nx s221 ∧ Sk a 147 [(2, v2), (3, .int .i64 x3), (4, .pointer (some ⟨b11, 0, none⟩)), (5, .pointer (some ⟨b18, 0, none⟩)), (10, v64), (11, .int .i64 z62.2), (15, v127), (107, .bool s221)] ∧ Below w0.heap.size w0 w ∧ Rd (Sl 2 RLiteral) w v64 z62.1 (rb65 ++ []) ∧ Own w0.heap.size (rb65 ++ []) w ∧ Rd (Sl 2 RLiteral) w v127 z125.1 (rb128 ++ []) ∧ Own w0.heap.size (rb128 ++ []) w ∧ Blk w b11 #[.int .i64 x0.size, v14] 24 ∧ Blk w b18 #[.int .i64 x1.vars, v21] 44) ?_ ?_
         ·
          refine x_reg ?_
          refine o_move F rfl rfl (fun a F => ?_)
          refine o_lss F rfl rfl rfl (fun a F => ?_)
          refine o_move F rfl rfl (fun a F => ?_)
          rcases bcases (decide (z210 < 0)) with hb222 | hb222
          ·
           replace hR := ifT hb222 hR
           have F := F.eq (t := 97) rfl (congrArg Value.bool hb222)
           refine o_no F rfl rfl (fun a F => ?_)
           refine o_no F rfl rfl (fun a F => ?_)
           refine o_no F rfl rfl (fun a F => ?_)
           refine o_no F rfl rfl (fun a F => ?_)
           refine o_pickt F rfl rfl rfl (fun a F => ?_)
           refine o_move F rfl rfl (fun a F => ?_)
           refine o_no F rfl rfl (fun a F => ?_)
           refine o_no F rfl rfl (fun a F => ?_)
           refine o_no F rfl rfl (fun a F => ?_)
           refine o_pickt F rfl rfl rfl (fun a F => ?_)
           refine x_end ?_
           refine x_tn ?_
           exact ⟨true, (Option.some.inj hR).symm, F.sub (sc rfl (sc rfl (sc rfl (sc rfl (sc rfl (sc rfl (sc rfl (sc rfl sn)))))))), hB, h70, o71, h133, o134, K12, K19⟩
          ·
           replace hR := ifF hb222 hR
           have F := F.eq (t := 97) rfl (congrArg Value.bool hb222)
           refine o_move F rfl rfl (fun a F => ?_)
           refine o_move F rfl rfl (fun a F => ?_)
           obtain ⟨z223, c224, hR⟩ := bnd_some hR
           refine o_says F rfl Tryz.call36 rfl (eqq_says (fun y => Rd (Sl 2 RLiteral) _ _ y _) c224 h70 (fun hy => eqLiteralS_any _ _ _ _ _ _ h133.r hy.r h133.m hy.m)) (fun a w l F => ?_)
           replace hB := Below.through l hB
           replace h70 := h70.go l
           replace o71 := o71.go l
           replace h133 := h133.go l
           replace o134 := o134.go l
           replace K12 := K12.thru l
           replace K19 := K19.thru l
           refine o_not F rfl rfl (fun a F => ?_)
           refine o_pickf F rfl rfl rfl (fun a F => ?_)
           refine o_move F rfl rfl (fun a F => ?_)
           rcases bcases (!z223) with hb225 | hb225
           ·
            replace hR := ifT hb225 hR
            have F := F.eq (t := 103) rfl (congrArg Value.bool hb225)
            refine o_no F rfl rfl (fun a F => ?_)
            refine o_no F rfl rfl (fun a F => ?_)
            refine o_no F rfl rfl (fun a F => ?_)
            refine o_pickt F rfl rfl rfl (fun a F => ?_)
            refine x_end ?_
            refine x_tn ?_
            exact ⟨true, (Option.some.inj hR).symm, F.sub (sc rfl (sc rfl (sc rfl (sc rfl (sc rfl (sc rfl (sc rfl (sc rfl sn)))))))), hB, h70, o71, h133, o134, K12, K19⟩
           ·
            replace hR := ifF hb225 hR
            have F := F.eq (t := 103) rfl (congrArg Value.bool hb225)
            refine o_move F rfl rfl (fun a F => ?_)
            refine o_move F rfl rfl (fun a F => ?_)
            refine o_neq F rfl rfl rfl (fun a F => ?_)
            refine o_pickf F rfl rfl rfl (fun a F => ?_)
            refine x_end ?_
            refine x_tn ?_
            exact ⟨(z125.2 != z62.2), (Option.some.inj hR).symm, F.sub (sc rfl (sc rfl (sc rfl (sc rfl (sc rfl (sc rfl (sc rfl (sc rfl sn)))))))), hB, h70, o71, h133, o134, K12, K19⟩
         ·
          intro a w ⟨s221, ho220, F, hB, h70, o71, h133, o134, K12, K19⟩
          subst ho220
          have hR := then_nx hk219
          refine x_tn ?_
          refine x_if F rfl (fun hb226 => ?_) (fun hb226 => ?_)
          ·
           replace hR := ifT hb226 hR
           refine x_seq ?_
           refine x_reg ?_
           refine o_assign F rfl rfl (fun a F => ?_)
           refine x_end ?_
           refine x_tn ?_
           refine x_ret ?_
           refine x_tr ?_
           refine x_res1 F rfl (rv_t F rfl) ?_
           obtain rfl := Option.some.inj hR
           exact ⟨rfl, hB⟩
          ·
           replace hR := ifF hb226 hR
           refine x_skip ?_
           refine x_tn ?_
           refine x_seq ?_
           refine x_reg ?_
           refine o_assign F rfl rfl (fun a F => ?_)
           refine x_end ?_
           refine x_tn ?_
           refine x_seq ?_
           refine x_reg ?_
           refine o_move F rfl rfl (fun a F => ?_)
           refine o_move F rfl rfl (fun a F => ?_)
           obtain ⟨z227, c228, hR⟩ := bnd_some hR
           refine o_markS F rfl Tryz.call61 rfl (mkq_markS c228 (fun h0 h1 => markLiteralS_any _ _ _ _ _ _ h133.r o134 h0 h1)) (fun a w l h229 o230 F => ?_)
           replace h70 := h70.goO l d135
           replace o71 := o71.goO l d135
           replace K12 := K12.only l (Dj.in1 d139)
           replace K19 := K19.only l (Dj.in1 d140)
           replace hB := hB.o l (Own.lo o134) hB.size
           have iz227 := mkq_i c228
           refine o_assign F rfl rfl (fun a F => ?_)
           refine x_end ?_
           refine x_tn ?_
           refine x_seq ?_
           refine x_reg ?_
           refine o_assign F rfl rfl (fun a F => ?_)
           refine x_end ?_
           refine x_tn ?_
           refine x_seq ?_
           refine x_reg ?_
           refine o_move F rfl rfl (fun a F => ?_)
           refine o_move F rfl rfl (fun a F => ?_)
           refine o_saysI F rfl Tryz.call62 rfl (mkq_says c228 (fun h0 h1 => heldLiteralS_any _ _ _ _ _ h229.r h229.m h0 h1)) (fun a w l iz227 F => ?_)
           replace hB := Below.through l hB
           replace h70 := h70.go l
           replace o71 := o71.go l
           replace h229 := h229.go l
           replace o230 := o230.go l
           replace K12 := K12.thru l
           replace K19 := K19.thru l
           refine o_assign F rfl rfl (fun a F => ?_)
           refine x_end ?_
           refine x_tn ?_
           refine x_seq ?_
           refine x_seq ?_
           refine x_reg ?_
           refine o_move F rfl rfl (fun a F => ?_)
           refine o_lss F rfl rfl rfl (fun a F => ?_)
           refine x_end ?_
           refine x_tn ?_
           refine x_if F rfl (fun hb231 => ?_) (fun hb231 => ?_)
           ·
            replace hR := ifT hb231 hR
            refine x_seq ?_
            refine x_reg ?_
            refine o_assign F rfl rfl (fun a F => ?_)
            refine x_end ?_
            refine x_tn ?_
            refine x_ret ?_
            refine x_tr ?_
            refine x_res1 F rfl (rv_t F rfl) ?_
            obtain rfl := Option.some.inj hR
            exact ⟨rfl, hB⟩
           ·
            replace hR := ifF hb231 hR
            refine x_skip ?_
            refine x_tn ?_
            refine x_seq ?_
            refine x_seq ?_
            refine x_reg ?_
            refine o_move F rfl rfl (fun a F => ?_)
            refine o_move F rfl rfl (fun a F => ?_)
            refine o_neq F rfl rfl rfl (fun a F => ?_)
            refine x_end ?_
            refine x_tn ?_
            refine x_if F rfl (fun hb232 => ?_) (fun hb232 => ?_)
            ·
             replace hR := ifT hb232 hR
             refine x_seq ?_
             refine x_reg ?_
             refine o_assign F rfl rfl (fun a F => ?_)
             refine x_end ?_
             refine x_tn ?_
             refine x_ret ?_
             refine x_tr ?_
             refine x_res1 F rfl (rv_t F rfl) ?_
             obtain rfl := Option.some.inj hR
             exact ⟨rfl, hB⟩
            ·
             replace hR := ifF hb232 hR
             refine x_skip ?_
             refine x_tn ?_
             refine x_seq ?_
             refine x_drawn (by kernel_rfl) (fun w l => ?_)
             replace hB := Below.through l hB
             replace h70 := h70.go l
             replace o71 := o71.go l
             replace h229 := h229.go l
             replace o230 := o230.go l
             replace K12 := K12.thru l
             replace K19 := K19.thru l
             refine b_q 0 (by kernel_rfl) rfl (by kernel_rfl) (by kernel_rfl) (by kernel_rfl) (by kernel_rfl) ?_
             refine v_val F rfl (fun w l => r_bloadA (cs := [.int .i64 x0.size, v14]) Tryz.isAgg24 Tryz.sizeOf24 F rfl (K12.thru l) rfl (fun j hj => by match j, hj with | 0, _ => rfl | 1, _ => rfl)) (fun a F => ?_)
             refine b_q 2 (by kernel_rfl) rfl (by kernel_rfl) (by kernel_rfl) (by kernel_rfl) (by kernel_rfl) ?_
             refine v_val F rfl (fun w l => r_bloadA (cs := [.int .i64 x1.vars, v21]) Tryz.isAgg44 Tryz.sizeOf44 F rfl (K19.thru l) rfl (fun j hj => by match j, hj with | 0, _ => rfl | 1, _ => rfl)) (fun a F => ?_)
             refine b_q0 4 rfl (by kernel_rfl) (by kernel_rfl) (by kernel_rfl) ?_
             refine v_val F rfl (fun w l => r_move F rfl) (fun a F => ?_)
             refine b_q0 6 rfl (by kernel_rfl) (by kernel_rfl) (by kernel_rfl) ?_
             refine v_val F rfl (fun w l => r_move F rfl) (fun a F => ?_)
             refine b_e 1 rfl (by kernel_rfl) ?_
             refine o_toA F rfl Tryz.call17 rfl (toTemplate_any _ _ _ _ (A0.go hB).r (A0.go hB).m (toq_some c36)) (fun a v233 b234 w l h235 o236 F => ?_)
             have d237 := Dj.new h70.m o236 (Nat.le_refl _)
             have d238 := Dj.new h229.m o236 (Nat.le_refl _)
             replace o236 := o236.mono hB.size
             replace hB := Below.through l hB
             replace h70 := h70.go l
             replace o71 := o71.go l
             replace h229 := h229.go l
             replace o230 := o230.go l
             refine x_end ?_
             refine x_tn ?_
             refine ⟨.inl l, ?_⟩
             refine b_e 3 rfl (by kernel_rfl) ?_
             refine o_toA F rfl Tryz.call24 rfl (toInstance_any _ _ _ _ (A1.go hB).r (A1.go hB).m (toq_some c44)) (fun a v239 b240 w l h241 o242 F => ?_)
             have d243 := Dj.new h70.m o242 (Nat.le_refl _)
             have d244 := Dj.new h229.m o242 (Nat.le_refl _)
             have d245 := Dj.new h235.m o242 (Nat.le_refl _)
             replace o242 := o242.mono hB.size
             replace hB := Below.through l hB
             replace h70 := h70.go l
             replace o71 := o71.go l
             replace h229 := h229.go l
             replace o230 := o230.go l
             replace h235 := h235.go l
             replace o236 := o236.go l
             refine x_end ?_
             refine x_tn ?_
             refine ⟨.inl l, ?_⟩
             refine b_e 5 rfl (by kernel_rfl) ?_
             refine o_toS F rfl Tryz.call34 rfl (toLiteralS_any _ _ _ _ (A2.go hB).r (A2.go hB).m (toq_some c53)) (fun a v246 b247 w l h248 o249 F => ?_)
             have d250 := Dj.new h70.m o249 (Nat.le_refl _)
             have d251 := Dj.new h229.m o249 (Nat.le_refl _)
             have d252 := Dj.new h235.m o249 (Nat.le_refl _)
             have d253 := Dj.new h241.m o249 (Nat.le_refl _)
             replace o249 := o249.mono hB.size
             replace hB := Below.through l hB
             replace h70 := h70.go l
             replace o71 := o71.go l
             replace h229 := h229.go l
             replace o230 := o230.go l
             replace h235 := h235.go l
             replace o236 := o236.go l
             replace h241 := h241.go l
             replace o242 := o242.go l
             refine x_end ?_
             refine x_tn ?_
             refine ⟨.inl l, ?_⟩
             refine b_e 7 rfl (by kernel_rfl) ?_
             refine o_gives F rfl Tryz.call60 rfl (impl_ShrinkNoGood_c z125 c126 _ h235 h241 h248 hx3) (fun a vv w l ⟨v254, rb255, hv259, h257, i258⟩ F => ?_)
             subst vv
             have o261 := h257.own (Own.nil _ _)
             have h260 := h257.rd
             have d262 := Dj.new h70.m o261 (Nat.le_refl _)
             have d263 := Dj.new h229.m o261 (Nat.le_refl _)
             replace o261 := o261.mono hB.size
             replace hB := Below.through l hB
             replace h70 := h70.go l
             replace o71 := o71.go l
             replace h229 := h229.go l
             replace o230 := o230.go l
             refine x_end ?_
             refine x_tn ?_
             refine ⟨.inl l, ?_⟩
             refine b_q0 8 rfl (by kernel_rfl) (by kernel_rfl) (by kernel_rfl) ?_
             refine v_val F rfl (fun w l => r_move F rfl) (fun a F => ?_)
             refine b_q 9 (by kernel_rfl) rfl (by kernel_rfl) (by kernel_rfl) (by kernel_rfl) (by kernel_rfl) ?_
             refine v_val F rfl (fun w l => r_extract F rfl rfl) (fun a F => ?_)
             refine b_q 10 (by kernel_rfl) rfl (by kernel_rfl) (by kernel_rfl) (by kernel_rfl) (by kernel_rfl) ?_
             refine v_val F rfl (fun w l => r_extract F rfl rfl) (fun a F => ?_)
             refine b_q0 11 rfl (by kernel_rfl) (by kernel_rfl) (by kernel_rfl) ?_
             refine v_val F rfl (fun w l => r_assign F rfl) (fun a F => ?_)
             refine b_q0 12 rfl (by kernel_rfl) (by kernel_rfl) (by kernel_rfl) ?_
             refine v_val F rfl (fun w l => r_assign F rfl) (fun a F => ?_)
             refine b_end (by kernel_rfl) ?_
             refine x_tn ?_
             refine x_seq ?_
             refine x_seq ?_
             obtain ⟨o267, hR, hk268⟩ := thn_some hR
             refine x_cutQ (fun a w => ∃ (s270 : Bool), o267 = .nx s270 ∧ Sk a 147 [(15, v127), (18, .int .i64 z227), (138, .bool s270)] ∧ Below w0.heap.size w0 w ∧ Rd (Sl 2 RLiteral) w v127 (mkS Literal.emk Literal.ecnt z125.1 1) (rb128 ++ []) ∧ Own w0.heap.size (rb128 ++ []) w) ?_ ?_
             ·
              refine x_reg ?_
              refine o_move F rfl rfl (fun a F => ?_)
              refine o_move F rfl rfl (fun a F => ?_)
              obtain ⟨z271, c272, hR⟩ := bnd_some hR
              refine o_says F rfl Tryz.call36 rfl (eqq_says (fun y => Rd (Sl 2 RLiteral) _ _ y _) c272 h70 (fun hy => eqLiteralS_any _ _ _ _ _ _ h260.r hy.r h260.m hy.m)) (fun a w l F => ?_)
              replace hB := Below.through l hB
              replace h229 := h229.go l
              replace o230 := o230.go l
              refine o_not F rfl rfl (fun a F => ?_)
              refine o_move F rfl rfl (fun a F => ?_)
              rcases bcases (!z271) with hb273 | hb273
              ·
               replace hR := ifT hb273 hR
               have F := F.eq (t := 134) rfl (congrArg Value.bool hb273)
               refine o_no F rfl rfl (fun a F => ?_)
               refine o_no F rfl rfl (fun a F => ?_)
               refine o_no F rfl rfl (fun a F => ?_)
               refine o_pickt F rfl rfl rfl (fun a F => ?_)
               refine x_end ?_
               refine x_tn ?_
               exact ⟨true, (Option.some.inj hR).symm, F.sub (sc rfl (sc rfl (sc rfl sn))), hB, h229, o230⟩
              ·
               replace hR := ifF hb273 hR
               have F := F.eq (t := 134) rfl (congrArg Value.bool hb273)
               refine o_move F rfl rfl (fun a F => ?_)
               refine o_move F rfl rfl (fun a F => ?_)
               refine o_neq F rfl rfl rfl (fun a F => ?_)
               refine o_pickf F rfl rfl rfl (fun a F => ?_)
               refine x_end ?_
               refine x_tn ?_
               exact ⟨(z125.2 != z62.2), (Option.some.inj hR).symm, F.sub (sc rfl (sc rfl (sc rfl sn))), hB, h229, o230⟩
             ·
              intro a w ⟨s270, ho269, F, hB, h229, o230⟩
              subst ho269
              have hR := then_nx hk268
              refine x_tn ?_
              refine x_if F rfl (fun hb274 => ?_) (fun hb274 => ?_)
              ·
               replace hR := ifT hb274 hR
               refine x_seq ?_
               refine x_reg ?_
               refine o_assign F rfl rfl (fun a F => ?_)
               refine x_end ?_
               refine x_tn ?_
               refine x_ret ?_
               refine x_tr ?_
               refine x_res1 F rfl (rv_t F rfl) ?_
               obtain rfl := Option.some.inj hR
               exact ⟨rfl, hB⟩
              ·
               replace hR := ifF hb274 hR
               refine x_skip ?_
               refine x_tn ?_
               refine x_seq ?_
               refine x_reg ?_
               refine o_assign F rfl rfl (fun a F => ?_)
               refine x_end ?_
               refine x_tn ?_
               refine x_seq ?_
               refine x_reg ?_
               refine o_move F rfl rfl (fun a F => ?_)
               refine o_move F rfl rfl (fun a F => ?_)
               refine o_saysI F rfl Tryz.call62 rfl (mkq_says c228 (fun h0 h1 => heldLiteralS_any _ _ _ _ _ h229.r h229.m h0 h1)) (fun a w l iz227 F => ?_)
               replace hB := Below.through l hB
               refine o_assign F rfl rfl (fun a F => ?_)
               refine x_end ?_
               refine x_tn ?_
               refine x_seq ?_
               refine x_seq ?_
               refine x_reg ?_
               refine o_move F rfl rfl (fun a F => ?_)
               refine o_lss F rfl rfl rfl (fun a F => ?_)
               refine x_end ?_
               refine x_tn ?_
               refine x_if F rfl (fun hb275 => ?_) (fun hb275 => ?_)
               ·
                replace hR := ifT hb275 hR
                refine x_seq ?_
                refine x_reg ?_
                refine o_assign F rfl rfl (fun a F => ?_)
                refine x_end ?_
                refine x_tn ?_
                refine x_ret ?_
                refine x_tr ?_
                refine x_res1 F rfl (rv_t F rfl) ?_
                obtain rfl := Option.some.inj hR
                exact ⟨rfl, hB⟩
               ·
                replace hR := ifF hb275 hR
                refine x_skip ?_
                refine x_tn ?_
                refine x_seq ?_
                refine x_seq ?_
                refine x_reg ?_
                refine o_move F rfl rfl (fun a F => ?_)
                refine o_move F rfl rfl (fun a F => ?_)
                refine o_neq F rfl rfl rfl (fun a F => ?_)
                refine x_end ?_
                refine x_tn ?_
                refine x_if F rfl (fun hb276 => ?_) (fun hb276 => ?_)
                ·
                 replace hR := ifT hb276 hR
                 refine x_seq ?_
                 refine x_reg ?_
                 refine o_assign F rfl rfl (fun a F => ?_)
                 refine x_end ?_
                 refine x_tn ?_
                 refine x_ret ?_
                 refine x_tr ?_
                 refine x_res1 F rfl (rv_t F rfl) ?_
                 obtain rfl := Option.some.inj hR
                 exact ⟨rfl, hB⟩
                ·
                 replace hR := ifF hb276 hR
                 refine x_skip ?_
                 refine x_tn ?_
                 refine x_seq ?_
                 refine x_reg ?_
                 refine o_assign F rfl rfl (fun a F => ?_)
                 refine x_end ?_
                 refine x_tn ?_
                 refine x_ret ?_
                 refine x_res1 F rfl (rv_t F rfl) ?_
                 obtain rfl := Option.some.inj hR
                 exact ⟨rfl, hB⟩
end
end Go.Proofs.YtfepllddlmhjiaaGreat
