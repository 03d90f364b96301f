/-
  Laws of the program as plain functions, and that they compute them. Printed by lawfx.py.
-/
import Derived.Test.YtfepllddlmhjiaaX6
import Derived.Test.YtfepllddlmhjiaaY
import Derived.Test.YtfepllddlmhjiaaL1
import Derived.Test.YtfepllddlmhjiaaL2
namespace Go.Proofs.Ytfepllddlmhjiaa
set_option linter.unusedVariables false
set_option linter.unusedSimpArgs false
set_option maxRecDepth 100000
open Go.RowKit
noncomputable section
def laws_FnExactWhyNotClass (N : Nat) (x0 : Template) (x1 : Int) : Option Bool :=
 bnd (szq 1048576 (x0.sz)) fun z18 =>
 if (decide (z18 < 0)) then
  some true
 else
  bnd (toq (x0.sz)) fun z21 =>
  bnd (spec_WhyNotClass N x0 x1) fun z28 =>
  bnd (impl_WhyNotClass N x0 x1) fun z67 =>
  thn (σ := Bool) (
   if (z67.1 != z28.1) then  some (.nx true) else  bnd (eqq z67.2.1 z28.2.1) fun z108 =>
    if (!z108) then  some (.nx true) else  bnd (eqq z67.2.2.1 z28.2.2.1) fun z111 =>
     if (!z111) then  some (.nx true) else  some (.nx (z67.2.2.2 != z28.2.2.2))) fun s106 =>
  if s106 then
   some false
  else
   bnd (eqq x0 x0) fun z126 =>
   if (!z126) then
    some false
   else
    bnd (mkq 1 (x0.cnt)) fun z129 =>
    thn (σ := Bool) (
     if (decide (z129 < 0)) then  some (.nx true) else  if (z67.1 != z28.1) then  some (.nx true) else  bnd (eqq z67.2.1 z28.2.1) fun z147 =>
       if (!z147) then  some (.nx true) else  bnd (eqq z67.2.2.1 z28.2.2.1) fun z150 =>
        if (!z150) then  some (.nx true) else  some (.nx (z67.2.2.2 != z28.2.2.2))) fun s144 =>
    if s144 then
     some false
    else
     bnd (mkq 1 (cntS List.length z67.2.1)) fun z154 =>
     bnd (mkq z154 (cntS cI z67.2.2.1)) fun z158 =>
     if (decide (z154 < 0)) then
      some false
     else
      if (decide (z158 < 0)) then
       some false
      else
       if (z158 != z158) then
        some false
       else
        thn (σ := Bool) (
         if (z67.1 != z28.1) then  some (.nx true) else  bnd (eqq z67.2.1 z28.2.1) fun z210 =>
          if (!z210) then  some (.nx true) else  bnd (eqq z67.2.2.1 z28.2.2.1) fun z213 =>
           if (!z213) then  some (.nx true) else  some (.nx (z67.2.2.2 != z28.2.2.2))) fun s208 =>
        if s208 then
         some false
        else
         if (decide (z154 < 0)) then
          some false
         else
          if (decide (z158 < 0)) then
           some false
          else
           if (z158 != z158) then
            some false
           else
            some true
set_option maxHeartbeats 1000000 in
theorem laws_FnExactWhyNotClass_c {N : Nat} {x0 : Template} {x1 : Int} (r : Bool) (hR : laws_FnExactWhyNotClass N x0 x1 = some r) {v0 : Value} {b0 : List Nat} (w0 : World) (A0 : Rd (Agg 2 RTemplate) w0 v0 x0 b0) (hx1 : I64 x1) : Calls Try.prog 3 #[v0, .int .i64 x1] w0 (Says (.bool r) w0) := by
 unfold laws_FnExactWhyNotClass at hR
 refine x_enter (L := [(0, v0), (1, .int .i64 x1)]) Try.func3 rfl rfl rfl (sc rfl (sc rfl sn)) (fun a F => ?_)
 have hB := Below.refl w0.heap.size w0
 refine x_seq ?_
 refine x_reg ?_
 obtain ⟨v14, b15, e17, i13, h16, _⟩ := RTemplate.rd (A0.go hB)
 subst e17
 refine o_box F rfl rfl rfl (fun a w b11 K12 l BK12 F => ?_)
 have CK12 := Nat.le_trans hB.size BK12
 replace hB := Below.through l hB
 refine o_assign F rfl rfl (fun a F => ?_)
 refine x_end ?_
 refine x_tn ?_
 refine x_seq ?_
 refine x_reg ?_
 refine o_assign F rfl rfl (fun a F => ?_)
 refine x_end ?_
 refine x_tn ?_
 refine x_seq ?_
 refine x_reg ?_
 refine o_bloadA (cs := [.int .i64 x0.size, v14]) Try.isAgg24 Try.sizeOf24 F rfl rfl K12 rfl (fun j hj => by match j, hj with | 0, _ => rfl | 1, _ => rfl) (fun a F => ?_)
 refine o_move F rfl rfl (fun a F => ?_)
 obtain ⟨z18, c19, hR⟩ := bnd_some hR
 refine o_saysI F rfl Try.call4 rfl (szq_says c19 (fun h0 h1 => szTemplate_any _ _ _ _ _ (A0.go hB).r (A0.go hB).m h0 h1)) (fun a w l iz18 F => ?_)
 replace hB := Below.through l hB
 replace K12 := K12.thru l
 refine o_assign F rfl rfl (fun a F => ?_)
 refine x_end ?_
 refine x_tn ?_
 refine x_seq ?_
 refine x_seq ?_
 refine x_reg ?_
 refine o_move F rfl rfl (fun a F => ?_)
 refine o_lss F rfl rfl rfl (fun a F => ?_)
 refine x_end ?_
 refine x_tn ?_
 refine x_if F rfl (fun hb20 => ?_) (fun hb20 => ?_)
 ·
  replace hR := ifT hb20 hR
  refine x_seq ?_
  refine x_reg ?_
  refine o_assign F rfl rfl (fun a F => ?_)
  refine x_end ?_
  refine x_tn ?_
  refine x_ret ?_
  refine x_tr ?_
  refine x_res1 F rfl (rv_t F rfl) ?_
  obtain rfl := Option.some.inj hR
  exact ⟨rfl, hB⟩
 ·
  replace hR := ifF hb20 hR
  refine x_skip ?_
  refine x_tn ?_
  refine x_seq ?_
  refine x_reg ?_
  refine o_bloadA (cs := [.int .i64 x0.size, v14]) Try.isAgg24 Try.sizeOf24 F rfl rfl K12 rfl (fun j hj => by match j, hj with | 0, _ => rfl | 1, _ => rfl) (fun a F => ?_)
  obtain ⟨z21, c22, hR⟩ := bnd_some hR
  refine o_toA F rfl Try.call6 rfl (toTemplate_any _ _ _ _ (A0.go hB).r (A0.go hB).m (toq_some c22)) (fun a v23 b24 w l h25 o26 F => ?_)
  have d27 := Dj.new (inm1 K12) o26 (Nat.le_refl _)
  replace o26 := o26.mono hB.size
  replace hB := Below.through l hB
  replace K12 := K12.thru l
  refine o_move F rfl rfl (fun a F => ?_)
  obtain ⟨z28, c29, hR⟩ := bnd_some hR
  refine o_gives F rfl Try.call5 rfl (spec_WhyNotClass_c z28 c29 _ h25 hx1) (fun a vv w l ⟨v31, rb32, ib33, v36, rb37, hv41, i30, h34, ow35, h39, i40, dj42⟩ F => ?_)
  subst vv
  have o44 := h34.own ow35
  have h43 := h34.rd
  have o46 := h39.own (Own.nil _ _)
  have h45 := h39.rd
  have d47 := Dj.new (inm1 K12) o44 (Nat.le_refl _)
  replace o44 := o44.mono hB.size
  have d48 := Dj.new (inm1 K12) o46 (Nat.le_refl _)
  replace o46 := o46.mono hB.size
  replace hB := Below.through l hB
  replace K12 := K12.thru l
  refine o_move F rfl rfl (fun a F => ?_)
  refine o_extract F rfl rfl rfl (fun a F => ?_)
  refine o_extract F rfl rfl rfl (fun a F => ?_)
  refine o_extract F rfl rfl rfl (fun a F => ?_)
  refine o_extract F rfl rfl rfl (fun a F => ?_)
  refine o_assign F rfl rfl (fun a F => ?_)
  refine o_assign F rfl rfl (fun a F => ?_)
  refine o_assign F rfl rfl (fun a F => ?_)
  refine o_assign F rfl rfl (fun a F => ?_)
  refine x_end ?_
  refine x_tn ?_
  refine x_seq ?_
  refine x_reg ?_
  refine o_bloadA (cs := [.int .i64 x0.size, v14]) Try.isAgg24 Try.sizeOf24 F rfl rfl K12 rfl (fun j hj => by match j, hj with | 0, _ => rfl | 1, _ => rfl) (fun a F => ?_)
  refine o_toA F rfl Try.call6 rfl (toTemplate_any _ _ _ _ (A0.go hB).r (A0.go hB).m (toq_some c22)) (fun a v49 b50 w l h51 o52 F => ?_)
  have d53 := Dj.new h43.m o52 (Nat.le_refl _)
  have d54 := Dj.new h45.m o52 (Nat.le_refl _)
  have d55 := Dj.new (inm1 K12) o52 (Nat.le_refl _)
  replace o52 := o52.mono hB.size
  replace hB := Below.through l hB
  replace h43 := h43.go l
  replace o44 := o44.go l
  replace h45 := h45.go l
  replace o46 := o46.go l
  replace K12 := K12.thru l
  refine o_alloc Try.zeroValue32 F rfl rfl (fun a w b56 K57 l BK57 F => ?_)
  have nb58 := Dj.bb K12 BK57
  have d59 := (dj1 h43.m BK57).symm
  have d60 := (dj1 h45.m BK57).symm
  have d61 := (dj1 h51.m BK57).symm
  have CK57 := Nat.le_trans hB.size BK57
  replace hB := Below.through l hB
  replace h43 := h43.go l
  replace o44 := o44.go l
  replace h45 := h45.go l
  replace o46 := o46.go l
  replace h51 := h51.go l
  replace o52 := o52.go l
  replace K12 := K12.thru l
  obtain ⟨v63, b64, e66, i62, h65, _⟩ := RTemplate.rd h51
  subst e66
  refine o_bstoreA (vs := [.int .i64 x0.size, v63]) Try.sizeOf32 F rfl rfl rfl K57 (oc rfl (oc h65.r.one on)) (Nat.le_of_ble_eq_true rfl) rfl (fun w K57 l => ?_)
  replace hB := hB.o l (fun c hc => by rw [List.mem_singleton] at hc; rw [hc]; exact CK57) hB.size
  replace h43 := h43.goO l d59
  replace o44 := o44.goO l d59
  replace h45 := h45.goO l d60
  replace o46 := o46.goO l d60
  replace h51 := h51.goO l d61
  replace o52 := o52.goO l d61
  replace K12 := K12.only l (by simpa using nb58)
  refine x_end ?_
  refine x_tn ?_
  refine x_seq ?_
  refine x_reg ?_
  refine o_bloadA (cs := [.int .i64 x0.size, v63]) Try.isAgg32 Try.sizeOf32 F rfl rfl K57 rfl (fun j hj => by match j, hj with | 0, _ => rfl | 1, _ => rfl) (fun a F => ?_)
  refine o_move F rfl rfl (fun a F => ?_)
  obtain ⟨z67, c68, hR⟩ := bnd_some hR
  refine o_gives F rfl Try.call7 rfl (impl_WhyNotClass_c z67 c68 _ h51 hx1) (fun a vv w l ⟨v70, rb71, ib72, v75, rb76, hv80, i69, h73, ow74, h78, i79, dj81⟩ F => ?_)
  subst vv
  have o83 := h73.own ow74
  have h82 := h73.rd
  have o85 := h78.own (Own.nil _ _)
  have h84 := h78.rd
  have d86 := Dj.new h43.m o83 (Nat.le_refl _)
  have d87 := Dj.new h45.m o83 (Nat.le_refl _)
  have d88 := Dj.new h51.m o83 (Nat.le_refl _)
  have d89 := Dj.new (inm1 K12) o83 (Nat.le_refl _)
  have d90 := Dj.new (inm1 K57) o83 (Nat.le_refl _)
  replace o83 := o83.mono hB.size
  have d91 := Dj.new h43.m o85 (Nat.le_refl _)
  have d92 := Dj.new h45.m o85 (Nat.le_refl _)
  have d93 := Dj.new h51.m o85 (Nat.le_refl _)
  have d94 := Dj.new (inm1 K12) o85 (Nat.le_refl _)
  have d95 := Dj.new (inm1 K57) o85 (Nat.le_refl _)
  replace o85 := o85.mono hB.size
  replace hB := Below.through l hB
  replace h43 := h43.go l
  replace o44 := o44.go l
  replace h45 := h45.go l
  replace o46 := o46.go l
  replace h51 := h51.go l
  replace o52 := o52.go l
  replace K12 := K12.thru l
  replace K57 := K57.thru l
  refine o_move F rfl rfl (fun a F => ?_)
  refine o_extract F rfl rfl rfl (fun a F => ?_)
  refine o_extract F rfl rfl rfl (fun a F => ?_)
  refine o_extract F rfl rfl rfl (fun a F => ?_)
  refine o_extract F rfl rfl rfl (fun a F => ?_)
  refine o_assign F rfl rfl (fun a F => ?_)
  refine o_assign F rfl rfl (fun a F => ?_)
  refine o_assign F rfl rfl (fun a F => ?_)
  refine o_assign F rfl rfl (fun a F => ?_)
  refine x_end ?_
  refine x_tn ?_
  refine x_seq ?_
  refine x_seq ?_
  obtain ⟨o103, hR, hk104⟩ := thn_some hR
  refine x_cutQ (fun a w => ∃ (s106 : Bool), o103 = .nx s106 ∧ Sk a 159 [(1, .int .i64 x1), (2, .pointer (some ⟨b11, 0, none⟩)), (6, .int .i64 z28.1), (7, v31), (8, v36), (9, .int .i64 z28.2.2.2), (10, .pointer (some ⟨b56, 0, none⟩)), (11, .int .i64 z67.1), (12, v70), (13, v75), (14, .int .i64 z67.2.2.2), (65, .bool s106)] ∧ Below w0.heap.size w0 w ∧ Rd (Sl 1 (RSl 1 RInt)) w v31 z28.2.1 (rb32 ++ ib33) ∧ Own w0.heap.size (rb32 ++ ib33) w ∧ Rd (Sl 1 RInt) w v36 z28.2.2.1 (rb37 ++ []) ∧ Own w0.heap.size (rb37 ++ []) w ∧ Rd (Agg 2 RTemplate) w (.agg #[.int .i64 x0.size, v63]) x0 b50 ∧ Own w0.heap.size b50 w ∧ Rd (Sl 1 (RSl 1 RInt)) w v70 z67.2.1 (rb71 ++ ib72) ∧ Own w0.heap.size (rb71 ++ ib72) w ∧ Rd (Sl 1 RInt) w v75 z67.2.2.1 (rb76 ++ []) ∧ Own w0.heap.size (rb76 ++ []) w ∧ Blk w b11 #[.int .i64 x0.size, v14] 24 ∧ Blk w b56 #[.int .i64 x0.size, v63] 32) ?_ ?_
  ·
   refine x_reg ?_
   refine o_move F rfl rfl (fun a F => ?_)
   refine o_move F rfl rfl (fun a F => ?_)
   refine o_neq F rfl rfl rfl (fun a F => ?_)
   refine o_move F rfl rfl (fun a F => ?_)
   rcases bcases (z67.1 != z28.1) with hb107 | hb107
   ·
    replace hR := ifT hb107 hR
    have F := F.eq (t := 49) rfl (congrArg Value.bool hb107)
    refine o_no F rfl rfl (fun a F => ?_)
    refine o_no F rfl rfl (fun a F => ?_)
    refine o_no F rfl rfl (fun a F => ?_)
    refine o_no F rfl rfl (fun a F => ?_)
    refine o_pickt F rfl rfl rfl (fun a F => ?_)
    refine o_move F rfl rfl (fun a F => ?_)
    refine o_no F rfl rfl (fun a F => ?_)
    refine o_no F rfl rfl (fun a F => ?_)
    refine o_no F rfl rfl (fun a F => ?_)
    refine o_no F rfl rfl (fun a F => ?_)
    refine o_pickt F rfl rfl rfl (fun a F => ?_)
    refine o_move F rfl rfl (fun a F => ?_)
    refine o_no F rfl rfl (fun a F => ?_)
    refine o_no F rfl rfl (fun a F => ?_)
    refine o_no F rfl rfl (fun a F => ?_)
    refine o_pickt F rfl rfl rfl (fun a F => ?_)
    refine x_end ?_
    refine x_tn ?_
    exact ⟨true, (Option.some.inj hR).symm, F.sub (sc rfl (sc rfl (sc rfl (sc rfl (sc rfl (sc rfl (sc rfl (sc rfl (sc rfl (sc rfl (sc rfl (sc rfl sn)))))))))))), hB, h43, o44, h45, o46, h51, o52, h82, o83, h84, o85, K12, K57⟩
   ·
    replace hR := ifF hb107 hR
    have F := F.eq (t := 49) rfl (congrArg Value.bool hb107)
    refine o_move F rfl rfl (fun a F => ?_)
    refine o_move F rfl rfl (fun a F => ?_)
    obtain ⟨z108, c109, hR⟩ := bnd_some hR
    refine o_says F rfl Try.call8 rfl (eqq_says (fun y => Rd (Sl 1 RInts) _ _ y _) c109 h43 (fun hy => eqInt64SS_any _ _ _ _ _ _ h82.r hy.r h82.m hy.m)) (fun a w l F => ?_)
    replace hB := Below.through l hB
    replace h43 := h43.go l
    replace o44 := o44.go l
    replace h45 := h45.go l
    replace o46 := o46.go l
    replace h51 := h51.go l
    replace o52 := o52.go l
    replace h82 := h82.go l
    replace o83 := o83.go l
    replace h84 := h84.go l
    replace o85 := o85.go l
    replace K12 := K12.thru l
    replace K57 := K57.thru l
    refine o_not F rfl rfl (fun a F => ?_)
    refine o_pickf F rfl rfl rfl (fun a F => ?_)
    refine o_move F rfl rfl (fun a F => ?_)
    rcases bcases (!z108) with hb110 | hb110
    ·
     replace hR := ifT hb110 hR
     have F := F.eq (t := 55) rfl (congrArg Value.bool hb110)
     refine o_no F rfl rfl (fun a F => ?_)
     refine o_no F rfl rfl (fun a F => ?_)
     refine o_no F rfl rfl (fun a F => ?_)
     refine o_no F rfl rfl (fun a F => ?_)
     refine o_pickt F rfl rfl rfl (fun a F => ?_)
     refine o_move F rfl rfl (fun a F => ?_)
     refine o_no F rfl rfl (fun a F => ?_)
     refine o_no F rfl rfl (fun a F => ?_)
     refine o_no F rfl rfl (fun a F => ?_)
     refine o_pickt F rfl rfl rfl (fun a F => ?_)
     refine x_end ?_
     refine x_tn ?_
     exact ⟨true, (Option.some.inj hR).symm, F.sub (sc rfl (sc rfl (sc rfl (sc rfl (sc rfl (sc rfl (sc rfl (sc rfl (sc rfl (sc rfl (sc rfl (sc rfl sn)))))))))))), hB, h43, o44, h45, o46, h51, o52, h82, o83, h84, o85, K12, K57⟩
    ·
     replace hR := ifF hb110 hR
     have F := F.eq (t := 55) rfl (congrArg Value.bool hb110)
     refine o_move F rfl rfl (fun a F => ?_)
     refine o_move F rfl rfl (fun a F => ?_)
     obtain ⟨z111, c112, hR⟩ := bnd_some hR
     refine o_says F rfl Try.call9 rfl (eqq_says (fun y => Rd (Sl 1 RInt) _ _ y _) c112 h45 (fun hy => eqInt64S_any _ _ _ _ _ _ h84.r hy.r h84.m hy.m)) (fun a w l F => ?_)
     replace hB := Below.through l hB
     replace h43 := h43.go l
     replace o44 := o44.go l
     replace h45 := h45.go l
     replace o46 := o46.go l
     replace h51 := h51.go l
     replace o52 := o52.go l
     replace h82 := h82.go l
     replace o83 := o83.go l
     replace h84 := h84.go l
     replace o85 := o85.go l
     replace K12 := K12.thru l
     replace K57 := K57.thru l
     refine o_not F rfl rfl (fun a F => ?_)
     refine o_pickf F rfl rfl rfl (fun a F => ?_)
     refine o_move F rfl rfl (fun a F => ?_)
     rcases bcases (!z111) with hb113 | hb113
     ·
      replace hR := ifT hb113 hR
      have F := F.eq (t := 61) rfl (congrArg Value.bool hb113)
      refine o_no F rfl rfl (fun a F => ?_)
      refine o_no F rfl rfl (fun a F => ?_)
      refine o_no F rfl rfl (fun a F => ?_)
      refine o_pickt F rfl rfl rfl (fun a F => ?_)
      refine x_end ?_
      refine x_tn ?_
      exact ⟨true, (Option.some.inj hR).symm, F.sub (sc rfl (sc rfl (sc rfl (sc rfl (sc rfl (sc rfl (sc rfl (sc rfl (sc rfl (sc rfl (sc rfl (sc rfl sn)))))))))))), hB, h43, o44, h45, o46, h51, o52, h82, o83, h84, o85, K12, K57⟩
     ·
      replace hR := ifF hb113 hR
      have F := F.eq (t := 61) rfl (congrArg Value.bool hb113)
      refine o_move F rfl rfl (fun a F => ?_)
      refine o_move F rfl rfl (fun a F => ?_)
      refine o_neq F rfl rfl rfl (fun a F => ?_)
      refine o_pickf F rfl rfl rfl (fun a F => ?_)
      refine x_end ?_
      refine x_tn ?_
      exact ⟨(z67.2.2.2 != z28.2.2.2), (Option.some.inj hR).symm, F.sub (sc rfl (sc rfl (sc rfl (sc rfl (sc rfl (sc rfl (sc rfl (sc rfl (sc rfl (sc rfl (sc rfl (sc rfl sn)))))))))))), hB, h43, o44, h45, o46, h51, o52, h82, o83, h84, o85, K12, K57⟩
  ·
   intro a w ⟨s106, ho105, F, hB, h43, o44, h45, o46, h51, o52, h82, o83, h84, o85, K12, K57⟩
   subst ho105
   have hR := then_nx hk104
   refine x_tn ?_
   refine x_if F rfl (fun hb114 => ?_) (fun hb114 => ?_)
   ·
    replace hR := ifT hb114 hR
    refine x_seq ?_
    refine x_reg ?_
    refine o_assign F rfl rfl (fun a F => ?_)
    refine x_end ?_
    refine x_tn ?_
    refine x_ret ?_
    refine x_tr ?_
    refine x_res1 F rfl (rv_t F rfl) ?_
    obtain rfl := Option.some.inj hR
    exact ⟨rfl, hB⟩
   ·
    replace hR := ifF hb114 hR
    refine x_skip ?_
    refine x_tn ?_
    refine x_seq ?_
    refine x_seq ?_
    refine x_drawn (by kernel_rfl) (fun w l => ?_)
    replace hB := Below.through l hB
    replace h43 := h43.go l
    replace o44 := o44.go l
    replace h45 := h45.go l
    replace o46 := o46.go l
    replace h51 := h51.go l
    replace o52 := o52.go l
    replace h82 := h82.go l
    replace o83 := o83.go l
    replace h84 := h84.go l
    replace o85 := o85.go l
    replace K12 := K12.thru l
    replace K57 := K57.thru l
    refine b_q 0 (by kernel_rfl) rfl (by kernel_rfl) (by kernel_rfl) (by kernel_rfl) (by kernel_rfl) ?_
    refine v_val F rfl (fun w l => r_bloadA (cs := [.int .i64 x0.size, v63]) Try.isAgg32 Try.sizeOf32 F rfl (K57.thru l) rfl (fun j hj => by match j, hj with | 0, _ => rfl | 1, _ => rfl)) (fun a F => ?_)
    refine b_q 1 (by kernel_rfl) rfl (by kernel_rfl) (by kernel_rfl) (by kernel_rfl) (by kernel_rfl) ?_
    refine v_val F rfl (fun w l => r_bloadA (cs := [.int .i64 x0.size, v14]) Try.isAgg24 Try.sizeOf24 F rfl (K12.thru l) rfl (fun j hj => by match j, hj with | 0, _ => rfl | 1, _ => rfl)) (fun a F => ?_)
    refine b_e 2 rfl (by kernel_rfl) ?_
    refine o_toA F rfl Try.call6 rfl (toTemplate_any _ _ _ _ (A0.go hB).r (A0.go hB).m (toq_some c22)) (fun a v115 b116 w l h117 o118 F => ?_)
    have d119 := Dj.new h43.m o118 (Nat.le_refl _)
    have d120 := Dj.new h45.m o118 (Nat.le_refl _)
    have d121 := Dj.new h51.m o118 (Nat.le_refl _)
    have d122 := Dj.new h82.m o118 (Nat.le_refl _)
    have d123 := Dj.new h84.m o118 (Nat.le_refl _)
    have d124 := Dj.new (inm1 K12) o118 (Nat.le_refl _)
    have d125 := Dj.new (inm1 K57) o118 (Nat.le_refl _)
    replace o118 := o118.mono hB.size
    replace hB := Below.through l hB
    replace h43 := h43.go l
    replace o44 := o44.go l
    replace h45 := h45.go l
    replace o46 := o46.go l
    replace h51 := h51.go l
    replace o52 := o52.go l
    replace h82 := h82.go l
    replace o83 := o83.go l
    replace h84 := h84.go l
    replace o85 := o85.go l
    replace K12 := K12.thru l
    replace K57 := K57.thru l
    refine x_end ?_
    refine x_tn ?_
    refine ⟨.inl l, ?_⟩
    refine b_e 3 rfl (by kernel_rfl) ?_
    obtain ⟨z126, c127, hR⟩ := bnd_some hR
    refine o_says F rfl Try.call10 rfl (eqq_says (fun y => Rd (Agg 2 RTemplate) _ _ y _) c127 h117 (fun hy => eqTemplate_any _ _ _ _ _ _ h51.r hy.r h51.m hy.m)) (fun a w l F => ?_)
    replace hB := Below.through l hB
    replace h43 := h43.go l
    replace o44 := o44.go l
    replace h45 := h45.go l
    replace o46 := o46.go l
    replace h51 := h51.go l
    replace o52 := o52.go l
    replace h82 := h82.go l
    replace o83 := o83.go l
    replace h84 := h84.go l
    replace o85 := o85.go l
    replace K12 := K12.thru l
    replace K57 := K57.thru l
    refine x_end ?_
    refine x_tn ?_
    refine ⟨.inl l, ?_⟩
    refine b_q 4 (by kernel_rfl) rfl (by kernel_rfl) (by kernel_rfl) (by kernel_rfl) (by kernel_rfl) ?_
    refine v_val F rfl (fun w l => r_not F rfl) (fun a F => ?_)
    refine b_end (by kernel_rfl) ?_
    refine x_tn ?_
    refine x_if F rfl (fun hb128 => ?_) (fun hb128 => ?_)
    ·
     replace hR := ifT hb128 hR
     refine x_seq ?_
     refine x_reg ?_
     refine o_assign F rfl rfl (fun a F => ?_)
     refine x_end ?_
     refine x_tn ?_
     refine x_ret ?_
     refine x_tr ?_
     refine x_res1 F rfl (rv_t F rfl) ?_
     obtain rfl := Option.some.inj hR
     exact ⟨rfl, hB⟩
    ·
     replace hR := ifF hb128 hR
     refine x_skip ?_
     refine x_tn ?_
     refine x_seq ?_
     refine x_reg ?_
     refine o_assign F rfl rfl (fun a F => ?_)
     refine x_end ?_
     refine x_tn ?_
     refine x_seq ?_
     refine x_reg ?_
     refine o_bloadA (cs := [.int .i64 x0.size, v63]) Try.isAgg32 Try.sizeOf32 F rfl rfl K57 rfl (fun j hj => by match j, hj with | 0, _ => rfl | 1, _ => rfl) (fun a F => ?_)
     refine o_move F rfl rfl (fun a F => ?_)
     obtain ⟨z129, c130, hR⟩ := bnd_some hR
     refine o_markA F rfl Try.call11 rfl (mkq_markA c130 (fun h0 h1 => markTemplate_any _ _ _ _ _ _ h51.r o52 h0 h1)) (fun a w l h131 o132 F => ?_)
     replace h43 := h43.goO l d53
     replace o44 := o44.goO l d53
     replace h45 := h45.goO l d54
     replace o46 := o46.goO l d54
     replace h82 := h82.goO l (Dj.symm d88)
     replace o83 := o83.goO l (Dj.symm d88)
     replace h84 := h84.goO l (Dj.symm d93)
     replace o85 := o85.goO l (Dj.symm d93)
     replace K12 := K12.only l (Dj.in1 d55)
     replace hB := hB.o l (Own.lo o52) hB.size
     have iz129 := mkq_i c130
     refine o_assign F rfl rfl (fun a F => ?_)
     refine x_end ?_
     refine x_tn ?_
     refine x_seq ?_
     refine x_seq ?_
     obtain ⟨o141, hR, hk142⟩ := thn_some hR
     refine x_cutQ (fun a w => ∃ (s144 : Bool), o141 = .nx s144 ∧ Sk a 159 [(1, .int .i64 x1), (2, .pointer (some ⟨b11, 0, none⟩)), (6, .int .i64 z28.1), (7, v31), (8, v36), (9, .int .i64 z28.2.2.2), (12, v70), (13, v75), (97, .bool s144)] ∧ Below w0.heap.size w0 w ∧ Rd (Sl 1 (RSl 1 RInt)) w v31 z28.2.1 (rb32 ++ ib33) ∧ Own w0.heap.size (rb32 ++ ib33) w ∧ Rd (Sl 1 RInt) w v36 z28.2.2.1 (rb37 ++ []) ∧ Own w0.heap.size (rb37 ++ []) w ∧ Rd (Sl 1 (RSl 1 RInt)) w v70 z67.2.1 (rb71 ++ ib72) ∧ Own w0.heap.size (rb71 ++ ib72) w ∧ Rd (Sl 1 RInt) w v75 z67.2.2.1 (rb76 ++ []) ∧ Own w0.heap.size (rb76 ++ []) w ∧ Blk w b11 #[.int .i64 x0.size, v14] 24) ?_ ?_
     ·
      refine x_reg ?_
      refine o_move F rfl rfl (fun a F => ?_)
      refine o_lss F rfl rfl rfl (fun a F => ?_)
      refine o_move F rfl rfl (fun a F => ?_)
      rcases bcases (decide (z129 < 0)) with hb145 | hb145
      ·
       replace hR := ifT hb145 hR
       have F := F.eq (t := 76) rfl (congrArg Value.bool hb145)
       refine o_no F rfl rfl (fun a F => ?_)
       refine o_no F rfl rfl (fun a F => ?_)
       refine o_no F rfl rfl (fun a F => ?_)
       refine o_pickt F rfl rfl rfl (fun a F => ?_)
       refine o_move F rfl rfl (fun a F => ?_)
       refine o_no F rfl rfl (fun a F => ?_)
       refine o_no F rfl rfl (fun a F => ?_)
       refine o_no F rfl rfl (fun a F => ?_)
       refine o_no F rfl rfl (fun a F => ?_)
       refine o_pickt F rfl rfl rfl (fun a F => ?_)
       refine o_move F rfl rfl (fun a F => ?_)
       refine o_no F rfl rfl (fun a F => ?_)
       refine o_no F rfl rfl (fun a F => ?_)
       refine o_no F rfl rfl (fun a F => ?_)
       refine o_no F rfl rfl (fun a F => ?_)
       refine o_pickt F rfl rfl rfl (fun a F => ?_)
       refine o_move F rfl rfl (fun a F => ?_)
       refine o_no F rfl rfl (fun a F => ?_)
       refine o_no F rfl rfl (fun a F => ?_)
       refine o_no F rfl rfl (fun a F => ?_)
       refine o_pickt F rfl rfl rfl (fun a F => ?_)
       refine x_end ?_
       refine x_tn ?_
       exact ⟨true, (Option.some.inj hR).symm, F.sub (sc rfl (sc rfl (sc rfl (sc rfl (sc rfl (sc rfl (sc rfl (sc rfl (sc rfl sn))))))))), hB, h43, o44, h45, o46, h82, o83, h84, o85, K12⟩
      ·
       replace hR := ifF hb145 hR
       have F := F.eq (t := 76) rfl (congrArg Value.bool hb145)
       refine o_move F rfl rfl (fun a F => ?_)
       refine o_move F rfl rfl (fun a F => ?_)
       refine o_neq F rfl rfl rfl (fun a F => ?_)
       refine o_pickf F rfl rfl rfl (fun a F => ?_)
       refine o_move F rfl rfl (fun a F => ?_)
       rcases bcases (z67.1 != z28.1) with hb146 | hb146
       ·
        replace hR := ifT hb146 hR
        have F := F.eq (t := 81) rfl (congrArg Value.bool hb146)
        refine o_no F rfl rfl (fun a F => ?_)
        refine o_no F rfl rfl (fun a F => ?_)
        refine o_no F rfl rfl (fun a F => ?_)
        refine o_no F rfl rfl (fun a F => ?_)
        refine o_pickt F rfl rfl rfl (fun a F => ?_)
        refine o_move F rfl rfl (fun a F => ?_)
        refine o_no F rfl rfl (fun a F => ?_)
        refine o_no F rfl rfl (fun a F => ?_)
        refine o_no F rfl rfl (fun a F => ?_)
        refine o_no F rfl rfl (fun a F => ?_)
        refine o_pickt F rfl rfl rfl (fun a F => ?_)
        refine o_move F rfl rfl (fun a F => ?_)
        refine o_no F rfl rfl (fun a F => ?_)
        refine o_no F rfl rfl (fun a F => ?_)
        refine o_no F rfl rfl (fun a F => ?_)
        refine o_pickt F rfl rfl rfl (fun a F => ?_)
        refine x_end ?_
        refine x_tn ?_
        exact ⟨true, (Option.some.inj hR).symm, F.sub (sc rfl (sc rfl (sc rfl (sc rfl (sc rfl (sc rfl (sc rfl (sc rfl (sc rfl sn))))))))), hB, h43, o44, h45, o46, h82, o83, h84, o85, K12⟩
       ·
        replace hR := ifF hb146 hR
        have F := F.eq (t := 81) rfl (congrArg Value.bool hb146)
        refine o_move F rfl rfl (fun a F => ?_)
        refine o_move F rfl rfl (fun a F => ?_)
        obtain ⟨z147, c148, hR⟩ := bnd_some hR
        refine o_says F rfl Try.call8 rfl (eqq_says (fun y => Rd (Sl 1 RInts) _ _ y _) c148 h43 (fun hy => eqInt64SS_any _ _ _ _ _ _ h82.r hy.r h82.m hy.m)) (fun a w l F => ?_)
        replace hB := Below.through l hB
        replace h43 := h43.go l
        replace o44 := o44.go l
        replace h45 := h45.go l
        replace o46 := o46.go l
        replace h82 := h82.go l
        replace o83 := o83.go l
        replace h84 := h84.go l
        replace o85 := o85.go l
        replace K12 := K12.thru l
        refine o_not F rfl rfl (fun a F => ?_)
        refine o_pickf F rfl rfl rfl (fun a F => ?_)
        refine o_move F rfl rfl (fun a F => ?_)
        rcases bcases (!z147) with hb149 | hb149
        ·
         replace hR := ifT hb149 hR
         have F := F.eq (t := 87) rfl (congrArg Value.bool hb149)
         refine o_no F rfl rfl (fun a F => ?_)
         refine o_no F rfl rfl (fun a F => ?_)
         refine o_no F rfl rfl (fun a F => ?_)
         refine o_no F rfl rfl (fun a F => ?_)
         refine o_pickt F rfl rfl rfl (fun a F => ?_)
         refine o_move F rfl rfl (fun a F => ?_)
         refine o_no F rfl rfl (fun a F => ?_)
         refine o_no F rfl rfl (fun a F => ?_)
         refine o_no F rfl rfl (fun a F => ?_)
         refine o_pickt F rfl rfl rfl (fun a F => ?_)
         refine x_end ?_
         refine x_tn ?_
         exact ⟨true, (Option.some.inj hR).symm, F.sub (sc rfl (sc rfl (sc rfl (sc rfl (sc rfl (sc rfl (sc rfl (sc rfl (sc rfl sn))))))))), hB, h43, o44, h45, o46, h82, o83, h84, o85, K12⟩
        ·
         replace hR := ifF hb149 hR
         have F := F.eq (t := 87) rfl (congrArg Value.bool hb149)
         refine o_move F rfl rfl (fun a F => ?_)
         refine o_move F rfl rfl (fun a F => ?_)
         obtain ⟨z150, c151, hR⟩ := bnd_some hR
         refine o_says F rfl Try.call9 rfl (eqq_says (fun y => Rd (Sl 1 RInt) _ _ y _) c151 h45 (fun hy => eqInt64S_any _ _ _ _ _ _ h84.r hy.r h84.m hy.m)) (fun a w l F => ?_)
         replace hB := Below.through l hB
         replace h43 := h43.go l
         replace o44 := o44.go l
         replace h45 := h45.go l
         replace o46 := o46.go l
         replace h82 := h82.go l
         replace o83 := o83.go l
         replace h84 := h84.go l
         replace o85 := o85.go l
         replace K12 := K12.thru l
         refine o_not F rfl rfl (fun a F => ?_)
         refine o_pickf F rfl rfl rfl (fun a F => ?_)
         refine o_move F rfl rfl (fun a F => ?_)
         rcases bcases (!z150) with hb152 | hb152
         ·
          replace hR := ifT hb152 hR
          have F := F.eq (t := 93) rfl (congrArg Value.bool hb152)
          refine o_no F rfl rfl (fun a F => ?_)
          refine o_no F rfl rfl (fun a F => ?_)
          refine o_no F rfl rfl (fun a F => ?_)
          refine o_pickt F rfl rfl rfl (fun a F => ?_)
          refine x_end ?_
          refine x_tn ?_
          exact ⟨true, (Option.some.inj hR).symm, F.sub (sc rfl (sc rfl (sc rfl (sc rfl (sc rfl (sc rfl (sc rfl (sc rfl (sc rfl sn))))))))), hB, h43, o44, h45, o46, h82, o83, h84, o85, K12⟩
         ·
          replace hR := ifF hb152 hR
          have F := F.eq (t := 93) rfl (congrArg Value.bool hb152)
          refine o_move F rfl rfl (fun a F => ?_)
          refine o_move F rfl rfl (fun a F => ?_)
          refine o_neq F rfl rfl rfl (fun a F => ?_)
          refine o_pickf F rfl rfl rfl (fun a F => ?_)
          refine x_end ?_
          refine x_tn ?_
          exact ⟨(z67.2.2.2 != z28.2.2.2), (Option.some.inj hR).symm, F.sub (sc rfl (sc rfl (sc rfl (sc rfl (sc rfl (sc rfl (sc rfl (sc rfl (sc rfl sn))))))))), hB, h43, o44, h45, o46, h82, o83, h84, o85, K12⟩
     ·
      intro a w ⟨s144, ho143, F, hB, h43, o44, h45, o46, h82, o83, h84, o85, K12⟩
      subst ho143
      have hR := then_nx hk142
      refine x_tn ?_
      refine x_if F rfl (fun hb153 => ?_) (fun hb153 => ?_)
      ·
       replace hR := ifT hb153 hR
       refine x_seq ?_
       refine x_reg ?_
       refine o_assign F rfl rfl (fun a F => ?_)
       refine x_end ?_
       refine x_tn ?_
       refine x_ret ?_
       refine x_tr ?_
       refine x_res1 F rfl (rv_t F rfl) ?_
       obtain rfl := Option.some.inj hR
       exact ⟨rfl, hB⟩
      ·
       replace hR := ifF hb153 hR
       refine x_skip ?_
       refine x_tn ?_
       refine x_seq ?_
       refine x_reg ?_
       refine o_assign F rfl rfl (fun a F => ?_)
       refine x_end ?_
       refine x_tn ?_
       refine x_seq ?_
       refine x_reg ?_
       refine o_move F rfl rfl (fun a F => ?_)
       refine o_move F rfl rfl (fun a F => ?_)
       obtain ⟨z154, c155, hR⟩ := bnd_some hR
       refine o_markS F rfl Try.call12 rfl (mkq_markS c155 (fun h0 h1 => markInt64SS_any _ _ _ _ _ _ h82.r o83 h0 h1)) (fun a w l h156 o157 F => ?_)
       replace h43 := h43.goO l d86
       replace o44 := o44.goO l d86
       replace h45 := h45.goO l d87
       replace o46 := o46.goO l d87
       replace h84 := h84.goO l (Dj.symm dj81)
       replace o85 := o85.goO l (Dj.symm dj81)
       replace K12 := K12.only l (Dj.in1 d89)
       replace hB := hB.o l (Own.lo o83) hB.size
       have iz154 := mkq_i c155
       refine o_assign F rfl rfl (fun a F => ?_)
       refine x_end ?_
       refine x_tn ?_
       refine x_seq ?_
       refine x_reg ?_
       refine o_move F rfl rfl (fun a F => ?_)
       refine o_move F rfl rfl (fun a F => ?_)
       obtain ⟨z158, c159, hR⟩ := bnd_some hR
       refine o_markS F rfl Try.call13 rfl (mkq_markS c159 (fun h0 h1 => markInt64S_any _ _ _ _ _ _ h84.r o85 h0 h1)) (fun a w l h160 o161 F => ?_)
       replace h43 := h43.goO l d91
       replace o44 := o44.goO l d91
       replace h45 := h45.goO l d92
       replace o46 := o46.goO l d92
       replace h156 := h156.goO l dj81
       replace o157 := o157.goO l dj81
       replace K12 := K12.only l (Dj.in1 d94)
       replace hB := hB.o l (Own.lo o85) hB.size
       have iz158 := mkq_i c159
       refine o_assign F rfl rfl (fun a F => ?_)
       refine x_end ?_
       refine x_tn ?_
       refine x_seq ?_
       refine x_reg ?_
       refine o_assign F rfl rfl (fun a F => ?_)
       refine x_end ?_
       refine x_tn ?_
       refine x_seq ?_
       refine x_reg ?_
       refine o_move F rfl rfl (fun a F => ?_)
       refine o_move F rfl rfl (fun a F => ?_)
       refine o_saysI F rfl Try.call14 rfl (mkq_says c155 (fun h0 h1 => heldInt64SS_any _ _ _ _ _ h156.r h156.m h0 h1)) (fun a w l iz154 F => ?_)
       replace hB := Below.through l hB
       replace h43 := h43.go l
       replace o44 := o44.go l
       replace h45 := h45.go l
       replace o46 := o46.go l
       replace h156 := h156.go l
       replace o157 := o157.go l
       replace h160 := h160.go l
       replace o161 := o161.go l
       replace K12 := K12.thru l
       refine o_assign F rfl rfl (fun a F => ?_)
       refine x_end ?_
       refine x_tn ?_
       refine x_seq ?_
       refine x_seq ?_
       refine x_reg ?_
       refine o_move F rfl rfl (fun a F => ?_)
       refine o_lss F rfl rfl rfl (fun a F => ?_)
       refine x_end ?_
       refine x_tn ?_
       refine x_if F rfl (fun hb162 => ?_) (fun hb162 => ?_)
       ·
        replace hR := ifT hb162 hR
        refine x_seq ?_
        refine x_reg ?_
        refine o_assign F rfl rfl (fun a F => ?_)
        refine x_end ?_
        refine x_tn ?_
        refine x_ret ?_
        refine x_tr ?_
        refine x_res1 F rfl (rv_t F rfl) ?_
        obtain rfl := Option.some.inj hR
        exact ⟨rfl, hB⟩
       ·
        replace hR := ifF hb162 hR
        refine x_skip ?_
        refine x_tn ?_
        refine x_seq ?_
        refine x_reg ?_
        refine o_move F rfl rfl (fun a F => ?_)
        refine o_move F rfl rfl (fun a F => ?_)
        refine o_saysI F rfl Try.call15 rfl (mkq_says c159 (fun h0 h1 => heldInt64S_any _ _ _ _ _ h160.r h160.m h0 h1)) (fun a w l iz158 F => ?_)
        replace hB := Below.through l hB
        replace h43 := h43.go l
        replace o44 := o44.go l
        replace h45 := h45.go l
        replace o46 := o46.go l
        replace h156 := h156.go l
        replace o157 := o157.go l
        replace h160 := h160.go l
        replace o161 := o161.go l
        replace K12 := K12.thru l
        refine o_assign F rfl rfl (fun a F => ?_)
        refine x_end ?_
        refine x_tn ?_
        refine x_seq ?_
        refine x_seq ?_
        refine x_reg ?_
        refine o_move F rfl rfl (fun a F => ?_)
        refine o_lss F rfl rfl rfl (fun a F => ?_)
        refine x_end ?_
        refine x_tn ?_
        refine x_if F rfl (fun hb163 => ?_) (fun hb163 => ?_)
        ·
         replace hR := ifT hb163 hR
         refine x_seq ?_
         refine x_reg ?_
         refine o_assign F rfl rfl (fun a F => ?_)
         refine x_end ?_
         refine x_tn ?_
         refine x_ret ?_
         refine x_tr ?_
         refine x_res1 F rfl (rv_t F rfl) ?_
         obtain rfl := Option.some.inj hR
         exact ⟨rfl, hB⟩
        ·
         replace hR := ifF hb163 hR
         refine x_skip ?_
         refine x_tn ?_
         refine x_seq ?_
         refine x_seq ?_
         refine x_reg ?_
         refine o_move F rfl rfl (fun a F => ?_)
         refine o_move F rfl rfl (fun a F => ?_)
         refine o_neq F rfl rfl rfl (fun a F => ?_)
         refine x_end ?_
         refine x_tn ?_
         refine x_if F rfl (fun hb164 => ?_) (fun hb164 => ?_)
         ·
          replace hR := ifT hb164 hR
          refine x_seq ?_
          refine x_reg ?_
          refine o_assign F rfl rfl (fun a F => ?_)
          refine x_end ?_
          refine x_tn ?_
          refine x_ret ?_
          refine x_tr ?_
          refine x_res1 F rfl (rv_t F rfl) ?_
          obtain rfl := Option.some.inj hR
          exact ⟨rfl, hB⟩
         ·
          replace hR := ifF hb164 hR
          refine x_skip ?_
          refine x_tn ?_
          refine x_seq ?_
          refine x_reg ?_
          refine o_bloadA (cs := [.int .i64 x0.size, v14]) Try.isAgg24 Try.sizeOf24 F rfl rfl K12 rfl (fun j hj => by match j, hj with | 0, _ => rfl | 1, _ => rfl) (fun a F => ?_)
          refine o_toA F rfl Try.call6 rfl (toTemplate_any _ _ _ _ (A0.go hB).r (A0.go hB).m (toq_some c22)) (fun a v165 b166 w l h167 o168 F => ?_)
          have d169 := Dj.new h43.m o168 (Nat.le_refl _)
          have d170 := Dj.new h45.m o168 (Nat.le_refl _)
          have d171 := Dj.new h156.m o168 (Nat.le_refl _)
          have d172 := Dj.new h160.m o168 (Nat.le_refl _)
          replace o168 := o168.mono hB.size
          replace hB := Below.through l hB
          replace h43 := h43.go l
          replace o44 := o44.go l
          replace h45 := h45.go l
          replace o46 := o46.go l
          replace h156 := h156.go l
          replace o157 := o157.go l
          replace h160 := h160.go l
          replace o161 := o161.go l
          refine o_move F rfl rfl (fun a F => ?_)
          refine o_gives F rfl Try.call7 rfl (impl_WhyNotClass_c z67 c68 _ h167 hx1) (fun a vv w l ⟨v174, rb175, ib176, v179, rb180, hv184, i173, h177, ow178, h182, i183, dj185⟩ F => ?_)
          subst vv
          have o187 := h177.own ow178
          have h186 := h177.rd
          have o189 := h182.own (Own.nil _ _)
          have h188 := h182.rd
          have d190 := Dj.new h43.m o187 (Nat.le_refl _)
          have d191 := Dj.new h45.m o187 (Nat.le_refl _)
          have d192 := Dj.new h156.m o187 (Nat.le_refl _)
          have d193 := Dj.new h160.m o187 (Nat.le_refl _)
          replace o187 := o187.mono hB.size
          have d194 := Dj.new h43.m o189 (Nat.le_refl _)
          have d195 := Dj.new h45.m o189 (Nat.le_refl _)
          have d196 := Dj.new h156.m o189 (Nat.le_refl _)
          have d197 := Dj.new h160.m o189 (Nat.le_refl _)
          replace o189 := o189.mono hB.size
          replace hB := Below.through l hB
          replace h43 := h43.go l
          replace o44 := o44.go l
          replace h45 := h45.go l
          replace o46 := o46.go l
          replace h156 := h156.go l
          replace o157 := o157.go l
          replace h160 := h160.go l
          replace o161 := o161.go l
          refine o_move F rfl rfl (fun a F => ?_)
          refine o_extract F rfl rfl rfl (fun a F => ?_)
          refine o_extract F rfl rfl rfl (fun a F => ?_)
          refine o_extract F rfl rfl rfl (fun a F => ?_)
          refine o_extract F rfl rfl rfl (fun a F => ?_)
          refine o_assign F rfl rfl (fun a F => ?_)
          refine o_assign F rfl rfl (fun a F => ?_)
          refine o_assign F rfl rfl (fun a F => ?_)
          refine o_assign F rfl rfl (fun a F => ?_)
          refine x_end ?_
          refine x_tn ?_
          refine x_seq ?_
          refine x_seq ?_
          obtain ⟨o205, hR, hk206⟩ := thn_some hR
          refine x_cutQ (fun a w => ∃ (s208 : Bool), o205 = .nx s208 ∧ Sk a 159 [(12, v70), (13, v75), (16, .int .i64 z158), (145, .bool s208)] ∧ Below w0.heap.size w0 w ∧ Rd (Sl 1 RInts) w v70 (mkS mkInts List.length z67.2.1 1) (rb71 ++ ib72) ∧ Own w0.heap.size (rb71 ++ ib72) w ∧ Rd (Sl 1 RInt) w v75 (mkS mkI cI z67.2.2.1 z154) (rb76 ++ []) ∧ Own w0.heap.size (rb76 ++ []) w) ?_ ?_
          ·
           refine x_reg ?_
           refine o_move F rfl rfl (fun a F => ?_)
           refine o_move F rfl rfl (fun a F => ?_)
           refine o_neq F rfl rfl rfl (fun a F => ?_)
           refine o_move F rfl rfl (fun a F => ?_)
           rcases bcases (z67.1 != z28.1) with hb209 | hb209
           ·
            replace hR := ifT hb209 hR
            have F := F.eq (t := 129) rfl (congrArg Value.bool hb209)
            refine o_no F rfl rfl (fun a F => ?_)
            refine o_no F rfl rfl (fun a F => ?_)
            refine o_no F rfl rfl (fun a F => ?_)
            refine o_no F rfl rfl (fun a F => ?_)
            refine o_pickt F rfl rfl rfl (fun a F => ?_)
            refine o_move F rfl rfl (fun a F => ?_)
            refine o_no F rfl rfl (fun a F => ?_)
            refine o_no F rfl rfl (fun a F => ?_)
            refine o_no F rfl rfl (fun a F => ?_)
            refine o_no F rfl rfl (fun a F => ?_)
            refine o_pickt F rfl rfl rfl (fun a F => ?_)
            refine o_move F rfl rfl (fun a F => ?_)
            refine o_no F rfl rfl (fun a F => ?_)
            refine o_no F rfl rfl (fun a F => ?_)
            refine o_no F rfl rfl (fun a F => ?_)
            refine o_pickt F rfl rfl rfl (fun a F => ?_)
            refine x_end ?_
            refine x_tn ?_
            exact ⟨true, (Option.some.inj hR).symm, F.sub (sc rfl (sc rfl (sc rfl (sc rfl sn)))), hB, h156, o157, h160, o161⟩
           ·
            replace hR := ifF hb209 hR
            have F := F.eq (t := 129) rfl (congrArg Value.bool hb209)
            refine o_move F rfl rfl (fun a F => ?_)
            refine o_move F rfl rfl (fun a F => ?_)
            obtain ⟨z210, c211, hR⟩ := bnd_some hR
            refine o_says F rfl Try.call8 rfl (eqq_says (fun y => Rd (Sl 1 RInts) _ _ y _) c211 h43 (fun hy => eqInt64SS_any _ _ _ _ _ _ h186.r hy.r h186.m hy.m)) (fun a w l F => ?_)
            replace hB := Below.through l hB
            replace h45 := h45.go l
            replace o46 := o46.go l
            replace h156 := h156.go l
            replace o157 := o157.go l
            replace h160 := h160.go l
            replace o161 := o161.go l
            replace h188 := h188.go l
            replace o189 := o189.go l
            refine o_not F rfl rfl (fun a F => ?_)
            refine o_pickf F rfl rfl rfl (fun a F => ?_)
            refine o_move F rfl rfl (fun a F => ?_)
            rcases bcases (!z210) with hb212 | hb212
            ·
             replace hR := ifT hb212 hR
             have F := F.eq (t := 135) rfl (congrArg Value.bool hb212)
             refine o_no F rfl rfl (fun a F => ?_)
             refine o_no F rfl rfl (fun a F => ?_)
             refine o_no F rfl rfl (fun a F => ?_)
             refine o_no F rfl rfl (fun a F => ?_)
             refine o_pickt F rfl rfl rfl (fun a F => ?_)
             refine o_move F rfl rfl (fun a F => ?_)
             refine o_no F rfl rfl (fun a F => ?_)
             refine o_no F rfl rfl (fun a F => ?_)
             refine o_no F rfl rfl (fun a F => ?_)
             refine o_pickt F rfl rfl rfl (fun a F => ?_)
             refine x_end ?_
             refine x_tn ?_
             exact ⟨true, (Option.some.inj hR).symm, F.sub (sc rfl (sc rfl (sc rfl (sc rfl sn)))), hB, h156, o157, h160, o161⟩
            ·
             replace hR := ifF hb212 hR
             have F := F.eq (t := 135) rfl (congrArg Value.bool hb212)
             refine o_move F rfl rfl (fun a F => ?_)
             refine o_move F rfl rfl (fun a F => ?_)
             obtain ⟨z213, c214, hR⟩ := bnd_some hR
             refine o_says F rfl Try.call9 rfl (eqq_says (fun y => Rd (Sl 1 RInt) _ _ y _) c214 h45 (fun hy => eqInt64S_any _ _ _ _ _ _ h188.r hy.r h188.m hy.m)) (fun a w l F => ?_)
             replace hB := Below.through l hB
             replace h156 := h156.go l
             replace o157 := o157.go l
             replace h160 := h160.go l
             replace o161 := o161.go l
             refine o_not F rfl rfl (fun a F => ?_)
             refine o_pickf F rfl rfl rfl (fun a F => ?_)
             refine o_move F rfl rfl (fun a F => ?_)
             rcases bcases (!z213) with hb215 | hb215
             ·
              replace hR := ifT hb215 hR
              have F := F.eq (t := 141) rfl (congrArg Value.bool hb215)
              refine o_no F rfl rfl (fun a F => ?_)
              refine o_no F rfl rfl (fun a F => ?_)
              refine o_no F rfl rfl (fun a F => ?_)
              refine o_pickt F rfl rfl rfl (fun a F => ?_)
              refine x_end ?_
              refine x_tn ?_
              exact ⟨true, (Option.some.inj hR).symm, F.sub (sc rfl (sc rfl (sc rfl (sc rfl sn)))), hB, h156, o157, h160, o161⟩
             ·
              replace hR := ifF hb215 hR
              have F := F.eq (t := 141) rfl (congrArg Value.bool hb215)
              refine o_move F rfl rfl (fun a F => ?_)
              refine o_move F rfl rfl (fun a F => ?_)
              refine o_neq F rfl rfl rfl (fun a F => ?_)
              refine o_pickf F rfl rfl rfl (fun a F => ?_)
              refine x_end ?_
              refine x_tn ?_
              exact ⟨(z67.2.2.2 != z28.2.2.2), (Option.some.inj hR).symm, F.sub (sc rfl (sc rfl (sc rfl (sc rfl sn)))), hB, h156, o157, h160, o161⟩
          ·
           intro a w ⟨s208, ho207, F, hB, h156, o157, h160, o161⟩
           subst ho207
           have hR := then_nx hk206
           refine x_tn ?_
           refine x_if F rfl (fun hb216 => ?_) (fun hb216 => ?_)
           ·
            replace hR := ifT hb216 hR
            refine x_seq ?_
            refine x_reg ?_
            refine o_assign F rfl rfl (fun a F => ?_)
            refine x_end ?_
            refine x_tn ?_
            refine x_ret ?_
            refine x_tr ?_
            refine x_res1 F rfl (rv_t F rfl) ?_
            obtain rfl := Option.some.inj hR
            exact ⟨rfl, hB⟩
           ·
            replace hR := ifF hb216 hR
            refine x_skip ?_
            refine x_tn ?_
            refine x_seq ?_
            refine x_reg ?_
            refine o_assign F rfl rfl (fun a F => ?_)
            refine x_end ?_
            refine x_tn ?_
            refine x_seq ?_
            refine x_reg ?_
            refine o_move F rfl rfl (fun a F => ?_)
            refine o_move F rfl rfl (fun a F => ?_)
            refine o_saysI F rfl Try.call14 rfl (mkq_says c155 (fun h0 h1 => heldInt64SS_any _ _ _ _ _ h156.r h156.m h0 h1)) (fun a w l iz154 F => ?_)
            replace hB := Below.through l hB
            replace h160 := h160.go l
            replace o161 := o161.go l
            refine o_assign F rfl rfl (fun a F => ?_)
            refine x_end ?_
            refine x_tn ?_
            refine x_seq ?_
            refine x_seq ?_
            refine x_reg ?_
            refine o_move F rfl rfl (fun a F => ?_)
            refine o_lss F rfl rfl rfl (fun a F => ?_)
            refine x_end ?_
            refine x_tn ?_
            refine x_if F rfl (fun hb217 => ?_) (fun hb217 => ?_)
            ·
             replace hR := ifT hb217 hR
             refine x_seq ?_
             refine x_reg ?_
             refine o_assign F rfl rfl (fun a F => ?_)
             refine x_end ?_
             refine x_tn ?_
             refine x_ret ?_
             refine x_tr ?_
             refine x_res1 F rfl (rv_t F rfl) ?_
             obtain rfl := Option.some.inj hR
             exact ⟨rfl, hB⟩
            ·
             replace hR := ifF hb217 hR
             refine x_skip ?_
             refine x_tn ?_
             refine x_seq ?_
             refine x_reg ?_
             refine o_move F rfl rfl (fun a F => ?_)
             refine o_move F rfl rfl (fun a F => ?_)
             refine o_saysI F rfl Try.call15 rfl (mkq_says c159 (fun h0 h1 => heldInt64S_any _ _ _ _ _ h160.r h160.m h0 h1)) (fun a w l iz158 F => ?_)
             replace hB := Below.through l hB
             refine o_assign F rfl rfl (fun a F => ?_)
             refine x_end ?_
             refine x_tn ?_
             refine x_seq ?_
             refine x_seq ?_
             refine x_reg ?_
             refine o_move F rfl rfl (fun a F => ?_)
             refine o_lss F rfl rfl rfl (fun a F => ?_)
             refine x_end ?_
             refine x_tn ?_
             refine x_if F rfl (fun hb218 => ?_) (fun hb218 => ?_)
             ·
              replace hR := ifT hb218 hR
              refine x_seq ?_
              refine x_reg ?_
              refine o_assign F rfl rfl (fun a F => ?_)
              refine x_end ?_
              refine x_tn ?_
              refine x_ret ?_
              refine x_tr ?_
              refine x_res1 F rfl (rv_t F rfl) ?_
              obtain rfl := Option.some.inj hR
              exact ⟨rfl, hB⟩
             ·
              replace hR := ifF hb218 hR
              refine x_skip ?_
              refine x_tn ?_
              refine x_seq ?_
              refine x_seq ?_
              refine x_reg ?_
              refine o_move F rfl rfl (fun a F => ?_)
              refine o_move F rfl rfl (fun a F => ?_)
              refine o_neq F rfl rfl rfl (fun a F => ?_)
              refine x_end ?_
              refine x_tn ?_
              refine x_if F rfl (fun hb219 => ?_) (fun hb219 => ?_)
              ·
               replace hR := ifT hb219 hR
               refine x_seq ?_
               refine x_reg ?_
               refine o_assign F rfl rfl (fun a F => ?_)
               refine x_end ?_
               refine x_tn ?_
               refine x_ret ?_
               refine x_tr ?_
               refine x_res1 F rfl (rv_t F rfl) ?_
               obtain rfl := Option.some.inj hR
               exact ⟨rfl, hB⟩
              ·
               replace hR := ifF hb219 hR
               refine x_skip ?_
               refine x_tn ?_
               refine x_seq ?_
               refine x_reg ?_
               refine o_assign F rfl rfl (fun a F => ?_)
               refine x_end ?_
               refine x_tn ?_
               refine x_ret ?_
               refine x_res1 F rfl (rv_t F rfl) ?_
               obtain rfl := Option.some.inj hR
               exact ⟨rfl, hB⟩
end
end Go.Proofs.Ytfepllddlmhjiaa
