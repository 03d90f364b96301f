/-
  Functions of the program as plain functions, and that they compute them. Printed by fxio.py.
-/
import Derived.Test.YtfggmelojaicfaaGreatS5
namespace Go.Proofs.YtfggmelojaicfaaGreat
set_option linter.unusedVariables false
set_option linter.unusedSimpArgs false
set_option maxRecDepth 100000
open Go.RowKit
def impl_AddNoGoods (N : Nat) (x0 : Template) (x1 : Instance) (x2 : List (List Literal)) : Option (Template × Instance × Int) :=
 bnd (impl_ValidInstance (Template.mk x0.size x0.rels) (Instance.mk x1.vars x1.cons)) fun z46 =>
 if (!z46) then
  some ((Template.mk 0 ([])), (Instance.mk 0 ([])), 1)
 else
  bnd (slices_ContainsFunc_s_s_Literal_s_Literal x2 (fun a0 => impl_AddNoGoods_1 a0 (Template.mk x0.size x0.rels) (Instance.mk x1.vars x1.cons))) fun z51 =>
  if z51 then
   some ((Template.mk 0 ([])), (Instance.mk 0 ([])), 2)
  else
   thn (σ := Bool) (
    bnd (ck ((x0.rels.length : Int) + (x2.length : Int))) fun z71 =>
    if (decide (6 < z71)) then  some (.nx true) else  bnd (ck ((x1.cons.length : Int) + (x2.length : Int))) fun z76 =>
     some (.nx (decide (24 < z76)))) fun s68 =>
   if s68 then
    some ((Template.mk 0 ([])), (Instance.mk 0 ([])), 3)
   else
    bnd (impl_ownTemplate (Template.mk x0.size x0.rels)) fun z83 =>
    bnd (impl_ownInstance (Instance.mk x1.vars x1.cons)) fun z105 =>
    thn (σ := (List Rel) × (List Con)) (
     forL (σ := (List Rel) × (List Con)) (ρ := Template × Instance × Int) (fun (k3850 : Nat) (x3852 : (List Literal)) (s : (List Rel) × (List Con)) =>
       match s with
       | (s3796, s3803) =>
       thn (σ := (List Int) × (List Int)) (
        forL (σ := (List Int) × (List Int)) (ρ := (Ctl ((List Rel) × (List Con)) (Template × Instance × Int))) (fun (k4838 : Nat) (x4840 : Literal) (s : (List Int) × (List Int)) =>
          match s with
          | (s4754, s4759) =>
          bnd (ap s4754 ([x4840.var])) fun z4900 =>
          bnd (ap s4759 ([x4840.value])) fun z4943 =>
          some (.go (z4900, z4943))) x3852 0 ([], [])) fun (s4796, s4801) =>
       bnd (ap s3803 ([(Con.mk (s3796.length : Int) s4796)])) fun z5273 =>
       bnd (impl_relOf N x0.size (x3852.length : Int) (fun a0 => impl_AddNoGoods_2 a0 s4801)) fun z5301 =>
       bnd (ap s3796 ([z5301])) fun z5354 =>
       some (.go (z5354, z5273))) x2 0 (z83.rels, z105.cons)) fun (s3825, s3832) =>
    some ((Template.mk z83.size s3825), (Instance.mk z105.vars s3832), 0)
set_option maxHeartbeats 1000000 in
theorem impl_AddNoGoods_c {N : Nat} {x0 : Template} {x1 : Instance} {x2 : List (List Literal)} (r : Template × Instance × Int) (hR : impl_AddNoGoods N x0 x1 x2 = some r) {v0 : Value} {b0 : List Nat} {v1 : Value} {b1 : List Nat} {v2 : Value} {b2 : List Nat} (w0 : World) (A0 : Rd (Agg 2 RTemplate) w0 v0 x0 b0) (A1 : Rd (Agg 2 RInstance) w0 v1 x1 b1) (A2 : Rd (Sl 1 (RSl 2 RLiteral)) w0 v2 x2 b2) : Calls Tryz.prog 35 #[v0, v1, v2] w0 (Gives (fun v w' => ∃ (v1' : Value) (rb2' : List Nat) (ib3' : List Nat) (v4' : Value) (rb5' : List Nat) (ib6' : List Nat), v = .tuple #[.agg #[.int .i64 r.1.size, v1'], .agg #[.int .i64 r.2.1.vars, v4'], .int .i64 r.2.2] ∧ I64 r.1.size ∧ Row 2 RRel 101 w0.heap.size w' v1' r.1.rels rb2' ib3' ∧ Own w0.heap.size ib3' w' ∧ I64 r.2.1.vars ∧ Row 2 RCon 130 w0.heap.size w' v4' r.2.1.cons rb5' ib6' ∧ Own w0.heap.size ib6' w' ∧ I64 r.2.2 ∧ Dj (rb2' ++ ib3') (rb5' ++ ib6')) w0) := by
 unfold impl_AddNoGoods at hR
 refine x_enter (L := [(0, v0), (1, v1), (2, v2)]) Tryz.func35 rfl rfl rfl (sc rfl (sc rfl (sc rfl sn))) (fun a F => ?_)
 have hB := Below.refl w0.heap.size w0
 refine x_seq ?_
 refine x_reg ?_
 obtain ⟨v15, b16, e18, i14, h17, eb13⟩ := RTemplate.rd (A0.go hB)
 subst e18
 refine o_box F rfl rfl rfl (fun a w b11 K12 l BK12 F => ?_)
 have d19 := (dj1 h17.m BK12).symm
 have CK12 := Nat.le_trans hB.size BK12
 replace hB := Below.through l hB
 replace h17 := h17.go l
 obtain ⟨v24, b25, e27, i23, h26, eb22⟩ := RInstance.rd (A1.go hB)
 subst e27
 refine o_box F rfl rfl rfl (fun a w b20 K21 l BK21 F => ?_)
 have nb28 := Dj.bb K12 BK21
 have d29 := (dj1 h17.m BK21).symm
 have d30 := (dj1 h26.m BK21).symm
 have CK21 := Nat.le_trans hB.size BK21
 replace hB := Below.through l hB
 replace h17 := h17.go l
 replace h26 := h26.go l
 replace K12 := K12.thru l
 refine o_alloc Tryz.zeroValue33 F rfl rfl (fun a w b31 K32 l BK32 F => ?_)
 have nb33 := Dj.bb K12 BK32
 have nb34 := Dj.bb K21 BK32
 have d35 := (dj1 h17.m BK32).symm
 have d36 := (dj1 h26.m BK32).symm
 have CK32 := Nat.le_trans hB.size BK32
 replace hB := Below.through l hB
 replace h17 := h17.go l
 replace h26 := h26.go l
 replace K12 := K12.thru l
 replace K21 := K21.thru l
 refine o_alloc Tryz.zeroValue60 F rfl rfl (fun a w b37 K38 l BK38 F => ?_)
 have nb39 := Dj.bb K12 BK38
 have nb40 := Dj.bb K21 BK38
 have nb41 := Dj.bb K32 BK38
 have d42 := (dj1 h17.m BK38).symm
 have d43 := (dj1 h26.m BK38).symm
 have CK38 := Nat.le_trans hB.size BK38
 replace hB := Below.through l hB
 replace h17 := h17.go l
 replace h26 := h26.go l
 replace K12 := K12.thru l
 replace K21 := K21.thru l
 replace K32 := K32.thru l
 refine o_assign F rfl rfl (fun a F => ?_)
 refine x_end ?_
 refine x_tn ?_
 refine x_seq ?_
 refine x_blk ?_
 refine x_seq ?_
 refine x_reg ?_
 refine o_bloadA (cs := [.int .i64 x0.size, v15]) Tryz.isAgg33 Tryz.sizeOf33 F rfl rfl K12 rfl (fun j hj => by match j, hj with | 0, _ => rfl | 1, _ => rfl) (fun a F => ?_)
 have h44 := RTemplate.mk2 (w := w) i14 h17
 refine o_bloadA (cs := [.int .i64 x1.vars, v24]) Tryz.isAgg60 Tryz.sizeOf60 F rfl rfl K21 rfl (fun j hj => by match j, hj with | 0, _ => rfl | 1, _ => rfl) (fun a F => ?_)
 have h45 := RInstance.mk2 (w := w) i23 h26
 obtain ⟨z46, c47, hR⟩ := bnd_some hR
 refine o_says F rfl Tryz.call89 rfl (impl_ValidInstance_c z46 c47 _ h44 h45) (fun a w l F => ?_)
 replace hB := Below.through l hB
 replace h17 := h17.go l
 replace h26 := h26.go l
 replace K12 := K12.thru l
 replace K21 := K21.thru l
 replace K32 := K32.thru l
 replace K38 := K38.thru l
 refine o_not F rfl rfl (fun a F => ?_)
 refine o_assign F rfl rfl (fun a F => ?_)
 refine x_end ?_
 refine x_tn ?_
 refine x_if F rfl (fun hb48 => ?_) (fun hb48 => ?_)
 ·
  replace hR := ifT hb48 hR
  refine x_seq ?_
  refine x_reg ?_
  refine o_build Tryz.underlying33 Tryz.zeroValue33 (fun w => by simp [Tryz.sizeOf2, Tryz.sizeOf31]; rfl) F rfl rfl rfl rfl rfl on rfl rfl (fun a F => ?_)
  have h49 := RTemplate.mk2 (w := w) (show I64 0 by decide) (Rd.nil 2 RRel _)
  refine o_build Tryz.underlying60 Tryz.zeroValue60 (fun w => by simp [Tryz.sizeOf2, Tryz.sizeOf58]; rfl) F rfl rfl rfl rfl rfl on rfl rfl (fun a F => ?_)
  have h50 := RInstance.mk2 (w := w) (show I64 0 by decide) (Rd.nil 2 RCon _)
  refine o_bstoreA (vs := [.int .i64 0, (.slice none 0 0)]) Tryz.sizeOf33 F rfl rfl rfl K32 (oc rfl (oc rfl on)) (Nat.le_of_ble_eq_true rfl) rfl (fun w K32 l => ?_)
  replace hB := hB.o l (fun c hc => by rw [List.mem_singleton] at hc; rw [hc]; exact CK32) hB.size
  replace h50 := h50.goO l (Dj.nil' _)
  replace K38 := K38.only l (by simpa using nb41.symm)
  refine o_bstoreA (vs := [.int .i64 0, (.slice none 0 0)]) Tryz.sizeOf60 F rfl rfl rfl K38 (oc rfl (oc rfl on)) (Nat.le_of_ble_eq_true rfl) rfl (fun w K38 l => ?_)
  replace hB := hB.o l (fun c hc => by rw [List.mem_singleton] at hc; rw [hc]; exact CK38) hB.size
  replace K32 := K32.only l (by simpa using nb41)
  refine o_assign F rfl rfl (fun a F => ?_)
  refine x_end ?_
  refine x_tn ?_
  refine x_ret ?_
  refine x_br ?_
  refine x_tr ?_
  refine x_res3 F rfl (rv_cA (arr := #[.int .i64 0, (.slice none 0 0)]) F Tryz.isAgg33 Tryz.sizeOf33 rfl K32) (rv_cA (arr := #[.int .i64 0, (.slice none 0 0)]) F Tryz.isAgg60 Tryz.sizeOf60 rfl K38) (rv_t F rfl) ?_
  obtain rfl := Option.some.inj hR
  exact ⟨_, rfl, hB, (.slice none 0 0), [], [], (.slice none 0 0), [], [], rfl, (show I64 0 by decide), Row.nil 2 RRel 101 _ _, Own.nil _ _, (show I64 0 by decide), Row.nil 2 RCon 130 _ _, Own.nil _ _, (show I64 (1) by decide), (Dj.nil' _)⟩
 replace hR := ifF hb48 hR
 refine x_seq ?_
 refine x_reg ?_
 refine o_move F rfl rfl (fun a F => ?_)
 refine o_func F rfl rfl rfl (fun a F => ?_)
 obtain ⟨z51, c52, hR⟩ := bnd_some hR
 refine o_says F rfl Tryz.call90 rfl (slices_ContainsFunc_s_s_Literal_s_Literal_c z51 c52 _ (A2.go hB) Tryz.call91 (fun a0 r h W l u0 c0 f0 => impl_AddNoGoods_1_c r h W f0 ((RTemplate.blk K12 i14 h17).go l) ((RInstance.blk K21 i23 h26).go l))) (fun a w l F => ?_)
 replace hB := Below.through l hB
 replace h17 := h17.go l
 replace h26 := h26.go l
 replace K12 := K12.thru l
 replace K21 := K21.thru l
 replace K32 := K32.thru l
 replace K38 := K38.thru l
 refine o_assign F rfl rfl (fun a F => ?_)
 refine x_end ?_
 refine x_tn ?_
 refine x_if F rfl (fun hb53 => ?_) (fun hb53 => ?_)
 ·
  replace hR := ifT hb53 hR
  refine x_seq ?_
  refine x_reg ?_
  refine o_build Tryz.underlying33 Tryz.zeroValue33 (fun w => by simp [Tryz.sizeOf2, Tryz.sizeOf31]; rfl) F rfl rfl rfl rfl rfl on rfl rfl (fun a F => ?_)
  have h54 := RTemplate.mk2 (w := w) (show I64 0 by decide) (Rd.nil 2 RRel _)
  refine o_build Tryz.underlying60 Tryz.zeroValue60 (fun w => by simp [Tryz.sizeOf2, Tryz.sizeOf58]; rfl) F rfl rfl rfl rfl rfl on rfl rfl (fun a F => ?_)
  have h55 := RInstance.mk2 (w := w) (show I64 0 by decide) (Rd.nil 2 RCon _)
  refine o_bstoreA (vs := [.int .i64 0, (.slice none 0 0)]) Tryz.sizeOf33 F rfl rfl rfl K32 (oc rfl (oc rfl on)) (Nat.le_of_ble_eq_true rfl) rfl (fun w K32 l => ?_)
  replace hB := hB.o l (fun c hc => by rw [List.mem_singleton] at hc; rw [hc]; exact CK32) hB.size
  replace h55 := h55.goO l (Dj.nil' _)
  replace K38 := K38.only l (by simpa using nb41.symm)
  refine o_bstoreA (vs := [.int .i64 0, (.slice none 0 0)]) Tryz.sizeOf60 F rfl rfl rfl K38 (oc rfl (oc rfl on)) (Nat.le_of_ble_eq_true rfl) rfl (fun w K38 l => ?_)
  replace hB := hB.o l (fun c hc => by rw [List.mem_singleton] at hc; rw [hc]; exact CK38) hB.size
  replace K32 := K32.only l (by simpa using nb41)
  refine o_assign F rfl rfl (fun a F => ?_)
  refine x_end ?_
  refine x_tn ?_
  refine x_ret ?_
  refine x_br ?_
  refine x_tr ?_
  refine x_res3 F rfl (rv_cA (arr := #[.int .i64 0, (.slice none 0 0)]) F Tryz.isAgg33 Tryz.sizeOf33 rfl K32) (rv_cA (arr := #[.int .i64 0, (.slice none 0 0)]) F Tryz.isAgg60 Tryz.sizeOf60 rfl K38) (rv_t F rfl) ?_
  obtain rfl := Option.some.inj hR
  exact ⟨_, rfl, hB, (.slice none 0 0), [], [], (.slice none 0 0), [], [], rfl, (show I64 0 by decide), Row.nil 2 RRel 101 _ _, Own.nil _ _, (show I64 0 by decide), Row.nil 2 RCon 130 _ _, Own.nil _ _, (show I64 (2) by decide), (Dj.nil' _)⟩
 replace hR := ifF hb53 hR
 refine x_seq ?_
 obtain ⟨o65, hR, hk66⟩ := thn_some hR
 refine x_cutQ (fun a w => ∃ (s68 : Bool), o65 = .nx s68 ∧ Sk a 103 [(2, v2), (3, .pointer (some ⟨b11, 0, none⟩)), (4, .pointer (some ⟨b20, 0, none⟩)), (6, .pointer (some ⟨b31, 0, none⟩)), (7, .pointer (some ⟨b37, 0, none⟩)), (30, .bool s68)] ∧ Below w0.heap.size w0 w ∧ Rd (Sl 2 RRel) w v15 x0.rels b16 ∧ Rd (Sl 2 RCon) w v24 x1.cons b25 ∧ Blk w b11 #[.int .i64 x0.size, v15] 33 ∧ Blk w b20 #[.int .i64 x1.vars, v24] 60 ∧ Blk w b31 #[.int .i64 0, (.slice none 0 0)] 33 ∧ Blk w b37 #[.int .i64 0, (.slice none 0 0)] 60) ?_ ?_
 ·
  refine x_reg ?_
  refine o_bfield fa33_1 F rfl rfl rfl (fun a F => ?_)
  refine o_bload Tryz.isAgg31 F rfl rfl K12 rfl (fun a F => ?_)
  refine o_len Tryz.underlying31 F rfl rfl h17 (fun a F => ?_)
  have i69 := (h17).r.len64
  refine o_move F rfl rfl (fun a F => ?_)
  refine o_len Tryz.underlying64 F rfl rfl (A2.go hB) (fun a F => ?_)
  have i70 := ((A2.go hB)).r.len64
  obtain ⟨z71, c72, hR⟩ := bnd_some hR
  refine o_add F rfl rfl rfl c72 (fun a F => ?_)
  refine o_gtr F rfl rfl rfl (fun a F => ?_)
  refine o_move F rfl rfl (fun a F => ?_)
  rcases bcases (decide (6 < z71)) with hb73 | hb73
  ·
   replace hR := ifT hb73 hR
   have F := F.eq (t := 38) rfl (congrArg Value.bool hb73)
   refine o_no F rfl rfl (fun a F => ?_)
   refine o_no F rfl rfl (fun a F => ?_)
   refine o_no F rfl rfl (fun a F => ?_)
   refine o_no F rfl rfl (fun a F => ?_)
   refine o_no F rfl rfl (fun a F => ?_)
   refine o_no F rfl rfl (fun a F => ?_)
   refine o_no F rfl rfl (fun a F => ?_)
   refine o_pickt F rfl rfl rfl (fun a F => ?_)
   refine o_assign F rfl rfl (fun a F => ?_)
   refine x_end ?_
   refine x_tn ?_
   exact ⟨true, (Option.some.inj hR).symm, F.sub (sc rfl (sc rfl (sc rfl (sc rfl (sc rfl (sc rfl sn)))))), hB, h17, h26, K12, K21, K32, K38⟩
  replace hR := ifF hb73 hR
  have F := F.eq (t := 38) rfl (congrArg Value.bool hb73)
  refine o_bfield fa60_1 F rfl rfl rfl (fun a F => ?_)
  refine o_bload Tryz.isAgg58 F rfl rfl K21 rfl (fun a F => ?_)
  refine o_len Tryz.underlying58 F rfl rfl h26 (fun a F => ?_)
  have i74 := (h26).r.len64
  refine o_move F rfl rfl (fun a F => ?_)
  refine o_len Tryz.underlying64 F rfl rfl (A2.go hB) (fun a F => ?_)
  have i75 := ((A2.go hB)).r.len64
  obtain ⟨z76, c77, hR⟩ := bnd_some hR
  refine o_add F rfl rfl rfl c77 (fun a F => ?_)
  refine o_gtr F rfl rfl rfl (fun a F => ?_)
  refine o_pickf F rfl rfl rfl (fun a F => ?_)
  refine o_assign F rfl rfl (fun a F => ?_)
  refine x_end ?_
  refine x_tn ?_
  exact ⟨(decide (24 < z76)), (Option.some.inj hR).symm, F.sub (sc rfl (sc rfl (sc rfl (sc rfl (sc rfl (sc rfl sn)))))), hB, h17, h26, K12, K21, K32, K38⟩
 intro a w ⟨s68, ho67, F, hB, h17, h26, K12, K21, K32, K38⟩
 subst ho67
 have hR := then_nx hk66
 refine x_tn ?_
 refine x_if F rfl (fun hb78 => ?_) (fun hb78 => ?_)
 ·
  replace hR := ifT hb78 hR
  refine x_seq ?_
  refine x_reg ?_
  refine o_build Tryz.underlying33 Tryz.zeroValue33 (fun w => by simp [Tryz.sizeOf2, Tryz.sizeOf31]; rfl) F rfl rfl rfl rfl rfl on rfl rfl (fun a F => ?_)
  have h79 := RTemplate.mk2 (w := w) (show I64 0 by decide) (Rd.nil 2 RRel _)
  refine o_build Tryz.underlying60 Tryz.zeroValue60 (fun w => by simp [Tryz.sizeOf2, Tryz.sizeOf58]; rfl) F rfl rfl rfl rfl rfl on rfl rfl (fun a F => ?_)
  have h80 := RInstance.mk2 (w := w) (show I64 0 by decide) (Rd.nil 2 RCon _)
  refine o_bstoreA (vs := [.int .i64 0, (.slice none 0 0)]) Tryz.sizeOf33 F rfl rfl rfl K32 (oc rfl (oc rfl on)) (Nat.le_of_ble_eq_true rfl) rfl (fun w K32 l => ?_)
  replace hB := hB.o l (fun c hc => by rw [List.mem_singleton] at hc; rw [hc]; exact CK32) hB.size
  replace h80 := h80.goO l (Dj.nil' _)
  replace K38 := K38.only l (by simpa using nb41.symm)
  refine o_bstoreA (vs := [.int .i64 0, (.slice none 0 0)]) Tryz.sizeOf60 F rfl rfl rfl K38 (oc rfl (oc rfl on)) (Nat.le_of_ble_eq_true rfl) rfl (fun w K38 l => ?_)
  replace hB := hB.o l (fun c hc => by rw [List.mem_singleton] at hc; rw [hc]; exact CK38) hB.size
  replace K32 := K32.only l (by simpa using nb41)
  refine o_assign F rfl rfl (fun a F => ?_)
  refine x_end ?_
  refine x_tn ?_
  refine x_ret ?_
  refine x_br ?_
  refine x_tr ?_
  refine x_res3 F rfl (rv_cA (arr := #[.int .i64 0, (.slice none 0 0)]) F Tryz.isAgg33 Tryz.sizeOf33 rfl K32) (rv_cA (arr := #[.int .i64 0, (.slice none 0 0)]) F Tryz.isAgg60 Tryz.sizeOf60 rfl K38) (rv_t F rfl) ?_
  obtain rfl := Option.some.inj hR
  exact ⟨_, rfl, hB, (.slice none 0 0), [], [], (.slice none 0 0), [], [], rfl, (show I64 0 by decide), Row.nil 2 RRel 101 _ _, Own.nil _ _, (show I64 0 by decide), Row.nil 2 RCon 130 _ _, Own.nil _ _, (show I64 (3) by decide), (Dj.nil' _)⟩
 replace hR := ifF hb78 hR
 refine x_skip ?_
 refine x_bn ?_
 refine x_tn ?_
 refine x_seq ?_
 obtain ⟨z83, c84, hR⟩ := bnd_some hR
 obtain ⟨z105, c106, hR⟩ := bnd_some hR
 refine x_drawn (by kernel_rfl) (fun w l => ?_)
 replace hB := Below.through l hB
 replace h17 := h17.go l
 replace h26 := h26.go l
 replace K12 := K12.thru l
 replace K21 := K21.thru l
 replace K32 := K32.thru l
 replace K38 := K38.thru l
 refine dp (fun G => ∀ (b665 : Nat) (b667 : Nat) (v670 : Value) (rb671 : List Nat) (ib672 : List Nat) (v677 : Value) (rb678 : List Nat) (ib679 : List Nat) (a : Act) (w : World), Sk a 103 [(2, v2), (3, .pointer (some ⟨b11, 0, none⟩)), (6, .pointer (some ⟨b31, 0, none⟩)), (7, .pointer (some ⟨b37, 0, none⟩)), (9, .pointer (some ⟨b665, 0, none⟩)), (10, .pointer (some ⟨b667, 0, none⟩)), (50, (.agg #[.int .i64 z83.size, v670])), (52, (.agg #[.int .i64 z105.vars, v677]))] → Below w0.heap.size w0 w → Rd (Sl 2 RRel) w v15 x0.rels b16 → w0.heap.size ≤ b665 → w0.heap.size ≤ b667 → I64 z83.size → Row 2 RRel 101 w0.heap.size w v670 z83.rels rb671 ib672 → Own w0.heap.size ib672 w → I64 z105.vars → Row 2 RCon 130 w0.heap.size w v677 z105.cons rb678 ib679 → Own w0.heap.size ib679 w → Blk w b11 #[.int .i64 x0.size, v15] 33 → Blk w b31 #[.int .i64 0, (.slice none 0 0)] 33 → Blk w b37 #[.int .i64 0, (.slice none 0 0)] 60 → Blk w b665 #[.int .i64 0, (.slice none 0 0)] 33 → Blk w b667 #[.int .i64 0, (.slice none 0 0)] 60 → Dj b16 rb671 → Dj [b11] rb671 → Dj [b31] rb671 → Dj [b37] rb671 → Dj (rb671 ++ ib672) ([b11]) → Dj (rb671 ++ ib672) ([b31]) → Dj (rb671 ++ ib672) ([b37]) → Dj b16 rb678 → Dj (rb671 ++ ib672) rb678 → Dj [b11] rb678 → Dj [b31] rb678 → Dj [b37] rb678 → Dj (rb678 ++ ib679) ([b11]) → Dj (rb678 ++ ib679) ([b31]) → Dj (rb678 ++ ib679) ([b37]) → Dj (rb678 ++ ib679) rb671 → Dj (rb678 ++ ib679) ib672 → Dj [b667] rb671 → Dj [b667] rb678 → Dj b16 ([b667]) → Dj (rb671 ++ ib672) ([b667]) → Dj (rb678 ++ ib679) ([b667]) → Dj [b665] rb671 → Dj [b665] rb678 → Dj b16 ([b665]) → Dj (rb671 ++ ib672) ([b665]) → Dj (rb678 ++ ib679) ([b665]) → b11 ≠ b665 → b11 ≠ b667 → b31 ≠ b665 → b31 ≠ b667 → b37 ≠ b665 → b37 ≠ b667 → b665 ≠ b667 → ∀ ls, ls = #[true, true, true, true, true, true, false, false] → G 2 ls a w) ?_ (fun H719 => ?_)
 ·
  intro b665 b667 v670 rb671 ib672 v677 rb678 ib679 a w F hB h17 CK666 CK668 i669 h673 ow675 i676 h680 ow682 K12 K32 K38 K666 K668 d683 d684 d685 d686 d687 d688 d689 d690 d691 d692 d693 d694 d695 d696 d697 d698 d699 d700 d701 d702 d703 d704 d705 d706 d707 d708 d709 nb710 nb711 nb712 nb713 nb714 nb715 nb716 ls hls
  subst hls
  have h717 := RTemplate.mk2 (w := w) i669 h673.rd
  have h718 := RInstance.mk2 (w := w) i676 h680.rd
  refine b_e 6 rfl (by kernel_rfl) ?_
  refine o_bstoreA (vs := [.int .i64 z83.size, v670]) Tryz.sizeOf33 F rfl rfl rfl K666 (oc rfl (oc (h673.rd).r.one on)) (Nat.le_of_ble_eq_true rfl) rfl (fun w K666 l => ?_)
  replace hB := hB.o l (fun c hc => by rw [List.mem_singleton] at hc; rw [hc]; exact CK666) hB.size
  replace h17 := h17.goO l d707
  replace h673 := h673.goO l d708
  replace ow675 := ow675.goO l d708.r
  replace h680 := h680.goO l d709
  replace ow682 := ow682.goO l d709.r
  replace h718 := h718.goO l d709
  replace K12 := K12.only l (by simpa using nb710)
  replace K32 := K32.only l (by simpa using nb712)
  replace K38 := K38.only l (by simpa using nb714)
  replace K668 := K668.only l (by simpa using nb716.symm)
  refine x_end ?_
  refine x_tn ?_
  refine ⟨.inr (by kernel_rfl), ?_⟩
  refine b_e 7 rfl (by kernel_rfl) ?_
  refine o_bstoreA (vs := [.int .i64 z105.vars, v677]) Tryz.sizeOf60 F rfl rfl rfl K668 (oc rfl (oc (h680.rd).r.one on)) (Nat.le_of_ble_eq_true rfl) rfl (fun w K668 l => ?_)
  replace hB := hB.o l (fun c hc => by rw [List.mem_singleton] at hc; rw [hc]; exact CK668) hB.size
  replace h17 := h17.goO l d702
  replace h673 := h673.goO l d703
  replace ow675 := ow675.goO l d703.r
  replace h680 := h680.goO l d704
  replace ow682 := ow682.goO l d704.r
  replace K12 := K12.only l (by simpa using nb711)
  replace K32 := K32.only l (by simpa using nb713)
  replace K38 := K38.only l (by simpa using nb715)
  replace K666 := K666.only l (by simpa using nb716)
  refine x_end ?_
  refine x_tn ?_
  refine ⟨.inr (by kernel_rfl), ?_⟩
  refine b_end (by kernel_rfl) ?_
  refine x_tn ?_
  refine x_seq ?_
  refine x_seq ?_
  refine x_reg ?_
  refine o_move F rfl rfl (fun a F => ?_)
  refine o_len Tryz.underlying64 F rfl rfl (A2.go hB) (fun a F => ?_)
  have i720 := ((A2.go hB)).r.len64
  refine o_move F rfl rfl (fun a F => ?_)
  refine x_end ?_
  refine x_tn ?_
  obtain ⟨o3790, hR, hk3791⟩ := thn_some hR
  refine x_cutQ (fun a w => ∃ (s3825 : List Rel) (v3828 : Value) (rb3829 : List Nat) (ib3830 : List Nat) (s3832 : List Con) (v3835 : Value) (rb3836 : List Nat) (ib3837 : List Nat), o3790 = .nx (s3825, s3832) ∧ Sk a 103 [(6, .pointer (some ⟨b31, 0, none⟩)), (7, .pointer (some ⟨b37, 0, none⟩)), (9, .pointer (some ⟨b665, 0, none⟩)), (10, .pointer (some ⟨b667, 0, none⟩))] ∧ Below w0.heap.size w0 w ∧ Row 2 RRel 101 w0.heap.size w v3828 s3825 rb3829 ib3830 ∧ Own w0.heap.size ib3830 w ∧ Row 2 RCon 130 w0.heap.size w v3835 s3832 rb3836 ib3837 ∧ Own w0.heap.size ib3837 w ∧ Blk w b31 #[.int .i64 0, (.slice none 0 0)] 33 ∧ Blk w b37 #[.int .i64 0, (.slice none 0 0)] 60 ∧ Blk w b665 #[.int .i64 z83.size, v3828] 33 ∧ Blk w b667 #[.int .i64 z105.vars, v3835] 60 ∧ Dj (rb3829 ++ ib3830) [b31] ∧ Dj (rb3829 ++ ib3830) [b37] ∧ Dj (rb3829 ++ ib3830) [b665] ∧ Dj (rb3829 ++ ib3830) [b667] ∧ Dj (rb3836 ++ ib3837) rb3829 ∧ Dj (rb3836 ++ ib3837) [b31] ∧ Dj (rb3836 ++ ib3837) [b37] ∧ Dj (rb3836 ++ ib3837) [b665] ∧ Dj (rb3836 ++ ib3837) [b667] ∧ Dj (rb3829 ++ ib3830) rb3836 ∧ Dj (rb3836 ++ ib3837) ib3830) ?_ ?_
  ·
   refine x_blk ?_
   obtain ⟨fl3794, hf3795, hR⟩ := forL_gen hR
   refine x_loop (fun g a w => ∃ (k3850 : Nat) (rest3851 : List (List Literal)) (s3796 : List Rel) (v3799 : Value) (rb3800 : List Nat) (ib3801 : List Nat) (s3803 : List Con) (v3806 : Value) (rb3807 : List Nat) (ib3808 : List Nat), (k3850 ≤ x2.length ∧ x2.drop k3850 = rest3851) ∧ rest3851.length = g ∧ forL fl3794 rest3851 k3850 (s3796, s3803) = some o3790 ∧ Sk a 103 [(55, .int .i64 (k3850 : Int)), (3, .pointer (some ⟨b11, 0, none⟩)), (6, .pointer (some ⟨b31, 0, none⟩)), (7, .pointer (some ⟨b37, 0, none⟩)), (9, .pointer (some ⟨b665, 0, none⟩)), (10, .pointer (some ⟨b667, 0, none⟩)), (53, v2), (54, .int .i64 (x2.length : Int))] ∧ Below w0.heap.size w0 w ∧ Row 2 RRel 101 w0.heap.size w v3799 s3796 rb3800 ib3801 ∧ Own w0.heap.size ib3801 w ∧ Row 2 RCon 130 w0.heap.size w v3806 s3803 rb3807 ib3808 ∧ Own w0.heap.size ib3808 w ∧ Rd (Sl 2 RRel) w v15 x0.rels b16 ∧ Blk w b11 #[.int .i64 x0.size, v15] 33 ∧ Blk w b31 #[.int .i64 0, (.slice none 0 0)] 33 ∧ Blk w b37 #[.int .i64 0, (.slice none 0 0)] 60 ∧ Blk w b665 #[.int .i64 z83.size, v3799] 33 ∧ Blk w b667 #[.int .i64 z105.vars, v3806] 60 ∧ Dj b16 rb3800 ∧ Dj (rb3800 ++ ib3801) [b11] ∧ Dj (rb3800 ++ ib3801) [b31] ∧ Dj (rb3800 ++ ib3801) [b37] ∧ Dj (rb3800 ++ ib3801) [b665] ∧ Dj (rb3800 ++ ib3801) [b667] ∧ Dj (rb3807 ++ ib3808) rb3800 ∧ Dj b16 rb3807 ∧ Dj (rb3807 ++ ib3808) [b11] ∧ Dj (rb3807 ++ ib3808) [b31] ∧ Dj (rb3807 ++ ib3808) [b37] ∧ Dj (rb3807 ++ ib3808) [b665] ∧ Dj (rb3807 ++ ib3808) [b667] ∧ Dj (rb3800 ++ ib3801) rb3807 ∧ Dj (rb3807 ++ ib3808) ib3801) x2.length ?_ ?_
   ·
    exact ⟨0, x2, z83.rels, v670, rb671, ib672, z105.cons, v677, rb678, ib679, ⟨Nat.zero_le _, rfl⟩, rfl, hR, F.sub (sc rfl (sc rfl (sc rfl (sc rfl (sc rfl (sc rfl (sc rfl (sc rfl sn)))))))), hB, h673, ow675, h680, ow682, h17, K12, K32, K38, K666, K668, d683, d687, d688, d689, d708, d703, d698, d690, d695, d696, d697, d709, d704, d691, d699⟩
   intro g3853 a w ⟨k3850, rest3851, s3796, v3799, rb3800, ib3801, s3803, v3806, rb3807, ib3808, hd3854, hg3855, hR, F, hB, h3798, ow3802, h3805, ow3809, h17, K12, K32, K38, K666, K668, d3810, d3811, d3812, d3813, d3814, d3815, d3816, d3817, d3818, d3819, d3820, d3821, d3822, d3823, d3824⟩
   cases rest3851 with
   | nil =>
    replace hR := forL_nil hR
    have hkk3850 := drop_nil hd3854.1 hd3854.2
    have hlk3850 := dec_no hkk3850
    refine x_seq ?_
    refine x_reg ?_
    refine o_lss F rfl rfl rfl (fun a F => ?_)
    refine x_end ?_
    refine x_tn ?_
    refine x_seq ?_
    refine x_ifF F rfl hlk3850 ?_
    refine x_exit ?_
    refine x_te ?_
    refine x_te ?_
    refine x_be ?_
    refine x_tn ?_
    exact ⟨s3796, v3799, rb3800, ib3801, s3803, v3806, rb3807, ib3808, (Option.some.inj hR).symm, F.sub (sc rfl (sc rfl (sc rfl (sc rfl sn)))), hB, h3798, ow3802, h3805, ow3809, K32, K38, K666, K668, d3812, d3813, d3814, d3815, d3816, d3819, d3820, d3821, d3822, d3823, d3824⟩
   | cons x3852 rest3851 =>
    subst hg3855
    replace hd3854 := drop_cons hd3854.2
    have hxk3850 := ix_nat hd3854.2.1
    obtain ⟨ck3850, hR, hn3793⟩ := forL_cons hR
    rw [hf3795] at hR
    have hlk3850 := dec_yes hd3854.1
    refine x_seq ?_
    refine x_reg ?_
    refine o_lss F rfl rfl rfl (fun a F => ?_)
    refine x_end ?_
    refine x_tn ?_
    refine x_seq ?_
    refine x_ifT F rfl hlk3850 ?_
    refine x_skip ?_
    refine x_tn ?_
    refine x_seq ?_
    have ikk3850 := k64 (Nat.le_of_lt hd3854.1) i720
    have ink3850 := inc64 hd3854.1 i720
    refine x_blk ?_
    refine x_seq ?_
    refine x_reg ?_
    refine o_index Tryz.underlying64 Tryz.sizeOf124 F rfl rfl rfl (A2.go hB) hxk3850 (fun a p3856 b3857 h3858 s3859 F => ?_)
    refine o_loadS Tryz.isAgg124 F rfl rfl h3858 (fun a v3860 b3861 h3862 s3863 F => ?_)
    refine o_assign F rfl rfl (fun a F => ?_)
    refine x_end ?_
    refine x_tn ?_
    refine x_seq ?_
    refine x_reg ?_
    refine o_bfield fa33_1 F rfl rfl rfl (fun a F => ?_)
    refine o_bload Tryz.isAgg31 F rfl rfl K666 rfl (fun a F => ?_)
    refine o_len Tryz.underlying31 F rfl rfl h3798.rd (fun a F => ?_)
    have i3864 := (h3798.rd).r.len64
    refine o_build Tryz.underlying130 Tryz.zeroValue130 (fun w => by simp [Tryz.sizeOf2, Tryz.sizeOf42]; rfl) F rfl rfl rfl rfl rfl (oc rfl on) rfl rfl (fun a F => ?_)
    have h3865 := RCon.mk2 (w := w) i3864 (Rd.nil 1 RInt _)
    refine o_alloc Tryz.zeroValue130 F rfl rfl (fun a w b3866 K3867 l BK3867 F => ?_)
    have d3868 := dj1 h3798.memR BK3867
    have d3869 := dj1 h3805.memR BK3867
    have nb3870 := Dj.bb K12 BK3867
    have nb3871 := Dj.bb K32 BK3867
    have nb3872 := Dj.bb K38 BK3867
    have nb3873 := Dj.bb K666 BK3867
    have nb3874 := Dj.bb K668 BK3867
    have d3875 := (dj1 h17.m BK3867).symm
    have d3876 := (dj1 h3858.m BK3867).symm
    have d3877 := (dj1 h3862.m BK3867).symm
    have d3878 := (dj1 h3865.m BK3867).symm
    have d3879 := (dj1 h3798.rd.m BK3867).symm
    have d3880 := (dj1 h3805.rd.m BK3867).symm
    have CK3867 := Nat.le_trans hB.size BK3867
    replace hB := Below.through l hB
    replace h17 := h17.go l
    replace h3798 := h3798.go l
    replace ow3802 := ow3802.go l
    replace h3805 := h3805.go l
    replace ow3809 := ow3809.go l
    replace h3862 := h3862.go l
    replace h3865 := h3865.go l
    replace K12 := K12.thru l
    replace K32 := K32.thru l
    replace K38 := K38.thru l
    replace K666 := K666.thru l
    replace K668 := K668.thru l
    refine o_bstoreA (vs := [.int .i64 (s3796.length : Int), (.slice none 0 0)]) Tryz.sizeOf130 F rfl rfl rfl K3867 (oc rfl (oc rfl on)) (Nat.le_of_ble_eq_true rfl) rfl (fun w K3867 l => ?_)
    replace hB := hB.o l (fun c hc => by rw [List.mem_singleton] at hc; rw [hc]; exact CK3867) hB.size
    replace h17 := h17.goO l d3875
    replace h3798 := h3798.goO l d3879
    replace ow3802 := ow3802.goO l d3879.r
    replace h3805 := h3805.goO l d3880
    replace ow3809 := ow3809.goO l d3880.r
    replace h3862 := h3862.goO l d3877
    replace K12 := K12.only l (by simpa using nb3870)
    replace K32 := K32.only l (by simpa using nb3871)
    replace K38 := K38.only l (by simpa using nb3872)
    replace K666 := K666.only l (by simpa using nb3873)
    replace K668 := K668.only l (by simpa using nb3874)
    refine x_end ?_
    refine x_tn ?_
    refine x_seq ?_
    refine x_reg ?_
    refine o_lit0 (R := RInt) Tryz.underlying42 Tryz.sizeOf2 F rfl (fun a w v3881 rb3882 h3883 l F => ?_)
    have d3885 := Dj.new h17.m h3883.ownR (Nat.le_refl _)
    have d3886 := Dj.new h3862.m h3883.ownR (Nat.le_refl _)
    have d3887 := Dj.new h3798.rd.m h3883.ownR (Nat.le_refl _)
    have d3888 := Dj.new h3805.rd.m h3883.ownR (Nat.le_refl _)
    have d3889 := Dj.new (inm1 K12) h3883.ownR (Nat.le_refl _)
    have d3890 := Dj.new (inm1 K32) h3883.ownR (Nat.le_refl _)
    have d3891 := Dj.new (inm1 K38) h3883.ownR (Nat.le_refl _)
    have d3892 := Dj.new (inm1 K666) h3883.ownR (Nat.le_refl _)
    have d3893 := Dj.new (inm1 K668) h3883.ownR (Nat.le_refl _)
    have d3894 := Dj.new (inm1 K3867) h3883.ownR (Nat.le_refl _)
    have d3895 := Dj.app' (Dj.new h3798.memR h3883.ownR (Nat.le_refl _)).symm (Dj.nil' _)
    have d3896 := Dj.app' (Dj.new h3798.mem h3883.ownR (Nat.le_refl _)).symm (Dj.nil' _)
    have d3897 := Dj.app' (Dj.new h3805.memR h3883.ownR (Nat.le_refl _)).symm (Dj.nil' _)
    have d3898 := Dj.app' (Dj.new h3805.mem h3883.ownR (Nat.le_refl _)).symm (Dj.nil' _)
    replace h3883 := h3883.base hB.size
    replace hB := Below.through l hB
    replace h17 := h17.go l
    replace h3798 := h3798.go l
    replace ow3802 := ow3802.go l
    replace h3805 := h3805.go l
    replace ow3809 := ow3809.go l
    replace h3862 := h3862.go l
    replace K12 := K12.thru l
    replace K32 := K32.thru l
    replace K38 := K38.thru l
    replace K666 := K666.thru l
    replace K668 := K668.thru l
    replace K3867 := K3867.thru l
    refine o_alloc Tryz.zeroValue42 F rfl rfl (fun a w b3899 K3900 l BK3900 F => ?_)
    have d3901 := dj1 h3798.memR BK3900
    have d3902 := dj1 h3805.memR BK3900
    have d3903 := dj1 h3883.memR BK3900
    have nb3904 := Dj.bb K12 BK3900
    have nb3905 := Dj.bb K32 BK3900
    have nb3906 := Dj.bb K38 BK3900
    have nb3907 := Dj.bb K666 BK3900
    have nb3908 := Dj.bb K668 BK3900
    have nb3909 := Dj.bb K3867 BK3900
    have d3910 := (dj1 h17.m BK3900).symm
    have d3911 := (dj1 h3862.m BK3900).symm
    have d3912 := (dj1 h3798.rd.m BK3900).symm
    have d3913 := (dj1 h3805.rd.m BK3900).symm
    have d3914 := (dj1 h3883.rd.m BK3900).symm
    have CK3900 := Nat.le_trans hB.size BK3900
    replace hB := Below.through l hB
    replace h17 := h17.go l
    replace h3798 := h3798.go l
    replace ow3802 := ow3802.go l
    replace h3805 := h3805.go l
    replace ow3809 := ow3809.go l
    replace h3862 := h3862.go l
    replace h3883 := h3883.go l
    replace K12 := K12.thru l
    replace K32 := K32.thru l
    replace K38 := K38.thru l
    replace K666 := K666.thru l
    replace K668 := K668.thru l
    replace K3867 := K3867.thru l
    refine o_bstore Tryz.sizeOf42 F rfl rfl rfl K3900 (h3883.rd).r.one (by first | simp | decide) rfl (fun w K3900 l => ?_)
    replace hB := hB.o l (fun c hc => by rw [List.mem_singleton] at hc; rw [hc]; exact CK3900) hB.size
    replace h17 := h17.goO l d3910
    replace h3798 := h3798.goO l d3912
    replace ow3802 := ow3802.goO l d3912.r
    replace h3805 := h3805.goO l d3913
    replace ow3809 := ow3809.goO l d3913.r
    replace h3862 := h3862.goO l d3911
    replace h3883 := h3883.goO l d3914
    replace K12 := K12.only l (by simpa using nb3904)
    replace K32 := K32.only l (by simpa using nb3905)
    replace K38 := K38.only l (by simpa using nb3906)
    replace K666 := K666.only l (by simpa using nb3907)
    replace K668 := K668.only l (by simpa using nb3908)
    replace K3867 := K3867.only l (by simpa using nb3909)
    refine x_end ?_
    refine x_tn ?_
    refine x_seq ?_
    refine x_seq ?_
    refine x_reg ?_
    refine o_move F rfl rfl (fun a F => ?_)
    refine o_len Tryz.underlying124 F rfl rfl h3862 (fun a F => ?_)
    have i3915 := (h3862).r.len64
    refine o_move F rfl rfl (fun a F => ?_)
    refine x_end ?_
    refine x_tn ?_
    obtain ⟨o4748, hR, hk4749⟩ := thn_some hR
    refine x_cutQ (fun a w => ∃ (s4796 : List Int) (v4799 : Value) (rb4800 : List Nat) (s4801 : List Int) (v4804 : Value) (rb4805 : List Nat), o4748 = .nx (s4796, s4801) ∧ Sk a 103 [(3, .pointer (some ⟨b11, 0, none⟩)), (6, .pointer (some ⟨b31, 0, none⟩)), (7, .pointer (some ⟨b37, 0, none⟩)), (9, .pointer (some ⟨b665, 0, none⟩)), (10, .pointer (some ⟨b667, 0, none⟩)), (12, v3860), (13, .pointer (some ⟨b3866, 0, none⟩)), (14, .pointer (some ⟨b3899, 0, none⟩)), (53, v2), (54, .int .i64 (x2.length : Int)), (55, .int .i64 (k3850 : Int))] ∧ Below w0.heap.size w0 w ∧ Row 1 RInt 2 w0.heap.size w v4799 s4796 rb4800 ([]) ∧ Row 1 RInt 2 w0.heap.size w v4804 s4801 rb4805 ([]) ∧ Rd (Sl 2 RRel) w v15 x0.rels b16 ∧ Row 2 RRel 101 w0.heap.size w v3799 s3796 rb3800 ib3801 ∧ Own w0.heap.size ib3801 w ∧ Row 2 RCon 130 w0.heap.size w v3806 s3803 rb3807 ib3808 ∧ Own w0.heap.size ib3808 w ∧ Rd (Sl 2 RLiteral) w v3860 x3852 b3861 ∧ Blk w b11 #[.int .i64 x0.size, v15] 33 ∧ Blk w b31 #[.int .i64 0, (.slice none 0 0)] 33 ∧ Blk w b37 #[.int .i64 0, (.slice none 0 0)] 60 ∧ Blk w b665 #[.int .i64 z83.size, v3799] 33 ∧ Blk w b667 #[.int .i64 z105.vars, v3806] 60 ∧ Blk w b3866 #[.int .i64 (s3796.length : Int), v4799] 130 ∧ Blk w b3899 #[v4804] 42 ∧ Dj b16 rb4800 ∧ Dj b3861 rb4800 ∧ Dj (rb4800 ++ []) [b11] ∧ Dj (rb4800 ++ []) [b31] ∧ Dj (rb4800 ++ []) [b37] ∧ Dj (rb4800 ++ []) [b665] ∧ Dj (rb4800 ++ []) [b667] ∧ Dj (rb4800 ++ []) [b3866] ∧ Dj (rb4800 ++ []) [b3899] ∧ Dj (rb3800 ++ ib3801) rb4800 ∧ Dj (rb4800 ++ []) rb3800 ∧ Dj (rb3807 ++ ib3808) rb4800 ∧ Dj (rb4800 ++ []) rb3807 ∧ Dj (rb4805 ++ []) rb4800 ∧ Dj b16 rb4805 ∧ Dj b3861 rb4805 ∧ Dj (rb4805 ++ []) [b11] ∧ Dj (rb4805 ++ []) [b31] ∧ Dj (rb4805 ++ []) [b37] ∧ Dj (rb4805 ++ []) [b665] ∧ Dj (rb4805 ++ []) [b667] ∧ Dj (rb4805 ++ []) [b3866] ∧ Dj (rb4805 ++ []) [b3899] ∧ Dj (rb3800 ++ ib3801) rb4805 ∧ Dj (rb4805 ++ []) rb3800 ∧ Dj (rb3807 ++ ib3808) rb4805 ∧ Dj (rb4805 ++ []) rb3807 ∧ Dj (rb4800 ++ []) rb4805 ∧ Dj (rb4800 ++ []) ib3801 ∧ Dj (rb4800 ++ []) ib3808 ∧ Dj (rb4805 ++ []) ib3801 ∧ Dj (rb4805 ++ []) ib3808) ?_ ?_
    ·
     refine x_blk ?_
     obtain ⟨fl4752, hf4753, hR⟩ := forL_gen hR
     refine x_loop (fun g a w => ∃ (k4838 : Nat) (rest4839 : List Literal) (s4754 : List Int) (v4757 : Value) (rb4758 : List Nat) (s4759 : List Int) (v4762 : Value) (rb4763 : List Nat), (k4838 ≤ x3852.length ∧ x3852.drop k4838 = rest4839) ∧ rest4839.length = g ∧ forL fl4752 rest4839 k4838 (s4754, s4759) = some o4748 ∧ Sk a 103 [(66, .int .i64 (k4838 : Int)), (3, .pointer (some ⟨b11, 0, none⟩)), (6, .pointer (some ⟨b31, 0, none⟩)), (7, .pointer (some ⟨b37, 0, none⟩)), (9, .pointer (some ⟨b665, 0, none⟩)), (10, .pointer (some ⟨b667, 0, none⟩)), (12, v3860), (13, .pointer (some ⟨b3866, 0, none⟩)), (14, .pointer (some ⟨b3899, 0, none⟩)), (53, v2), (54, .int .i64 (x2.length : Int)), (55, .int .i64 (k3850 : Int)), (64, v3860), (65, .int .i64 (x3852.length : Int))] ∧ Below w0.heap.size w0 w ∧ Row 1 RInt 2 w0.heap.size w v4757 s4754 rb4758 ([]) ∧ Row 1 RInt 2 w0.heap.size w v4762 s4759 rb4763 ([]) ∧ Rd (Sl 2 RRel) w v15 x0.rels b16 ∧ Row 2 RRel 101 w0.heap.size w v3799 s3796 rb3800 ib3801 ∧ Own w0.heap.size ib3801 w ∧ Row 2 RCon 130 w0.heap.size w v3806 s3803 rb3807 ib3808 ∧ Own w0.heap.size ib3808 w ∧ Rd (Sl 2 RLiteral) w v3860 x3852 b3861 ∧ Blk w b11 #[.int .i64 x0.size, v15] 33 ∧ Blk w b31 #[.int .i64 0, (.slice none 0 0)] 33 ∧ Blk w b37 #[.int .i64 0, (.slice none 0 0)] 60 ∧ Blk w b665 #[.int .i64 z83.size, v3799] 33 ∧ Blk w b667 #[.int .i64 z105.vars, v3806] 60 ∧ Blk w b3866 #[.int .i64 (s3796.length : Int), v4757] 130 ∧ Blk w b3899 #[v4762] 42 ∧ Dj b16 rb4758 ∧ Dj b3861 rb4758 ∧ Dj (rb4758 ++ []) [b11] ∧ Dj (rb4758 ++ []) [b31] ∧ Dj (rb4758 ++ []) [b37] ∧ Dj (rb4758 ++ []) [b665] ∧ Dj (rb4758 ++ []) [b667] ∧ Dj (rb4758 ++ []) [b3866] ∧ Dj (rb4758 ++ []) [b3899] ∧ Dj (rb3800 ++ ib3801) rb4758 ∧ Dj (rb4758 ++ []) rb3800 ∧ Dj (rb3807 ++ ib3808) rb4758 ∧ Dj (rb4758 ++ []) rb3807 ∧ Dj (rb4763 ++ []) rb4758 ∧ Dj b16 rb4763 ∧ Dj b3861 rb4763 ∧ Dj (rb4763 ++ []) [b11] ∧ Dj (rb4763 ++ []) [b31] ∧ Dj (rb4763 ++ []) [b37] ∧ Dj (rb4763 ++ []) [b665] ∧ Dj (rb4763 ++ []) [b667] ∧ Dj (rb4763 ++ []) [b3866] ∧ Dj (rb4763 ++ []) [b3899] ∧ Dj (rb3800 ++ ib3801) rb4763 ∧ Dj (rb4763 ++ []) rb3800 ∧ Dj (rb3807 ++ ib3808) rb4763 ∧ Dj (rb4763 ++ []) rb3807 ∧ Dj (rb4758 ++ []) rb4763 ∧ Dj (rb4758 ++ []) ib3801 ∧ Dj (rb4758 ++ []) ib3808 ∧ Dj (rb4763 ++ []) ib3801 ∧ Dj (rb4763 ++ []) ib3808) x3852.length ?_ ?_
     ·
      exact ⟨0, x3852, [], (.slice none 0 0), [], [], v3881, rb3882, ⟨Nat.zero_le _, rfl⟩, rfl, hR, F.sub (sc rfl (sc rfl (sc rfl (sc rfl (sc rfl (sc rfl (sc rfl (sc rfl (sc rfl (sc rfl (sc rfl (sc rfl (sc rfl (sc rfl sn)))))))))))))), hB, Row.nil 1 RInt 2 _ _, h3883, h17, h3798, ow3802, h3805, ow3809, h3862, K12, K32, K38, K666, K668, K3867, K3900, (Dj.nil _), (Dj.nil _), (Dj.nil' _), (Dj.nil' _), (Dj.nil' _), (Dj.nil' _), (Dj.nil' _), (Dj.nil' _), (Dj.nil' _), (Dj.nil _), (Dj.nil' _), (Dj.nil _), (Dj.nil' _), (Dj.nil _), d3885, d3886, (Dj.app' (Dj.symm d3889) (Dj.nil' _)), (Dj.app' (Dj.symm d3890) (Dj.nil' _)), (Dj.app' (Dj.symm d3891) (Dj.nil' _)), (Dj.app' (Dj.symm d3892) (Dj.nil' _)), (Dj.app' (Dj.symm d3893) (Dj.nil' _)), (Dj.app' (Dj.symm d3894) (Dj.nil' _)), d3914, d3887, d3895, d3888, d3897, (Dj.nil' _), (Dj.nil' _), (Dj.nil' _), d3896, d3898⟩
     intro g4841 a w ⟨k4838, rest4839, s4754, v4757, rb4758, s4759, v4762, rb4763, hd4842, hg4843, hR, F, hB, h4756, h4761, h17, h3798, ow3802, h3805, ow3809, h3862, K12, K32, K38, K666, K668, K3867, K3900, d4764, d4765, d4766, d4767, d4768, d4769, d4770, d4771, d4772, d4773, d4774, d4775, d4776, d4777, d4778, d4779, d4780, d4781, d4782, d4783, d4784, d4785, d4786, d4787, d4788, d4789, d4790, d4791, d4792, d4793, d4794, d4795⟩
     cases rest4839 with
     | nil =>
      replace hR := forL_nil hR
      have hkk4838 := drop_nil hd4842.1 hd4842.2
      have hlk4838 := dec_no hkk4838
      refine x_seq ?_
      refine x_reg ?_
      refine o_lss F rfl rfl rfl (fun a F => ?_)
      refine x_end ?_
      refine x_tn ?_
      refine x_seq ?_
      refine x_ifF F rfl hlk4838 ?_
      refine x_exit ?_
      refine x_te ?_
      refine x_te ?_
      refine x_be ?_
      refine x_tn ?_
      exact ⟨s4754, v4757, rb4758, s4759, v4762, rb4763, (Option.some.inj hR).symm, F.sub (sc rfl (sc rfl (sc rfl (sc rfl (sc rfl (sc rfl (sc rfl (sc rfl (sc rfl (sc rfl (sc rfl sn))))))))))), hB, h4756, h4761, h17, h3798, ow3802, h3805, ow3809, h3862, K12, K32, K38, K666, K668, K3867, K3900, d4764, d4765, d4766, d4767, d4768, d4769, d4770, d4771, d4772, d4773, d4774, d4775, d4776, d4777, d4778, d4779, d4780, d4781, d4782, d4783, d4784, d4785, d4786, d4787, d4788, d4789, d4790, d4791, d4792, d4793, d4794, d4795⟩
     | cons x4840 rest4839 =>
      subst hg4843
      replace hd4842 := drop_cons hd4842.2
      have hxk4838 := ix_nat hd4842.2.1
      obtain ⟨ck4838, hR, hn4751⟩ := forL_cons hR
      rw [hf4753] at hR
      have hlk4838 := dec_yes hd4842.1
      refine x_seq ?_
      refine x_reg ?_
      refine o_lss F rfl rfl rfl (fun a F => ?_)
      refine x_end ?_
      refine x_tn ?_
      refine x_seq ?_
      refine x_ifT F rfl hlk4838 ?_
      refine x_skip ?_
      refine x_tn ?_
      refine x_seq ?_
      have ikk4838 := k64 (Nat.le_of_lt hd4842.1) i3915
      have ink4838 := inc64 hd4842.1 i3915
      refine x_blk ?_
      refine x_seq ?_
      refine x_reg ?_
      refine o_index Tryz.underlying124 Tryz.sizeOf132 F rfl rfl rfl h3862 hxk4838 (fun a p4844 b4845 h4846 s4847 F => ?_)
      refine o_loadA Tryz.isAgg132 Tryz.sizeOf132 F rfl rfl h4846 (fun a v4848 b4849 h4850 s4851 F => ?_)
      refine o_alloc Tryz.zeroValue132 F rfl rfl (fun a w b4852 K4853 l BK4853 F => ?_)
      have d4854 := dj1 h3798.memR BK4853
      have d4855 := dj1 h3805.memR BK4853
      have d4856 := dj1 h4756.memR BK4853
      have d4857 := dj1 h4761.memR BK4853
      have nb4858 := Dj.bb K12 BK4853
      have nb4859 := Dj.bb K32 BK4853
      have nb4860 := Dj.bb K38 BK4853
      have nb4861 := Dj.bb K666 BK4853
      have nb4862 := Dj.bb K668 BK4853
      have nb4863 := Dj.bb K3867 BK4853
      have nb4864 := Dj.bb K3900 BK4853
      have d4865 := (dj1 h17.m BK4853).symm
      have d4866 := (dj1 h3862.m BK4853).symm
      have d4867 := (dj1 h4846.m BK4853).symm
      have d4868 := (dj1 h4850.m BK4853).symm
      have d4869 := (dj1 h3798.rd.m BK4853).symm
      have d4870 := (dj1 h3805.rd.m BK4853).symm
      have d4871 := (dj1 h4756.rd.m BK4853).symm
      have d4872 := (dj1 h4761.rd.m BK4853).symm
      have CK4853 := Nat.le_trans hB.size BK4853
      replace hB := Below.through l hB
      replace h17 := h17.go l
      replace h3798 := h3798.go l
      replace ow3802 := ow3802.go l
      replace h3805 := h3805.go l
      replace ow3809 := ow3809.go l
      replace h3862 := h3862.go l
      replace h4756 := h4756.go l
      replace h4761 := h4761.go l
      replace h4850 := h4850.go l
      replace K12 := K12.thru l
      replace K32 := K32.thru l
      replace K38 := K38.thru l
      replace K666 := K666.thru l
      replace K668 := K668.thru l
      replace K3867 := K3867.thru l
      replace K3900 := K3900.thru l
      obtain ⟨e4876, i4874, i4875, eb4873⟩ := RLiteral.rd h4850
      subst e4876
      refine o_bstoreA (vs := [.int .i64 x4840.var, .int .i64 x4840.value]) Tryz.sizeOf132 F rfl rfl rfl K4853 (oc rfl (oc rfl on)) (Nat.le_of_ble_eq_true rfl) rfl (fun w K4853 l => ?_)
      replace hB := hB.o l (fun c hc => by rw [List.mem_singleton] at hc; rw [hc]; exact CK4853) hB.size
      replace h17 := h17.goO l d4865
      replace h3798 := h3798.goO l d4869
      replace ow3802 := ow3802.goO l d4869.r
      replace h3805 := h3805.goO l d4870
      replace ow3809 := ow3809.goO l d4870.r
      replace h3862 := h3862.goO l d4866
      replace h4756 := h4756.goO l d4871
      replace h4761 := h4761.goO l d4872
      replace K12 := K12.only l (by simpa using nb4858)
      replace K32 := K32.only l (by simpa using nb4859)
      replace K38 := K38.only l (by simpa using nb4860)
      replace K666 := K666.only l (by simpa using nb4861)
      replace K668 := K668.only l (by simpa using nb4862)
      replace K3867 := K3867.only l (by simpa using nb4863)
      replace K3900 := K3900.only l (by simpa using nb4864)
      refine x_end ?_
      refine x_tn ?_
      obtain ⟨z4900, c4901, hR⟩ := bnd_some hR
      obtain ⟨z4943, c4944, hR⟩ := bnd_some hR
      refine x_drawnO (rb4758 ++ rb4763) (by kernel_rfl) (fun w l => ?_)
      replace hB := Below.through l hB
      replace h17 := h17.go l
      replace h3798 := h3798.go l
      replace ow3802 := ow3802.go l
      replace h3805 := h3805.go l
      replace ow3809 := ow3809.go l
      replace h3862 := h3862.go l
      replace h4756 := h4756.go l
      replace h4761 := h4761.go l
      replace K12 := K12.thru l
      replace K32 := K32.thru l
      replace K38 := K38.thru l
      replace K666 := K666.thru l
      replace K668 := K668.thru l
      replace K3867 := K3867.thru l
      replace K3900 := K3900.thru l
      replace K4853 := K4853.thru l
      have dO4963 : Dj [b11] (rb4758 ++ rb4763) := (Dj.app (Dj.symm (Dj.l d4766)) (Dj.symm (Dj.l d4780)))
      have dO4964 : Dj [b31] (rb4758 ++ rb4763) := (Dj.app (Dj.symm (Dj.l d4767)) (Dj.symm (Dj.l d4781)))
      have dO4965 : Dj [b37] (rb4758 ++ rb4763) := (Dj.app (Dj.symm (Dj.l d4768)) (Dj.symm (Dj.l d4782)))
      have dO4966 : Dj [b665] (rb4758 ++ rb4763) := (Dj.app (Dj.symm (Dj.l d4769)) (Dj.symm (Dj.l d4783)))
      have dO4967 : Dj [b667] (rb4758 ++ rb4763) := (Dj.app (Dj.symm (Dj.l d4770)) (Dj.symm (Dj.l d4784)))
      have dO4968 : Dj [b3866] (rb4758 ++ rb4763) := (Dj.app (Dj.symm (Dj.l d4771)) (Dj.symm (Dj.l d4785)))
      have dO4969 : Dj [b3899] (rb4758 ++ rb4763) := (Dj.app (Dj.symm (Dj.l d4772)) (Dj.symm (Dj.l d4786)))
      have dO4970 : Dj [b4852] (rb4758 ++ rb4763) := (Dj.app d4856 d4857)
      have dO4971 : Dj b16 (rb4758 ++ rb4763) := (Dj.app d4764 d4778)
      have dO4972 : Dj b3861 (rb4758 ++ rb4763) := (Dj.app d4765 d4779)
      have dO4973 : Dj (rb3800 ++ ib3801) (rb4758 ++ rb4763) := (Dj.app d4773 d4787)
      have dO4974 : Dj (rb3807 ++ ib3808) (rb4758 ++ rb4763) := (Dj.app d4775 d4789)
      have dO4975 : Dj b2 (rb4758 ++ rb4763) := (Dj.app (Dj.new A2.m h4756.ownR (Nat.le_refl _)) (Dj.new A2.m h4761.ownR (Nat.le_refl _)))
      refine dp (fun G => ∀ (v5181 : Value) (rb5182 : List Nat) (v5185 : Value) (rb5186 : List Nat) (a : Act) (w : World), Sk a 103 [(3, .pointer (some ⟨b11, 0, none⟩)), (6, .pointer (some ⟨b31, 0, none⟩)), (7, .pointer (some ⟨b37, 0, none⟩)), (9, .pointer (some ⟨b665, 0, none⟩)), (10, .pointer (some ⟨b667, 0, none⟩)), (12, v3860), (13, .pointer (some ⟨b3866, 0, none⟩)), (14, .pointer (some ⟨b3899, 0, none⟩)), (53, v2), (54, .int .i64 (x2.length : Int)), (55, .int .i64 (k3850 : Int)), (64, v3860), (65, .int .i64 (x3852.length : Int)), (66, .int .i64 (k4838 : Int)), (75, v5181), (76, v4762), (79, v5185), (81, .pointer (some ⟨b3866, 1, none⟩))] → Below w0.heap.size w0 w → Rd (Sl 2 RRel) w v15 x0.rels b16 → Row 2 RRel 101 w0.heap.size w v3799 s3796 rb3800 ib3801 → Own w0.heap.size ib3801 w → Row 2 RCon 130 w0.heap.size w v3806 s3803 rb3807 ib3808 → Own w0.heap.size ib3808 w → Rd (Sl 2 RLiteral) w v3860 x3852 b3861 → Row 1 RInt 2 w0.heap.size w v4762 s4759 rb4763 ([]) → Row 1 RInt 2 w0.heap.size w v5181 z4900 rb5182 ([]) → Row 1 RInt 2 w0.heap.size w v5185 ([x4840.value]) rb5186 ([]) → Blk w b11 #[.int .i64 x0.size, v15] 33 → Blk w b31 #[.int .i64 0, (.slice none 0 0)] 33 → Blk w b37 #[.int .i64 0, (.slice none 0 0)] 60 → Blk w b665 #[.int .i64 z83.size, v3799] 33 → Blk w b667 #[.int .i64 z105.vars, v3806] 60 → Blk w b3866 #[.int .i64 (s3796.length : Int), v4757] 130 → Blk w b3899 #[v4762] 42 → Dj b16 rb5182 → Dj b3861 rb5182 → Dj [b11] rb5182 → Dj [b31] rb5182 → Dj [b37] rb5182 → Dj [b665] rb5182 → Dj [b667] rb5182 → Dj [b3866] rb5182 → Dj [b3899] rb5182 → Dj (rb3800 ++ ib3801) rb5182 → Dj (rb3807 ++ ib3808) rb5182 → Dj (rb4763 ++ []) rb5182 → Dj (rb5182 ++ []) rb3800 → Dj (rb5182 ++ []) rb3807 → Dj (rb5182 ++ []) rb4763 → Dj (rb5182 ++ []) ib3801 → Dj (rb5182 ++ []) ib3808 → Dj b16 rb5186 → Dj b3861 rb5186 → Dj (rb3800 ++ ib3801) rb5186 → Dj (rb3807 ++ ib3808) rb5186 → Dj (rb4763 ++ []) rb5186 → Dj (rb5182 ++ []) rb5186 → Dj [b11] rb5186 → Dj [b31] rb5186 → Dj [b37] rb5186 → Dj [b665] rb5186 → Dj [b667] rb5186 → Dj [b3866] rb5186 → Dj [b3899] rb5186 → Dj (rb5186 ++ []) rb3800 → Dj (rb5186 ++ []) ib3801 → Dj (rb5186 ++ []) rb3807 → Dj (rb5186 ++ []) ib3808 → Dj (rb5186 ++ []) rb4763 → Dj (rb5186 ++ []) rb5182 → ∀ ls, ls = #[true, true, true, true, true, true, true, true, true, true, false, true, false, false] → G 3 ls a w) ?_ (fun H5225 => ?_)
      ·
       intro v5181 rb5182 v5185 rb5186 a w F hB h17 h3798 ow3802 h3805 ow3809 h3862 h4761 h5183 h5187 K12 K32 K38 K666 K668 K3867 K3900 d5189 d5190 d5191 d5192 d5193 d5194 d5195 d5196 d5197 d5198 d5199 d5200 d5201 d5202 d5203 d5204 d5205 d5206 d5207 d5208 d5209 d5210 d5211 d5212 d5213 d5214 d5215 d5216 d5217 d5218 d5219 d5220 d5221 d5222 d5223 d5224 ls hls
       subst hls
       refine b_e 10 rfl (by kernel_rfl) ?_
       refine o_append (sz := 1) (R := RInt) (z := (.int .i64 0)) (bytes := 8) Tryz.underlying42 (by kernel_rfl) rfl (by decide) (by decide) (by decide) F rfl rfl rfl h4761 h5187.src hB.size (Dj.nil _) c4944 (fun a w v5226 rb5227 h5228 l keep F => ?_)
       replace h5228 := row_nil2 h5228
       have d5230 := keep _ h17.m d4778
       have d5231 := keep _ h3862.m d4779
       have d5232 := keep _ (inm1 K12) (Dj.symm (Dj.l d4780))
       have d5233 := keep _ (inm1 K32) (Dj.symm (Dj.l d4781))
       have d5234 := keep _ (inm1 K38) (Dj.symm (Dj.l d4782))
       have d5235 := keep _ (inm1 K666) (Dj.symm (Dj.l d4783))
       have d5236 := keep _ (inm1 K668) (Dj.symm (Dj.l d4784))
       have d5237 := keep _ (inm1 K3867) (Dj.symm (Dj.l d4785))
       have d5238 := keep _ (inm1 K3900) (Dj.symm (Dj.l d4786))
       have d5239 := keep _ h3798.rd.m d4787
       have d5240 := keep _ h3805.rd.m d4789
       have d5241 := keep _ h5183.rd.m d5203
       replace hB := hB.o l h4761.lo hB.size
       replace h17 := h17.goO l d4778
       replace h3798 := h3798.goO l d4787
       replace ow3802 := ow3802.goO l (Dj.r d4787)
       replace h3805 := h3805.goO l d4789
       replace ow3809 := ow3809.goO l (Dj.r d4789)
       replace h3862 := h3862.goO l d4779
       replace h5183 := h5183.goO l d5203
       replace K12 := K12.only l (Dj.symm (Dj.l d4780)).not
       replace K32 := K32.only l (Dj.symm (Dj.l d4781)).not
       replace K38 := K38.only l (Dj.symm (Dj.l d4782)).not
       replace K666 := K666.only l (Dj.symm (Dj.l d4783)).not
       replace K668 := K668.only l (Dj.symm (Dj.l d4784)).not
       replace K3867 := K3867.only l (Dj.symm (Dj.l d4785)).not
       replace K3900 := K3900.only l (Dj.symm (Dj.l d4786)).not
       have d5242 := Dj.app' (Dj.symm (Dj.r d5239)) (Dj.nil' _)
       have d5243 := Dj.app' (Dj.symm (Dj.r d5240)) (Dj.nil' _)
       refine x_end ?_
       refine x_tn ?_
       refine ⟨.inl (Only.mono l (fun c hc => List.mem_append_right _ (hc))), ?_⟩
       refine b_e 12 rfl (by kernel_rfl) ?_
       refine o_bstore Tryz.sizeOf42 F rfl rfl rfl K3867 (h5183.rd).r.one (by first | simp | decide) rfl (fun w K3867 l => ?_)
       replace hB := hB.o l (fun c hc => by rw [List.mem_singleton] at hc; rw [hc]; exact CK3867) hB.size
       replace h17 := h17.goO l d3875
       replace h3798 := h3798.goO l d3879
       replace ow3802 := ow3802.goO l d3879.r
       replace h3805 := h3805.goO l d3880
       replace ow3809 := ow3809.goO l d3880.r
       replace h3862 := h3862.goO l d3877
       replace h5183 := h5183.goO l (Dj.app' (Dj.symm d5196) (Dj.nil' _))
       replace h5228 := h5228.goO l (Dj.app' (Dj.symm d5237) (Dj.nil' _))
       replace K12 := K12.only l (by simpa using nb3870)
       replace K32 := K32.only l (by simpa using nb3871)
       replace K38 := K38.only l (by simpa using nb3872)
       replace K666 := K666.only l (by simpa using nb3873)
       replace K668 := K668.only l (by simpa using nb3874)
       replace K3900 := K3900.only l (by simpa using nb3909.symm)
       refine x_end ?_
       refine x_tn ?_
       refine ⟨.inr (by kernel_rfl), ?_⟩
       refine b_e 13 rfl (by kernel_rfl) ?_
       refine o_bstore Tryz.sizeOf42 F rfl rfl rfl K3900 (h5228.rd).r.one (by first | simp | decide) rfl (fun w K3900 l => ?_)
       replace hB := hB.o l (fun c hc => by rw [List.mem_singleton] at hc; rw [hc]; exact CK3900) hB.size
       replace h17 := h17.goO l d3910
       replace h3798 := h3798.goO l d3912
       replace ow3802 := ow3802.goO l d3912.r
       replace h3805 := h3805.goO l d3913
       replace ow3809 := ow3809.goO l d3913.r
       replace h3862 := h3862.goO l d3911
       replace h5183 := h5183.goO l (Dj.app' (Dj.symm d5197) (Dj.nil' _))
       replace h5228 := h5228.goO l (Dj.app' (Dj.symm d5238) (Dj.nil' _))
       replace K12 := K12.only l (by simpa using nb3904)
       replace K32 := K32.only l (by simpa using nb3905)
       replace K38 := K38.only l (by simpa using nb3906)
       replace K666 := K666.only l (by simpa using nb3907)
       replace K668 := K668.only l (by simpa using nb3908)
       replace K3867 := K3867.only l (by simpa using nb3909)
       refine x_end ?_
       refine x_tn ?_
       refine ⟨.inr (by kernel_rfl), ?_⟩
       refine b_end (by kernel_rfl) ?_
       refine x_bn ?_
       refine x_tn ?_
       refine x_reg ?_
       refine o_inc F rfl rfl rfl ink4838 (fun a F => ?_)
       refine o_move F rfl rfl (fun a F => ?_)
       refine x_end ?_
       refine x_tn ?_
       replace hR := l_go hR hn4751
       exact ⟨_, Nat.lt_succ_self _, k4838 + 1, rest4839, z4900, v5181, rb5182, z4943, v5226, rb5227, ⟨hd4842.1, hd4842.2.2⟩, rfl, hR, F.sub (sc rfl (sc rfl (sc rfl (sc rfl (sc rfl (sc rfl (sc rfl (sc rfl (sc rfl (sc rfl (sc rfl (sc rfl (sc rfl (sc rfl sn)))))))))))))), hB, h5183, h5228, h17, h3798, ow3802, h3805, ow3809, h3862, K12, K32, K38, K666, K668, K3867, K3900, d5189, d5190, (Dj.app' (Dj.symm d5191) (Dj.nil' _)), (Dj.app' (Dj.symm d5192) (Dj.nil' _)), (Dj.app' (Dj.symm d5193) (Dj.nil' _)), (Dj.app' (Dj.symm d5194) (Dj.nil' _)), (Dj.app' (Dj.symm d5195) (Dj.nil' _)), (Dj.app' (Dj.symm d5196) (Dj.nil' _)), (Dj.app' (Dj.symm d5197) (Dj.nil' _)), d5198, d5201, d5199, d5202, (Dj.app' (Dj.symm (Dj.l d5241)) (Dj.nil' _)), d5230, d5231, (Dj.app' (Dj.symm d5232) (Dj.nil' _)), (Dj.app' (Dj.symm d5233) (Dj.nil' _)), (Dj.app' (Dj.symm d5234) (Dj.nil' _)), (Dj.app' (Dj.symm d5235) (Dj.nil' _)), (Dj.app' (Dj.symm d5236) (Dj.nil' _)), (Dj.app' (Dj.symm d5237) (Dj.nil' _)), (Dj.app' (Dj.symm d5238) (Dj.nil' _)), d5239, (Dj.app' (Dj.symm (Dj.l d5239)) (Dj.nil' _)), d5240, (Dj.app' (Dj.symm (Dj.l d5240)) (Dj.nil' _)), d5241, d5204, d5205, d5242, d5243⟩
      refine dp (fun G => ∀ (v5113 : Value) (rb5114 : List Nat) (v5117 : Value) (rb5118 : List Nat) (a : Act) (w : World), Sk a 103 [(3, .pointer (some ⟨b11, 0, none⟩)), (6, .pointer (some ⟨b31, 0, none⟩)), (7, .pointer (some ⟨b37, 0, none⟩)), (9, .pointer (some ⟨b665, 0, none⟩)), (10, .pointer (some ⟨b667, 0, none⟩)), (12, v3860), (13, .pointer (some ⟨b3866, 0, none⟩)), (14, .pointer (some ⟨b3899, 0, none⟩)), (53, v2), (54, .int .i64 (x2.length : Int)), (55, .int .i64 (k3850 : Int)), (64, v3860), (65, .int .i64 (x3852.length : Int)), (66, .int .i64 (k4838 : Int)), (71, v4757), (74, v5113), (76, v4762), (79, v5117)] → Below w0.heap.size w0 w → Rd (Sl 2 RRel) w v15 x0.rels b16 → Row 2 RRel 101 w0.heap.size w v3799 s3796 rb3800 ib3801 → Own w0.heap.size ib3801 w → Row 2 RCon 130 w0.heap.size w v3806 s3803 rb3807 ib3808 → Own w0.heap.size ib3808 w → Rd (Sl 2 RLiteral) w v3860 x3852 b3861 → Row 1 RInt 2 w0.heap.size w v4757 s4754 rb4758 ([]) → Row 1 RInt 2 w0.heap.size w v4762 s4759 rb4763 ([]) → Row 1 RInt 2 w0.heap.size w v5113 ([x4840.var]) rb5114 ([]) → Row 1 RInt 2 w0.heap.size w v5117 ([x4840.value]) rb5118 ([]) → Blk w b11 #[.int .i64 x0.size, v15] 33 → Blk w b31 #[.int .i64 0, (.slice none 0 0)] 33 → Blk w b37 #[.int .i64 0, (.slice none 0 0)] 60 → Blk w b665 #[.int .i64 z83.size, v3799] 33 → Blk w b667 #[.int .i64 z105.vars, v3806] 60 → Blk w b3866 #[.int .i64 (s3796.length : Int), v4757] 130 → Blk w b3899 #[v4762] 42 → Dj b16 rb5114 → Dj b3861 rb5114 → Dj (rb3800 ++ ib3801) rb5114 → Dj (rb3807 ++ ib3808) rb5114 → Dj (rb4758 ++ []) rb5114 → Dj (rb4763 ++ []) rb5114 → Dj [b11] rb5114 → Dj [b31] rb5114 → Dj [b37] rb5114 → Dj [b665] rb5114 → Dj [b667] rb5114 → Dj [b3866] rb5114 → Dj [b3899] rb5114 → Dj (rb5114 ++ []) rb3800 → Dj (rb5114 ++ []) ib3801 → Dj (rb5114 ++ []) rb3807 → Dj (rb5114 ++ []) ib3808 → Dj (rb5114 ++ []) rb4758 → Dj (rb5114 ++ []) rb4763 → Dj b16 rb5118 → Dj b3861 rb5118 → Dj (rb3800 ++ ib3801) rb5118 → Dj (rb3807 ++ ib3808) rb5118 → Dj (rb4758 ++ []) rb5118 → Dj (rb4763 ++ []) rb5118 → Dj (rb5114 ++ []) rb5118 → Dj [b11] rb5118 → Dj [b31] rb5118 → Dj [b37] rb5118 → Dj [b665] rb5118 → Dj [b667] rb5118 → Dj [b3866] rb5118 → Dj [b3899] rb5118 → Dj (rb5118 ++ []) rb3800 → Dj (rb5118 ++ []) ib3801 → Dj (rb5118 ++ []) rb3807 → Dj (rb5118 ++ []) ib3808 → Dj (rb5118 ++ []) rb4758 → Dj (rb5118 ++ []) rb4763 → Dj (rb5118 ++ []) rb5114 → ∀ ls, ls = #[true, true, true, true, true, false, true, true, true, true, false, false, false, false] → G 5 ls a w) ?_ (fun H5161 => ?_)
      ·
       intro v5113 rb5114 v5117 rb5118 a w F hB h17 h3798 ow3802 h3805 ow3809 h3862 h4756 h4761 h5115 h5119 K12 K32 K38 K666 K668 K3867 K3900 d5121 d5122 d5123 d5124 d5125 d5126 d5127 d5128 d5129 d5130 d5131 d5132 d5133 d5134 d5135 d5136 d5137 d5138 d5139 d5140 d5141 d5142 d5143 d5144 d5145 d5146 d5147 d5148 d5149 d5150 d5151 d5152 d5153 d5154 d5155 d5156 d5157 d5158 d5159 d5160 ls hls
       subst hls
       refine b_e 5 rfl (by kernel_rfl) ?_
       refine o_append (sz := 1) (R := RInt) (z := (.int .i64 0)) (bytes := 8) Tryz.underlying42 (by kernel_rfl) rfl (by decide) (by decide) (by decide) F rfl rfl rfl h4756 h5115.src hB.size (Dj.nil _) c4901 (fun a w v5162 rb5163 h5164 l keep F => ?_)
       replace h5164 := row_nil2 h5164
       have d5166 := keep _ h17.m d4764
       have d5167 := keep _ h3862.m d4765
       have d5168 := keep _ (inm1 K12) (Dj.symm (Dj.l d4766))
       have d5169 := keep _ (inm1 K32) (Dj.symm (Dj.l d4767))
       have d5170 := keep _ (inm1 K38) (Dj.symm (Dj.l d4768))
       have d5171 := keep _ (inm1 K666) (Dj.symm (Dj.l d4769))
       have d5172 := keep _ (inm1 K668) (Dj.symm (Dj.l d4770))
       have d5173 := keep _ (inm1 K3867) (Dj.symm (Dj.l d4771))
       have d5174 := keep _ (inm1 K3900) (Dj.symm (Dj.l d4772))
       have d5175 := keep _ h3798.rd.m d4773
       have d5176 := keep _ h3805.rd.m d4775
       have d5177 := keep _ h4761.rd.m d4777
       have d5178 := keep _ h5119.rd.m d5158
       replace hB := hB.o l h4756.lo hB.size
       replace h17 := h17.goO l d4764
       replace h3798 := h3798.goO l d4773
       replace ow3802 := ow3802.goO l (Dj.r d4773)
       replace h3805 := h3805.goO l d4775
       replace ow3809 := ow3809.goO l (Dj.r d4775)
       replace h3862 := h3862.goO l d4765
       replace h4761 := h4761.goO l d4777
       replace h5119 := h5119.goO l d5158
       replace K12 := K12.only l (Dj.symm (Dj.l d4766)).not
       replace K32 := K32.only l (Dj.symm (Dj.l d4767)).not
       replace K38 := K38.only l (Dj.symm (Dj.l d4768)).not
       replace K666 := K666.only l (Dj.symm (Dj.l d4769)).not
       replace K668 := K668.only l (Dj.symm (Dj.l d4770)).not
       replace K3867 := K3867.only l (Dj.symm (Dj.l d4771)).not
       replace K3900 := K3900.only l (Dj.symm (Dj.l d4772)).not
       have d5179 := Dj.app' (Dj.symm (Dj.r d5175)) (Dj.nil' _)
       have d5180 := Dj.app' (Dj.symm (Dj.r d5176)) (Dj.nil' _)
       refine x_end ?_
       refine x_tn ?_
       refine ⟨.inl (Only.mono l (fun c hc => List.mem_append_left _ hc)), ?_⟩
       refine b_q 11 (by kernel_rfl) rfl (by kernel_rfl) (by kernel_rfl) (by kernel_rfl) (by kernel_rfl) ?_
       refine v_val F rfl (fun w l => r_bfield fa130_1 F rfl rfl) (fun a F => ?_)
       exact H5225 v5162 rb5163 v5117 rb5118 _ _ (F.sub (sc rfl (sc rfl (sc rfl (sc rfl (sc rfl (sc rfl (sc rfl (sc rfl (sc rfl (sc rfl (sc rfl (sc rfl (sc rfl (sc rfl (sc rfl (sc rfl (sc rfl (sc rfl sn))))))))))))))))))) hB h17 h3798 ow3802 h3805 ow3809 h3862 h4761 h5164 h5119 K12 K32 K38 K666 K668 K3867 K3900 d5166 d5167 d5168 d5169 d5170 d5171 d5172 d5173 d5174 d5175 d5176 d5177 (Dj.app' (Dj.symm (Dj.l d5175)) (Dj.nil' _)) (Dj.app' (Dj.symm (Dj.l d5176)) (Dj.nil' _)) (Dj.app' (Dj.symm (Dj.l d5177)) (Dj.nil' _)) d5179 d5180 d5140 d5141 d5142 d5143 d5145 (Dj.app' (Dj.symm (Dj.l d5178)) (Dj.nil' _)) d5147 d5148 d5149 d5150 d5151 d5152 d5153 d5154 d5155 d5156 d5157 d5159 d5178 _ (by kernel_rfl)
      refine b_q 0 (by kernel_rfl) rfl (by kernel_rfl) (by kernel_rfl) (by kernel_rfl) (by kernel_rfl) ?_
      refine v_val F rfl (fun w l => r_bfield fa130_1 F rfl rfl) (fun a F => ?_)
      refine b_q 1 (by kernel_rfl) rfl (by kernel_rfl) (by kernel_rfl) (by kernel_rfl) (by kernel_rfl) ?_
      refine v_val F rfl (fun w l => r_load1 Tryz.isAgg42 F rfl (((K3867.only l (Dj.not dO4968)).cell _).trans rfl)) (fun a F => ?_)
      refine b_q 2 (by kernel_rfl) rfl (by kernel_rfl) (by kernel_rfl) (by kernel_rfl) (by kernel_rfl) ?_
      refine v_val F rfl (fun w l => r_bfield fa132_0 F rfl rfl) (fun a F => ?_)
      refine b_q 3 (by kernel_rfl) rfl (by kernel_rfl) (by kernel_rfl) (by kernel_rfl) (by kernel_rfl) ?_
      refine v_val F rfl (fun w l => r_load1 Tryz.isAgg2 F rfl (((K4853.only l (Dj.not dO4970)).cell _).trans rfl)) (fun a F => ?_)
      refine b_q 6 (by kernel_rfl) rfl (by kernel_rfl) (by kernel_rfl) (by kernel_rfl) (by kernel_rfl) ?_
      refine v_val F rfl (fun w l => r_load1 Tryz.isAgg42 F rfl (((K3900.only l (Dj.not dO4969)).cell _).trans rfl)) (fun a F => ?_)
      refine b_q 7 (by kernel_rfl) rfl (by kernel_rfl) (by kernel_rfl) (by kernel_rfl) (by kernel_rfl) ?_
      refine v_val F rfl (fun w l => r_bfield fa132_1 F rfl rfl) (fun a F => ?_)
      refine b_q 8 (by kernel_rfl) rfl (by kernel_rfl) (by kernel_rfl) (by kernel_rfl) (by kernel_rfl) ?_
      refine v_val F rfl (fun w l => r_load1 Tryz.isAgg2 F rfl (((K4853.only l (Dj.not dO4970)).cell _).trans rfl)) (fun a F => ?_)
      refine b_es [4, 9] (by kernel_rfl) (by simp) ⟨⟨_, rfl, ?_⟩, ⟨_, rfl, ?_⟩, trivial⟩
      ·
       refine o_lit1 (R := RInt) (y := x4840.var) Tryz.underlying42 Tryz.sizeOf2 Tryz.zeroValue2 rfl (by decide) (by decide) F rfl rfl (El.int i4874) (fun a w v4976 rb4977 h4978 l F => ?_)
       have d4980 := Dj.new h17.m h4978.ownR (Nat.le_refl _)
       have d4981 := Dj.new h3862.m h4978.ownR (Nat.le_refl _)
       have d4982 := Dj.new h3798.rd.m h4978.ownR (Nat.le_refl _)
       have d4983 := Dj.new h3805.rd.m h4978.ownR (Nat.le_refl _)
       have d4984 := Dj.new h4756.rd.m h4978.ownR (Nat.le_refl _)
       have d4985 := Dj.new h4761.rd.m h4978.ownR (Nat.le_refl _)
       have d4986 := Dj.new (inm1 K12) h4978.ownR (Nat.le_refl _)
       have d4987 := Dj.new (inm1 K32) h4978.ownR (Nat.le_refl _)
       have d4988 := Dj.new (inm1 K38) h4978.ownR (Nat.le_refl _)
       have d4989 := Dj.new (inm1 K666) h4978.ownR (Nat.le_refl _)
       have d4990 := Dj.new (inm1 K668) h4978.ownR (Nat.le_refl _)
       have d4991 := Dj.new (inm1 K3867) h4978.ownR (Nat.le_refl _)
       have d4992 := Dj.new (inm1 K3900) h4978.ownR (Nat.le_refl _)
       have d4993 := Dj.app' (Dj.new h3798.memR h4978.ownR (Nat.le_refl _)).symm (Dj.nil' _)
       have d4994 := Dj.app' (Dj.new h3798.mem h4978.ownR (Nat.le_refl _)).symm (Dj.nil' _)
       have d4995 := Dj.app' (Dj.new h3805.memR h4978.ownR (Nat.le_refl _)).symm (Dj.nil' _)
       have d4996 := Dj.app' (Dj.new h3805.mem h4978.ownR (Nat.le_refl _)).symm (Dj.nil' _)
       have d4997 := Dj.app' (Dj.new h4756.memR h4978.ownR (Nat.le_refl _)).symm (Dj.nil' _)
       have d4998 := Dj.app' (Dj.new h4761.memR h4978.ownR (Nat.le_refl _)).symm (Dj.nil' _)
       replace h4978 := h4978.base hB.size
       replace hB := Below.through l hB
       replace h17 := h17.go l
       replace h3798 := h3798.go l
       replace ow3802 := ow3802.go l
       replace h3805 := h3805.go l
       replace ow3809 := ow3809.go l
       replace h3862 := h3862.go l
       replace h4756 := h4756.go l
       replace h4761 := h4761.go l
       replace K12 := K12.thru l
       replace K32 := K32.thru l
       replace K38 := K38.thru l
       replace K666 := K666.thru l
       replace K668 := K668.thru l
       replace K3867 := K3867.thru l
       replace K3900 := K3900.thru l
       refine x_end ?_
       refine x_tn ?_
       refine ⟨.inl (Only.of_below l), ?_⟩
       refine b_es [5, 9] (by kernel_rfl) (by simp) ⟨⟨_, rfl, ?_⟩, ⟨_, rfl, ?_⟩, trivial⟩
       ·
        refine o_append (sz := 1) (R := RInt) (z := (.int .i64 0)) (bytes := 8) Tryz.underlying42 (by kernel_rfl) rfl (by decide) (by decide) (by decide) F rfl rfl rfl h4756 h4978.src hB.size (Dj.nil _) c4901 (fun a w v4999 rb5000 h5001 l keep F => ?_)
        replace h5001 := row_nil2 h5001
        have d5003 := keep _ h17.m d4764
        have d5004 := keep _ h3862.m d4765
        have d5005 := keep _ (inm1 K12) (Dj.symm (Dj.l d4766))
        have d5006 := keep _ (inm1 K32) (Dj.symm (Dj.l d4767))
        have d5007 := keep _ (inm1 K38) (Dj.symm (Dj.l d4768))
        have d5008 := keep _ (inm1 K666) (Dj.symm (Dj.l d4769))
        have d5009 := keep _ (inm1 K668) (Dj.symm (Dj.l d4770))
        have d5010 := keep _ (inm1 K3867) (Dj.symm (Dj.l d4771))
        have d5011 := keep _ (inm1 K3900) (Dj.symm (Dj.l d4772))
        have d5012 := keep _ h3798.rd.m d4773
        have d5013 := keep _ h3805.rd.m d4775
        have d5014 := keep _ h4761.rd.m d4777
        replace hB := hB.o l h4756.lo hB.size
        replace h17 := h17.goO l d4764
        replace h3798 := h3798.goO l d4773
        replace ow3802 := ow3802.goO l (Dj.r d4773)
        replace h3805 := h3805.goO l d4775
        replace ow3809 := ow3809.goO l (Dj.r d4775)
        replace h3862 := h3862.goO l d4765
        replace h4761 := h4761.goO l d4777
        replace K12 := K12.only l (Dj.symm (Dj.l d4766)).not
        replace K32 := K32.only l (Dj.symm (Dj.l d4767)).not
        replace K38 := K38.only l (Dj.symm (Dj.l d4768)).not
        replace K666 := K666.only l (Dj.symm (Dj.l d4769)).not
        replace K668 := K668.only l (Dj.symm (Dj.l d4770)).not
        replace K3867 := K3867.only l (Dj.symm (Dj.l d4771)).not
        replace K3900 := K3900.only l (Dj.symm (Dj.l d4772)).not
        have d5015 := Dj.app' (Dj.symm (Dj.r d5012)) (Dj.nil' _)
        have d5016 := Dj.app' (Dj.symm (Dj.r d5013)) (Dj.nil' _)
        refine x_end ?_
        refine x_tn ?_
        refine ⟨.inl (Only.mono l (fun c hc => List.mem_append_left _ hc)), ?_⟩
        refine b_q 11 (by kernel_rfl) rfl (by kernel_rfl) (by kernel_rfl) (by kernel_rfl) (by kernel_rfl) ?_
        refine v_val F rfl (fun w l => r_bfield fa130_1 F rfl rfl) (fun a F => ?_)
        refine b_e 9 rfl (by kernel_rfl) ?_
        refine o_lit1 (R := RInt) (y := x4840.value) Tryz.underlying42 Tryz.sizeOf2 Tryz.zeroValue2 rfl (by decide) (by decide) F rfl rfl (El.int i4875) (fun a w v5017 rb5018 h5019 l F => ?_)
        have d5021 := Dj.new h17.m h5019.ownR (Nat.le_refl _)
        have d5022 := Dj.new h3862.m h5019.ownR (Nat.le_refl _)
        have d5023 := Dj.new h3798.rd.m h5019.ownR (Nat.le_refl _)
        have d5024 := Dj.new h3805.rd.m h5019.ownR (Nat.le_refl _)
        have d5025 := Dj.new h4761.rd.m h5019.ownR (Nat.le_refl _)
        have d5026 := Dj.new h5001.rd.m h5019.ownR (Nat.le_refl _)
        have d5027 := Dj.new (inm1 K12) h5019.ownR (Nat.le_refl _)
        have d5028 := Dj.new (inm1 K32) h5019.ownR (Nat.le_refl _)
        have d5029 := Dj.new (inm1 K38) h5019.ownR (Nat.le_refl _)
        have d5030 := Dj.new (inm1 K666) h5019.ownR (Nat.le_refl _)
        have d5031 := Dj.new (inm1 K668) h5019.ownR (Nat.le_refl _)
        have d5032 := Dj.new (inm1 K3867) h5019.ownR (Nat.le_refl _)
        have d5033 := Dj.new (inm1 K3900) h5019.ownR (Nat.le_refl _)
        have d5034 := Dj.app' (Dj.new h3798.memR h5019.ownR (Nat.le_refl _)).symm (Dj.nil' _)
        have d5035 := Dj.app' (Dj.new h3798.mem h5019.ownR (Nat.le_refl _)).symm (Dj.nil' _)
        have d5036 := Dj.app' (Dj.new h3805.memR h5019.ownR (Nat.le_refl _)).symm (Dj.nil' _)
        have d5037 := Dj.app' (Dj.new h3805.mem h5019.ownR (Nat.le_refl _)).symm (Dj.nil' _)
        have d5038 := Dj.app' (Dj.new h4761.memR h5019.ownR (Nat.le_refl _)).symm (Dj.nil' _)
        have d5039 := Dj.app' (Dj.new h5001.memR h5019.ownR (Nat.le_refl _)).symm (Dj.nil' _)
        replace h5019 := h5019.base hB.size
        replace hB := Below.through l hB
        replace h17 := h17.go l
        replace h3798 := h3798.go l
        replace ow3802 := ow3802.go l
        replace h3805 := h3805.go l
        replace ow3809 := ow3809.go l
        replace h3862 := h3862.go l
        replace h4761 := h4761.go l
        replace h5001 := h5001.go l
        replace K12 := K12.thru l
        replace K32 := K32.thru l
        replace K38 := K38.thru l
        replace K666 := K666.thru l
        replace K668 := K668.thru l
        replace K3867 := K3867.thru l
        replace K3900 := K3900.thru l
        refine x_end ?_
        refine x_tn ?_
        refine ⟨.inl (Only.of_below l), ?_⟩
        exact H5225 v4999 rb5000 v5017 rb5018 _ _ (F.sub (sc rfl (sc rfl (sc rfl (sc rfl (sc rfl (sc rfl (sc rfl (sc rfl (sc rfl (sc rfl (sc rfl (sc rfl (sc rfl (sc rfl (sc rfl (sc rfl (sc rfl (sc rfl sn))))))))))))))))))) hB h17 h3798 ow3802 h3805 ow3809 h3862 h4761 h5001 h5019 K12 K32 K38 K666 K668 K3867 K3900 d5003 d5004 d5005 d5006 d5007 d5008 d5009 d5010 d5011 d5012 d5013 d5014 (Dj.app' (Dj.symm (Dj.l d5012)) (Dj.nil' _)) (Dj.app' (Dj.symm (Dj.l d5013)) (Dj.nil' _)) (Dj.app' (Dj.symm (Dj.l d5014)) (Dj.nil' _)) d5015 d5016 d5021 d5022 d5023 d5024 d5025 d5026 d5027 d5028 d5029 d5030 d5031 d5032 d5033 d5034 d5035 d5036 d5037 d5038 d5039 _ (by kernel_rfl)
       refine o_lit1 (R := RInt) (y := x4840.value) Tryz.underlying42 Tryz.sizeOf2 Tryz.zeroValue2 rfl (by decide) (by decide) F rfl rfl (El.int i4875) (fun a w v5040 rb5041 h5042 l F => ?_)
       have d5044 := Dj.new h17.m h5042.ownR (Nat.le_refl _)
       have d5045 := Dj.new h3862.m h5042.ownR (Nat.le_refl _)
       have d5046 := Dj.new h3798.rd.m h5042.ownR (Nat.le_refl _)
       have d5047 := Dj.new h3805.rd.m h5042.ownR (Nat.le_refl _)
       have d5048 := Dj.new h4756.rd.m h5042.ownR (Nat.le_refl _)
       have d5049 := Dj.new h4761.rd.m h5042.ownR (Nat.le_refl _)
       have d5050 := Dj.new h4978.rd.m h5042.ownR (Nat.le_refl _)
       have d5051 := Dj.new (inm1 K12) h5042.ownR (Nat.le_refl _)
       have d5052 := Dj.new (inm1 K32) h5042.ownR (Nat.le_refl _)
       have d5053 := Dj.new (inm1 K38) h5042.ownR (Nat.le_refl _)
       have d5054 := Dj.new (inm1 K666) h5042.ownR (Nat.le_refl _)
       have d5055 := Dj.new (inm1 K668) h5042.ownR (Nat.le_refl _)
       have d5056 := Dj.new (inm1 K3867) h5042.ownR (Nat.le_refl _)
       have d5057 := Dj.new (inm1 K3900) h5042.ownR (Nat.le_refl _)
       have d5058 := Dj.app' (Dj.new h3798.memR h5042.ownR (Nat.le_refl _)).symm (Dj.nil' _)
       have d5059 := Dj.app' (Dj.new h3798.mem h5042.ownR (Nat.le_refl _)).symm (Dj.nil' _)
       have d5060 := Dj.app' (Dj.new h3805.memR h5042.ownR (Nat.le_refl _)).symm (Dj.nil' _)
       have d5061 := Dj.app' (Dj.new h3805.mem h5042.ownR (Nat.le_refl _)).symm (Dj.nil' _)
       have d5062 := Dj.app' (Dj.new h4756.memR h5042.ownR (Nat.le_refl _)).symm (Dj.nil' _)
       have d5063 := Dj.app' (Dj.new h4761.memR h5042.ownR (Nat.le_refl _)).symm (Dj.nil' _)
       have d5064 := Dj.app' (Dj.new h4978.memR h5042.ownR (Nat.le_refl _)).symm (Dj.nil' _)
       replace h5042 := h5042.base hB.size
       replace hB := Below.through l hB
       replace h17 := h17.go l
       replace h3798 := h3798.go l
       replace ow3802 := ow3802.go l
       replace h3805 := h3805.go l
       replace ow3809 := ow3809.go l
       replace h3862 := h3862.go l
       replace h4756 := h4756.go l
       replace h4761 := h4761.go l
       replace h4978 := h4978.go l
       replace K12 := K12.thru l
       replace K32 := K32.thru l
       replace K38 := K38.thru l
       replace K666 := K666.thru l
       replace K668 := K668.thru l
       replace K3867 := K3867.thru l
       replace K3900 := K3900.thru l
       refine x_end ?_
       refine x_tn ?_
       refine ⟨.inl (Only.of_below l), ?_⟩
       exact H5161 v4976 rb4977 v5040 rb5041 _ _ (F.sub (sc rfl (sc rfl (sc rfl (sc rfl (sc rfl (sc rfl (sc rfl (sc rfl (sc rfl (sc rfl (sc rfl (sc rfl (sc rfl (sc rfl (sc rfl (sc rfl (sc rfl (sc rfl sn))))))))))))))))))) hB h17 h3798 ow3802 h3805 ow3809 h3862 h4756 h4761 h4978 h5042 K12 K32 K38 K666 K668 K3867 K3900 d4980 d4981 d4982 d4983 d4984 d4985 d4986 d4987 d4988 d4989 d4990 d4991 d4992 d4993 d4994 d4995 d4996 d4997 d4998 d5044 d5045 d5046 d5047 d5048 d5049 d5050 d5051 d5052 d5053 d5054 d5055 d5056 d5057 d5058 d5059 d5060 d5061 d5062 d5063 d5064 _ (by kernel_rfl)
      refine o_lit1 (R := RInt) (y := x4840.value) Tryz.underlying42 Tryz.sizeOf2 Tryz.zeroValue2 rfl (by decide) (by decide) F rfl rfl (El.int i4875) (fun a w v5065 rb5066 h5067 l F => ?_)
      have d5069 := Dj.new h17.m h5067.ownR (Nat.le_refl _)
      have d5070 := Dj.new h3862.m h5067.ownR (Nat.le_refl _)
      have d5071 := Dj.new h3798.rd.m h5067.ownR (Nat.le_refl _)
      have d5072 := Dj.new h3805.rd.m h5067.ownR (Nat.le_refl _)
      have d5073 := Dj.new h4756.rd.m h5067.ownR (Nat.le_refl _)
      have d5074 := Dj.new h4761.rd.m h5067.ownR (Nat.le_refl _)
      have d5075 := Dj.new (inm1 K12) h5067.ownR (Nat.le_refl _)
      have d5076 := Dj.new (inm1 K32) h5067.ownR (Nat.le_refl _)
      have d5077 := Dj.new (inm1 K38) h5067.ownR (Nat.le_refl _)
      have d5078 := Dj.new (inm1 K666) h5067.ownR (Nat.le_refl _)
      have d5079 := Dj.new (inm1 K668) h5067.ownR (Nat.le_refl _)
      have d5080 := Dj.new (inm1 K3867) h5067.ownR (Nat.le_refl _)
      have d5081 := Dj.new (inm1 K3900) h5067.ownR (Nat.le_refl _)
      have d5082 := Dj.app' (Dj.new h3798.memR h5067.ownR (Nat.le_refl _)).symm (Dj.nil' _)
      have d5083 := Dj.app' (Dj.new h3798.mem h5067.ownR (Nat.le_refl _)).symm (Dj.nil' _)
      have d5084 := Dj.app' (Dj.new h3805.memR h5067.ownR (Nat.le_refl _)).symm (Dj.nil' _)
      have d5085 := Dj.app' (Dj.new h3805.mem h5067.ownR (Nat.le_refl _)).symm (Dj.nil' _)
      have d5086 := Dj.app' (Dj.new h4756.memR h5067.ownR (Nat.le_refl _)).symm (Dj.nil' _)
      have d5087 := Dj.app' (Dj.new h4761.memR h5067.ownR (Nat.le_refl _)).symm (Dj.nil' _)
      replace h5067 := h5067.base hB.size
      replace hB := Below.through l hB
      replace h17 := h17.go l
      replace h3798 := h3798.go l
      replace ow3802 := ow3802.go l
      replace h3805 := h3805.go l
      replace ow3809 := ow3809.go l
      replace h3862 := h3862.go l
      replace h4756 := h4756.go l
      replace h4761 := h4761.go l
      replace K12 := K12.thru l
      replace K32 := K32.thru l
      replace K38 := K38.thru l
      replace K666 := K666.thru l
      replace K668 := K668.thru l
      replace K3867 := K3867.thru l
      replace K3900 := K3900.thru l
      refine x_end ?_
      refine x_tn ?_
      refine ⟨.inl (Only.of_below l), ?_⟩
      refine b_e 4 rfl (by kernel_rfl) ?_
      refine o_lit1 (R := RInt) (y := x4840.var) Tryz.underlying42 Tryz.sizeOf2 Tryz.zeroValue2 rfl (by decide) (by decide) F rfl rfl (El.int i4874) (fun a w v5088 rb5089 h5090 l F => ?_)
      have d5092 := Dj.new h17.m h5090.ownR (Nat.le_refl _)
      have d5093 := Dj.new h3862.m h5090.ownR (Nat.le_refl _)
      have d5094 := Dj.new h3798.rd.m h5090.ownR (Nat.le_refl _)
      have d5095 := Dj.new h3805.rd.m h5090.ownR (Nat.le_refl _)
      have d5096 := Dj.new h4756.rd.m h5090.ownR (Nat.le_refl _)
      have d5097 := Dj.new h4761.rd.m h5090.ownR (Nat.le_refl _)
      have d5098 := Dj.new h5067.rd.m h5090.ownR (Nat.le_refl _)
      have d5099 := Dj.new (inm1 K12) h5090.ownR (Nat.le_refl _)
      have d5100 := Dj.new (inm1 K32) h5090.ownR (Nat.le_refl _)
      have d5101 := Dj.new (inm1 K38) h5090.ownR (Nat.le_refl _)
      have d5102 := Dj.new (inm1 K666) h5090.ownR (Nat.le_refl _)
      have d5103 := Dj.new (inm1 K668) h5090.ownR (Nat.le_refl _)
      have d5104 := Dj.new (inm1 K3867) h5090.ownR (Nat.le_refl _)
      have d5105 := Dj.new (inm1 K3900) h5090.ownR (Nat.le_refl _)
      have d5106 := Dj.app' (Dj.new h3798.memR h5090.ownR (Nat.le_refl _)).symm (Dj.nil' _)
      have d5107 := Dj.app' (Dj.new h3798.mem h5090.ownR (Nat.le_refl _)).symm (Dj.nil' _)
      have d5108 := Dj.app' (Dj.new h3805.memR h5090.ownR (Nat.le_refl _)).symm (Dj.nil' _)
      have d5109 := Dj.app' (Dj.new h3805.mem h5090.ownR (Nat.le_refl _)).symm (Dj.nil' _)
      have d5110 := Dj.app' (Dj.new h4756.memR h5090.ownR (Nat.le_refl _)).symm (Dj.nil' _)
      have d5111 := Dj.app' (Dj.new h4761.memR h5090.ownR (Nat.le_refl _)).symm (Dj.nil' _)
      have d5112 := Dj.app' (Dj.new h5067.memR h5090.ownR (Nat.le_refl _)).symm (Dj.nil' _)
      replace h5090 := h5090.base hB.size
      replace hB := Below.through l hB
      replace h17 := h17.go l
      replace h3798 := h3798.go l
      replace ow3802 := ow3802.go l
      replace h3805 := h3805.go l
      replace ow3809 := ow3809.go l
      replace h3862 := h3862.go l
      replace h4756 := h4756.go l
      replace h4761 := h4761.go l
      replace h5067 := h5067.go l
      replace K12 := K12.thru l
      replace K32 := K32.thru l
      replace K38 := K38.thru l
      replace K666 := K666.thru l
      replace K668 := K668.thru l
      replace K3867 := K3867.thru l
      replace K3900 := K3900.thru l
      refine x_end ?_
      refine x_tn ?_
      refine ⟨.inl (Only.of_below l), ?_⟩
      exact H5161 v5088 rb5089 v5065 rb5066 _ _ (F.sub (sc rfl (sc rfl (sc rfl (sc rfl (sc rfl (sc rfl (sc rfl (sc rfl (sc rfl (sc rfl (sc rfl (sc rfl (sc rfl (sc rfl (sc rfl (sc rfl (sc rfl (sc rfl sn))))))))))))))))))) hB h17 h3798 ow3802 h3805 ow3809 h3862 h4756 h4761 h5090 h5067 K12 K32 K38 K666 K668 K3867 K3900 d5092 d5093 d5094 d5095 d5096 d5097 d5099 d5100 d5101 d5102 d5103 d5104 d5105 d5106 d5107 d5108 d5109 d5110 d5111 d5069 d5070 d5071 d5072 d5073 d5074 d5112 d5075 d5076 d5077 d5078 d5079 d5080 d5081 d5082 d5083 d5084 d5085 d5086 d5087 d5098 _ (by kernel_rfl)
    intro a w ⟨s4796, v4799, rb4800, s4801, v4804, rb4805, ho4750, F, hB, h4798, h4803, h17, h3798, ow3802, h3805, ow3809, h3862, K12, K32, K38, K666, K668, K3867, K3900, d4806, d4807, d4808, d4809, d4810, d4811, d4812, d4813, d4814, d4815, d4816, d4817, d4818, d4819, d4820, d4821, d4822, d4823, d4824, d4825, d4826, d4827, d4828, d4829, d4830, d4831, d4832, d4833, d4834, d4835, d4836, d4837⟩
    subst ho4750
    have hR := then_nx hk4749
    refine x_tn ?_
    refine x_seq ?_
    refine x_reg ?_
    refine o_bfield fa60_1 F rfl rfl rfl (fun a F => ?_)
    refine o_bload Tryz.isAgg58 F rfl rfl K668 rfl (fun a F => ?_)
    refine o_bloadA (cs := [.int .i64 (s3796.length : Int), v4799]) Tryz.isAgg130 Tryz.sizeOf130 F rfl rfl K3867 rfl (fun j hj => by match j, hj with | 0, _ => rfl | 1, _ => rfl) (fun a F => ?_)
    have h5244 := RCon.mk2 (w := w) i3864 h4798.rd
    refine o_lit1 (R := RCon) (y := (Con.mk (s3796.length : Int) s4796)) Tryz.underlying58 Tryz.sizeOf130 Tryz.zeroValue130 rfl (by decide) (by decide) F rfl rfl (El.agg h5244) (fun a w v5245 rb5246 h5247 l F => ?_)
    have ow5248 := Own.go (h4798.own (Own.nil _ _)) l
    have d5250 := Dj.new h17.m h5247.ownR (Nat.le_refl _)
    have d5251 := Dj.new h3862.m h5247.ownR (Nat.le_refl _)
    have d5252 := Dj.new h3798.rd.m h5247.ownR (Nat.le_refl _)
    have d5253 := Dj.new h3805.rd.m h5247.ownR (Nat.le_refl _)
    have d5254 := Dj.new h4803.rd.m h5247.ownR (Nat.le_refl _)
    have d5255 := Dj.new (inm1 K12) h5247.ownR (Nat.le_refl _)
    have d5256 := Dj.new (inm1 K32) h5247.ownR (Nat.le_refl _)
    have d5257 := Dj.new (inm1 K38) h5247.ownR (Nat.le_refl _)
    have d5258 := Dj.new (inm1 K666) h5247.ownR (Nat.le_refl _)
    have d5259 := Dj.new (inm1 K668) h5247.ownR (Nat.le_refl _)
    have d5260 := Dj.new (inm1 K3900) h5247.ownR (Nat.le_refl _)
    have d5261 := Dj.app' (Dj.new h3798.memR h5247.ownR (Nat.le_refl _)).symm d4816
    have d5262 := Dj.app' (Dj.new h3798.mem h5247.ownR (Nat.le_refl _)).symm d4834
    have d5263 := Dj.app' (Dj.new h3805.memR h5247.ownR (Nat.le_refl _)).symm d4818
    have d5264 := Dj.app' (Dj.new h3805.mem h5247.ownR (Nat.le_refl _)).symm d4835
    have d5265 := Dj.app' (Dj.new h4803.memR h5247.ownR (Nat.le_refl _)).symm d4833
    have d5266 := Dj.app' (Dj.symm d5255) d4808
    have d5267 := Dj.app' (Dj.symm d5256) d4809
    have d5268 := Dj.app' (Dj.symm d5257) d4810
    have d5269 := Dj.app' (Dj.symm d5258) d4811
    have d5270 := Dj.app' (Dj.symm d5259) d4812
    have d5272 := Dj.app' (Dj.symm d5260) d4814
    replace h5247 := h5247.base hB.size
    replace hB := Below.through l hB
    replace h17 := h17.go l
    replace h3798 := h3798.go l
    replace ow3802 := ow3802.go l
    replace h3805 := h3805.go l
    replace ow3809 := ow3809.go l
    replace h3862 := h3862.go l
    replace h4803 := h4803.go l
    replace K12 := K12.thru l
    replace K32 := K32.thru l
    replace K38 := K38.thru l
    replace K666 := K666.thru l
    replace K668 := K668.thru l
    replace K3900 := K3900.thru l
    obtain ⟨z5273, c5274, hR⟩ := bnd_some hR
    refine o_append (sz := 2) (R := RCon) (z := (.agg #[.int .i64 0, (.slice none 0 0)])) (bytes := 32) Tryz.underlying58 (by kernel_rfl) rfl (by decide) (by decide) (by decide) F rfl rfl rfl h3805 h5247.src hB.size (Dj.symm d5263.r) c5274 (fun a w v5275 rb5276 h5277 l keep F => ?_)
    have ow5278 := Own.append (Own.goO ow3809 l h3805.dj.symm) (Own.goO ow5248 l (Dj.symm (Dj.symm d5263.r))) (Dj.symm d5264.r)
    have d5280 := keep _ h17.m d3817
    have d5281 := keep _ (inm1 K12) (Dj.symm (Dj.l d3818))
    have d5282 := keep _ (inm1 K32) (Dj.symm (Dj.l d3819))
    have d5283 := keep _ (inm1 K38) (Dj.symm (Dj.l d3820))
    have d5284 := keep _ (inm1 K666) (Dj.symm (Dj.l d3821))
    have d5285 := keep _ (inm1 K668) (Dj.symm (Dj.l d3822))
    have d5286 := keep _ h3798.rd.m d3823
    have d5287 := keep _ (inm1 K3900) d3902
    have d5288 := keep _ h4803.rd.m d4832
    replace hB := hB.o l h3805.lo hB.size
    replace h17 := h17.goO l d3817
    replace h3798 := h3798.goO l d3823
    replace ow3802 := ow3802.goO l (Dj.r d3823)
    replace h3862 := h3862.goO l (Dj.sub (Dj.sub (Dj.new A2.m h3805.ownR (Nat.le_refl _)) s3859) s3863)
    replace h4803 := h4803.goO l d4832
    replace K12 := K12.only l (Dj.symm (Dj.l d3818)).not
    replace K32 := K32.only l (Dj.symm (Dj.l d3819)).not
    replace K38 := K38.only l (Dj.symm (Dj.l d3820)).not
    replace K666 := K666.only l (Dj.symm (Dj.l d3821)).not
    replace K668 := K668.only l (Dj.symm (Dj.l d3822)).not
    replace K3900 := K3900.only l d3902.not
    have d5289 := Dj.app' (Dj.symm (Dj.l d5286)) (Dj.app' (Dj.r d3816) (Dj.r d5261))
    have d5290 := Dj.app' (Dj.symm (Dj.l d5288)) (Dj.app' (Dj.r d4831) (Dj.r d5265))
    have d5291 := Dj.app' (Dj.symm (Dj.r d5286)) (Dj.app' (Dj.r d3824) (Dj.r d5262))
    have d5292 := (Dj.app (Dj.symm (Dj.r (Dj.app d3816 d3824))) (Dj.symm (Dj.r (Dj.app d5261 d5262))))
    have d5293 := (Dj.app d4837 (Dj.symm (Dj.r (Dj.app d5265 (Dj.nil _)))))
    have d5294 := Dj.app' (Dj.symm d5281) (Dj.app' (Dj.r d3818) (Dj.r d5266))
    have d5295 := Dj.app' (Dj.symm d5282) (Dj.app' (Dj.r d3819) (Dj.r d5267))
    have d5296 := Dj.app' (Dj.symm d5283) (Dj.app' (Dj.r d3820) (Dj.r d5268))
    have d5297 := Dj.app' (Dj.symm d5284) (Dj.app' (Dj.r d3821) (Dj.r d5269))
    have d5298 := Dj.app' (Dj.symm d5285) (Dj.app' (Dj.r d3822) (Dj.r d5270))
    have d5299 := Dj.app' (Dj.symm d5287) (Dj.app' (Dj.r d3913) (Dj.r d5272))
    refine o_bfield fa60_1 F rfl rfl rfl (fun a F => ?_)
    refine o_bstore Tryz.sizeOf58 F rfl rfl rfl K668 (h5277.rd).r.one (by first | simp | decide) rfl (fun w K668 l => ?_)
    replace hB := hB.o l (fun c hc => by rw [List.mem_singleton] at hc; rw [hc]; exact CK668) hB.size
    replace h17 := h17.goO l d702
    replace h3798 := h3798.goO l d3815
    replace ow3802 := ow3802.goO l d3815.r
    replace h3862 := h3862.goO l (Dj.sub (Dj.sub (dj1 A2.m CK668).symm s3859) s3863)
    replace h4803 := h4803.goO l d4826
    replace h5277 := h5277.goO l d5298
    replace ow5278 := ow5278.goO l d5298.r
    replace K12 := K12.only l (by simpa using nb711)
    replace K32 := K32.only l (by simpa using nb713)
    replace K38 := K38.only l (by simpa using nb715)
    replace K666 := K666.only l (by simpa using nb716)
    replace K3900 := K3900.only l (by simpa using nb3908.symm)
    refine x_end ?_
    refine x_tn ?_
    refine x_drawn (by kernel_rfl) (fun w l => ?_)
    replace hB := Below.through l hB
    replace h17 := h17.go l
    replace h3798 := h3798.go l
    replace ow3802 := ow3802.go l
    replace h3862 := h3862.go l
    replace h4803 := h4803.go l
    replace h5277 := h5277.go l
    replace ow5278 := ow5278.go l
    replace K12 := K12.thru l
    replace K32 := K32.thru l
    replace K38 := K38.thru l
    replace K666 := K666.thru l
    replace K668 := K668.thru l
    replace K3900 := K3900.thru l
    refine b_q 0 (by kernel_rfl) rfl (by kernel_rfl) (by kernel_rfl) (by kernel_rfl) (by kernel_rfl) ?_
    refine v_val F rfl (fun w l => r_bfield fa33_1 F rfl rfl) (fun a F => ?_)
    refine b_q 1 (by kernel_rfl) rfl (by kernel_rfl) (by kernel_rfl) (by kernel_rfl) (by kernel_rfl) ?_
    refine v_val F rfl (fun w l => r_load1 Tryz.isAgg31 F rfl (((K666.thru l).cell _).trans rfl)) (fun a F => ?_)
    refine b_q 2 (by kernel_rfl) rfl (by kernel_rfl) (by kernel_rfl) (by kernel_rfl) (by kernel_rfl) ?_
    refine v_val F rfl (fun w l => r_bfield fa33_0 F rfl rfl) (fun a F => ?_)
    refine b_q 3 (by kernel_rfl) rfl (by kernel_rfl) (by kernel_rfl) (by kernel_rfl) (by kernel_rfl) ?_
    refine v_val F rfl (fun w l => r_load1 Tryz.isAgg2 F rfl (((K12.thru l).cell _).trans rfl)) (fun a F => ?_)
    refine b_q0 4 rfl (by kernel_rfl) (by kernel_rfl) (by kernel_rfl) ?_
    refine v_val F rfl (fun w l => r_move F rfl) (fun a F => ?_)
    refine b_q 5 (by kernel_rfl) rfl (by kernel_rfl) (by kernel_rfl) (by kernel_rfl) (by kernel_rfl) ?_
    refine v_val F rfl (fun w l => r_len Tryz.underlying124 F rfl (h3862).r w) (fun a F => ?_)
    have i5300 := (h3862).r.len64
    refine b_q 6 (by kernel_rfl) rfl (by kernel_rfl) (by kernel_rfl) (by kernel_rfl) (by kernel_rfl) ?_
    refine v_val F rfl (fun w l => r_func F rfl rfl) (fun a F => ?_)
    refine b_e 7 rfl (by kernel_rfl) ?_
    obtain ⟨z5301, c5302, hR⟩ := bnd_some hR
    refine o_gives F rfl Tryz.call96 rfl (impl_relOf_c z5301 c5302 _ i14 i5300 Tryz.call97 (fun a0 r h W l u0 c0 f0 => impl_AddNoGoods_2_c r h W f0 ((cell1S K3900 h4803.rd).go l))) (fun a vv w l ⟨v5304, rb5305, ib5306, hv5309, i5303, h5307, ow5308⟩ F => ?_)
    subst vv
    have o5310 := h5307.own ow5308
    have d5311 := (Dj.new (inm1 K12) o5310 (Nat.le_refl _)).symm
    have d5312 := (Dj.new (inm1 K32) o5310 (Nat.le_refl _)).symm
    have d5313 := (Dj.new (inm1 K38) o5310 (Nat.le_refl _)).symm
    have d5314 := (Dj.new (inm1 K666) o5310 (Nat.le_refl _)).symm
    have d5315 := (Dj.new (inm1 K668) o5310 (Nat.le_refl _)).symm
    have d5316 := (Dj.new (inm1 K3900) o5310 (Nat.le_refl _)).symm
    have d5317 := (Dj.new h3798.memR o5310 (Nat.le_refl _)).symm
    have d5318 := (Dj.new h3798.mem o5310 (Nat.le_refl _)).symm
    have d5319 := (Dj.new h4803.memR o5310 (Nat.le_refl _)).symm
    have d5320 := (Dj.new h5277.memR o5310 (Nat.le_refl _)).symm
    have d5321 := (Dj.new h5277.mem o5310 (Nat.le_refl _)).symm
    have d5323 := Dj.new h17.m h5307.ownR (Nat.le_refl _)
    have d5324 := Dj.new h3798.rd.m h5307.ownR (Nat.le_refl _)
    have d5325 := Dj.new h5277.rd.m h5307.ownR (Nat.le_refl _)
    have d5326 := Dj.new (inm1 K12) h5307.ownR (Nat.le_refl _)
    have d5327 := Dj.new (inm1 K32) h5307.ownR (Nat.le_refl _)
    have d5328 := Dj.new (inm1 K38) h5307.ownR (Nat.le_refl _)
    have d5329 := Dj.new (inm1 K666) h5307.ownR (Nat.le_refl _)
    have d5330 := Dj.new (inm1 K668) h5307.ownR (Nat.le_refl _)
    replace h5307 := h5307.base hB.size
    replace ow5308 := ow5308.mono hB.size
    replace hB := Below.through l hB
    replace h17 := h17.go l
    replace h3798 := h3798.go l
    replace ow3802 := ow3802.go l
    replace h5277 := h5277.go l
    replace ow5278 := ow5278.go l
    replace K12 := K12.thru l
    replace K32 := K32.thru l
    replace K38 := K38.thru l
    replace K666 := K666.thru l
    replace K668 := K668.thru l
    have h5331 := RRel.mk2 (w := w) i5303 h5307.rd
    refine x_end ?_
    refine x_tn ?_
    refine ⟨.inl l, ?_⟩
    refine b_e 8 rfl (by kernel_rfl) ?_
    refine o_lit1 (R := RRel) (y := z5301) Tryz.underlying31 Tryz.sizeOf101 Tryz.zeroValue101 rfl (by decide) (by decide) F rfl rfl (El.agg h5331) (fun a w v5332 rb5333 h5334 l F => ?_)
    have ow5335 := Own.go (h5307.own ow5308) l
    have d5337 := Dj.new h17.m h5334.ownR (Nat.le_refl _)
    have d5338 := Dj.new h3798.rd.m h5334.ownR (Nat.le_refl _)
    have d5339 := Dj.new h5277.rd.m h5334.ownR (Nat.le_refl _)
    have d5340 := Dj.new (inm1 K12) h5334.ownR (Nat.le_refl _)
    have d5341 := Dj.new (inm1 K32) h5334.ownR (Nat.le_refl _)
    have d5342 := Dj.new (inm1 K38) h5334.ownR (Nat.le_refl _)
    have d5343 := Dj.new (inm1 K666) h5334.ownR (Nat.le_refl _)
    have d5344 := Dj.new (inm1 K668) h5334.ownR (Nat.le_refl _)
    have d5345 := Dj.app' (Dj.new h3798.memR h5334.ownR (Nat.le_refl _)).symm d5317
    have d5346 := Dj.app' (Dj.new h3798.mem h5334.ownR (Nat.le_refl _)).symm d5318
    have d5347 := Dj.app' (Dj.new h5277.memR h5334.ownR (Nat.le_refl _)).symm d5320
    have d5348 := Dj.app' (Dj.new h5277.mem h5334.ownR (Nat.le_refl _)).symm d5321
    have d5349 := Dj.app' (Dj.symm d5340) d5311
    have d5350 := Dj.app' (Dj.symm d5341) d5312
    have d5351 := Dj.app' (Dj.symm d5342) d5313
    have d5352 := Dj.app' (Dj.symm d5343) d5314
    have d5353 := Dj.app' (Dj.symm d5344) d5315
    replace h5334 := h5334.base hB.size
    replace hB := Below.through l hB
    replace h17 := h17.go l
    replace h3798 := h3798.go l
    replace ow3802 := ow3802.go l
    replace h5277 := h5277.go l
    replace ow5278 := ow5278.go l
    replace K12 := K12.thru l
    replace K32 := K32.thru l
    replace K38 := K38.thru l
    replace K666 := K666.thru l
    replace K668 := K668.thru l
    refine x_end ?_
    refine x_tn ?_
    refine ⟨.inl l, ?_⟩
    refine b_e 9 rfl (by kernel_rfl) ?_
    obtain ⟨z5354, c5355, hR⟩ := bnd_some hR
    refine o_append (sz := 2) (R := RRel) (z := (.agg #[.int .i64 0, (.slice none 0 0)])) (bytes := 32) Tryz.underlying31 (by kernel_rfl) rfl (by decide) (by decide) (by decide) F rfl rfl rfl h3798 h5334.src hB.size (Dj.symm d5345.r) c5355 (fun a w v5356 rb5357 h5358 l keep F => ?_)
    have ow5359 := Own.append (Own.goO ow3802 l h3798.dj.symm) (Own.goO ow5335 l (Dj.symm (Dj.symm d5345.r))) (Dj.symm d5346.r)
    have d5361 := keep _ h17.m d3810
    have d5362 := keep _ (inm1 K12) (Dj.symm (Dj.l d3811))
    have d5363 := keep _ (inm1 K32) (Dj.symm (Dj.l d3812))
    have d5364 := keep _ (inm1 K38) (Dj.symm (Dj.l d3813))
    have d5365 := keep _ (inm1 K666) (Dj.symm (Dj.l d3814))
    have d5366 := keep _ (inm1 K668) (Dj.symm (Dj.l d3815))
    have d5367 := keep _ h5277.rd.m d5289
    replace hB := hB.o l h3798.lo hB.size
    replace h17 := h17.goO l d3810
    replace h5277 := h5277.goO l d5289
    replace ow5278 := ow5278.goO l (Dj.r d5289)
    replace K12 := K12.only l (Dj.symm (Dj.l d3811)).not
    replace K32 := K32.only l (Dj.symm (Dj.l d3812)).not
    replace K38 := K38.only l (Dj.symm (Dj.l d3813)).not
    replace K666 := K666.only l (Dj.symm (Dj.l d3814)).not
    replace K668 := K668.only l (Dj.symm (Dj.l d3815)).not
    have d5368 := Dj.app' (Dj.symm (Dj.l d5367)) (Dj.app' (Dj.r d5286) (Dj.r d5347))
    have d5369 := Dj.app' (Dj.symm (Dj.r d5367)) (Dj.app' (Dj.r d5292) (Dj.r d5348))
    have d5370 := (Dj.app d5291 (Dj.symm (Dj.r (Dj.app d5347 d5348))))
    have d5371 := Dj.app' (Dj.symm d5362) (Dj.app' (Dj.r d3811) (Dj.r d5349))
    have d5372 := Dj.app' (Dj.symm d5363) (Dj.app' (Dj.r d3812) (Dj.r d5350))
    have d5373 := Dj.app' (Dj.symm d5364) (Dj.app' (Dj.r d3813) (Dj.r d5351))
    have d5374 := Dj.app' (Dj.symm d5365) (Dj.app' (Dj.r d3814) (Dj.r d5352))
    have d5375 := Dj.app' (Dj.symm d5366) (Dj.app' (Dj.r d3815) (Dj.r d5353))
    refine x_end ?_
    refine x_tn ?_
    refine ⟨.inr (by kernel_rfl), ?_⟩
    refine b_q 10 (by kernel_rfl) rfl (by kernel_rfl) (by kernel_rfl) (by kernel_rfl) (by kernel_rfl) ?_
    refine v_val F rfl (fun w l => r_bfield fa33_1 F rfl rfl) (fun a F => ?_)
    refine b_e 11 rfl (by kernel_rfl) ?_
    refine o_bstore Tryz.sizeOf31 F rfl rfl rfl K666 (h5358.rd).r.one (by first | simp | decide) rfl (fun w K666 l => ?_)
    replace hB := hB.o l (fun c hc => by rw [List.mem_singleton] at hc; rw [hc]; exact CK666) hB.size
    replace h17 := h17.goO l d707
    replace h5277 := h5277.goO l d5297
    replace ow5278 := ow5278.goO l d5297.r
    replace h5358 := h5358.goO l d5374
    replace ow5359 := ow5359.goO l d5374.r
    replace K12 := K12.only l (by simpa using nb710)
    replace K32 := K32.only l (by simpa using nb712)
    replace K38 := K38.only l (by simpa using nb714)
    replace K668 := K668.only l (by simpa using nb716.symm)
    refine x_end ?_
    refine x_tn ?_
    refine ⟨.inr (by kernel_rfl), ?_⟩
    refine b_end (by kernel_rfl) ?_
    refine x_bn ?_
    refine x_tn ?_
    refine x_reg ?_
    refine o_inc F rfl rfl rfl ink3850 (fun a F => ?_)
    refine o_move F rfl rfl (fun a F => ?_)
    refine x_end ?_
    refine x_tn ?_
    replace hR := l_go hR hn3793
    exact ⟨_, Nat.lt_succ_self _, k3850 + 1, rest3851, z5354, v5356, rb5357, (ib3801 ++ ((rb5305 ++ ib5306))), z5273, v5275, rb5276, (ib3808 ++ ((rb4800 ++ []))), ⟨hd3854.1, hd3854.2.2⟩, rfl, hR, F.sub (sc rfl (sc rfl (sc rfl (sc rfl (sc rfl (sc rfl (sc rfl (sc rfl sn)))))))), hB, h5358, ow5359, h5277, ow5278, h17, K12, K32, K38, K666, K668, d5361, d5371, d5372, d5373, d5374, d5375, d5367, d5280, d5294, d5295, d5296, d5297, d5298, d5368, d5370⟩
  intro a w ⟨s3825, v3828, rb3829, ib3830, s3832, v3835, rb3836, ib3837, ho3792, F, hB, h3827, ow3831, h3834, ow3838, K32, K38, K666, K668, d3839, d3840, d3841, d3842, d3843, d3844, d3845, d3846, d3847, d3848, d3849⟩
  subst ho3792
  have hR := then_nx hk3791
  refine x_tn ?_
  refine x_seq ?_
  refine x_drawnO ([b31]) (by kernel_rfl) (fun w l => ?_)
  replace hB := Below.through l hB
  replace h3827 := h3827.go l
  replace ow3831 := ow3831.go l
  replace h3834 := h3834.go l
  replace ow3838 := ow3838.go l
  replace K32 := K32.thru l
  replace K38 := K38.thru l
  replace K666 := K666.thru l
  replace K668 := K668.thru l
  have dO5376 : Dj [b37] ([b31]) := (Dj.one (Ne.symm nb41))
  have dO5377 : Dj [b665] ([b31]) := (Dj.one (Ne.symm nb712))
  have dO5378 : Dj [b667] ([b31]) := (Dj.one (Ne.symm nb713))
  have dO5379 : Dj (rb3829 ++ ib3830) ([b31]) := d3839
  have dO5380 : Dj (rb3836 ++ ib3837) ([b31]) := d3844
  refine b_q 0 (by kernel_rfl) rfl (by kernel_rfl) (by kernel_rfl) (by kernel_rfl) (by kernel_rfl) ?_
  refine v_val F rfl (fun w l => r_bloadA (cs := [.int .i64 z83.size, v3828]) Tryz.isAgg33 Tryz.sizeOf33 F rfl (K666.only l (Dj.not dO5377)) rfl (fun j hj => by match j, hj with | 0, _ => rfl | 1, _ => rfl)) (fun a F => ?_)
  have h5381 := RTemplate.mk2 (w := w) i669 h3827.rd
  refine b_q 1 (by kernel_rfl) rfl (by kernel_rfl) (by kernel_rfl) (by kernel_rfl) (by kernel_rfl) ?_
  refine v_val F rfl (fun w l => r_bloadA (cs := [.int .i64 z105.vars, v3835]) Tryz.isAgg60 Tryz.sizeOf60 F rfl (K668.only l (Dj.not dO5378)) rfl (fun j hj => by match j, hj with | 0, _ => rfl | 1, _ => rfl)) (fun a F => ?_)
  have h5382 := RInstance.mk2 (w := w) i676 h3834.rd
  refine b_e 2 rfl (by kernel_rfl) ?_
  refine o_bstoreA (vs := [.int .i64 z83.size, v3828]) Tryz.sizeOf33 F rfl rfl rfl K32 (oc rfl (oc (h3827.rd).r.one on)) (Nat.le_of_ble_eq_true rfl) rfl (fun w K32 l => ?_)
  replace hB := hB.o l (fun c hc => by rw [List.mem_singleton] at hc; rw [hc]; exact CK32) hB.size
  replace h3827 := h3827.goO l d3839
  replace ow3831 := ow3831.goO l d3839.r
  replace h3834 := h3834.goO l d3844
  replace ow3838 := ow3838.goO l d3844.r
  replace h5382 := h5382.goO l d3844
  replace K38 := K38.only l (by simpa using nb41.symm)
  refine x_end ?_
  refine x_tn ?_
  refine ⟨.inl (Only.mono l (fun c hc => hc)), ?_⟩
  refine b_e 3 rfl (by kernel_rfl) ?_
  refine o_bstoreA (vs := [.int .i64 z105.vars, v3835]) Tryz.sizeOf60 F rfl rfl rfl K38 (oc rfl (oc (h3834.rd).r.one on)) (Nat.le_of_ble_eq_true rfl) rfl (fun w K38 l => ?_)
  replace hB := hB.o l (fun c hc => by rw [List.mem_singleton] at hc; rw [hc]; exact CK38) hB.size
  replace h3827 := h3827.goO l d3840
  replace ow3831 := ow3831.goO l d3840.r
  replace h3834 := h3834.goO l d3845
  replace ow3838 := ow3838.goO l d3845.r
  replace K32 := K32.only l (by simpa using nb41)
  refine x_end ?_
  refine x_tn ?_
  refine ⟨.inr (by kernel_rfl), ?_⟩
  refine b_q0 4 rfl (by kernel_rfl) (by kernel_rfl) (by kernel_rfl) ?_
  refine v_val F rfl (fun w l => r_assign F rfl) (fun a F => ?_)
  refine b_end (by kernel_rfl) ?_
  refine x_tn ?_
  refine x_ret ?_
  refine x_res3 F rfl (rv_cA (arr := #[.int .i64 z83.size, v3828]) F Tryz.isAgg33 Tryz.sizeOf33 rfl K32) (rv_cA (arr := #[.int .i64 z105.vars, v3835]) F Tryz.isAgg60 Tryz.sizeOf60 rfl K38) (rv_t F rfl) ?_
  obtain rfl := Option.some.inj hR
  exact ⟨_, rfl, hB, v3828, rb3829, ib3830, v3835, rb3836, ib3837, rfl, i669, h3827, ow3831, i676, h3834, ow3838, (show I64 (0) by decide), (Dj.app d3848 (Dj.symm (Dj.r (Dj.app d3843 d3849))))⟩
 refine dp (fun G => ∀ (b603 : Nat) (b605 : Nat) (v608 : Value) (rb609 : List Nat) (ib610 : List Nat) (a : Act) (w : World), Sk a 103 [(2, v2), (3, .pointer (some ⟨b11, 0, none⟩)), (6, .pointer (some ⟨b31, 0, none⟩)), (7, .pointer (some ⟨b37, 0, none⟩)), (9, .pointer (some ⟨b603, 0, none⟩)), (10, .pointer (some ⟨b605, 0, none⟩)), (50, (.agg #[.int .i64 z83.size, v608])), (51, (.agg #[.int .i64 x1.vars, v24]))] → Below w0.heap.size w0 w → Rd (Sl 2 RRel) w v15 x0.rels b16 → Rd (Sl 2 RCon) w v24 x1.cons b25 → w0.heap.size ≤ b603 → w0.heap.size ≤ b605 → I64 z83.size → Row 2 RRel 101 w0.heap.size w v608 z83.rels rb609 ib610 → Own w0.heap.size ib610 w → Blk w b11 #[.int .i64 x0.size, v15] 33 → Blk w b31 #[.int .i64 0, (.slice none 0 0)] 33 → Blk w b37 #[.int .i64 0, (.slice none 0 0)] 60 → Blk w b603 #[.int .i64 0, (.slice none 0 0)] 33 → Blk w b605 #[.int .i64 0, (.slice none 0 0)] 60 → Dj b16 ([b603]) → Dj b25 ([b603]) → Dj b16 ([b605]) → Dj b25 ([b605]) → Dj b16 rb609 → Dj b25 rb609 → Dj [b11] rb609 → Dj [b31] rb609 → Dj [b37] rb609 → Dj [b603] rb609 → Dj [b605] rb609 → Dj (rb609 ++ ib610) ([b11]) → Dj (rb609 ++ ib610) ([b31]) → Dj (rb609 ++ ib610) ([b37]) → Dj (rb609 ++ ib610) ([b603]) → Dj (rb609 ++ ib610) ([b605]) → b11 ≠ b603 → b11 ≠ b605 → b31 ≠ b603 → b31 ≠ b605 → b37 ≠ b603 → b37 ≠ b605 → b603 ≠ b605 → ∀ ls, ls = #[true, true, true, false, true, true, false, false] → G 3 ls a w) ?_ (fun H639 => ?_)
 ·
  intro b603 b605 v608 rb609 ib610 a w F hB h17 h26 CK604 CK606 i607 h611 ow613 K12 K32 K38 K604 K606 d614 d615 d616 d617 d618 d619 d620 d621 d622 d623 d624 d625 d626 d627 d628 d629 nb630 nb631 nb632 nb633 nb634 nb635 nb636 ls hls
  subst hls
  have h637 := RTemplate.mk2 (w := w) i607 h611.rd
  have h638 := RInstance.mk2 (w := w) i23 h26
  refine b_e 3 rfl (by kernel_rfl) ?_
  refine o_gives F rfl Tryz.call95 rfl (impl_ownInstance_c z105 c106 _ h638) (fun a vv w l ⟨v641, rb642, ib643, hv646, i640, h644, ow645⟩ F => ?_)
  subst vv
  have o647 := h644.own ow645
  have d648 := (Dj.new (inm1 K12) o647 (Nat.le_refl _)).symm
  have d649 := (Dj.new (inm1 K32) o647 (Nat.le_refl _)).symm
  have d650 := (Dj.new (inm1 K38) o647 (Nat.le_refl _)).symm
  have d651 := (Dj.new (inm1 K604) o647 (Nat.le_refl _)).symm
  have d652 := (Dj.new (inm1 K606) o647 (Nat.le_refl _)).symm
  have d653 := (Dj.new h611.memR o647 (Nat.le_refl _)).symm
  have d654 := (Dj.new h611.mem o647 (Nat.le_refl _)).symm
  have d656 := Dj.new h17.m h644.ownR (Nat.le_refl _)
  have d657 := Dj.new h637.m h644.ownR (Nat.le_refl _)
  have d658 := Dj.new h611.rd.m h644.ownR (Nat.le_refl _)
  have d659 := Dj.new (inm1 K12) h644.ownR (Nat.le_refl _)
  have d660 := Dj.new (inm1 K32) h644.ownR (Nat.le_refl _)
  have d661 := Dj.new (inm1 K38) h644.ownR (Nat.le_refl _)
  have d662 := Dj.new (inm1 K604) h644.ownR (Nat.le_refl _)
  have d663 := Dj.new (inm1 K606) h644.ownR (Nat.le_refl _)
  replace h644 := h644.base hB.size
  replace ow645 := ow645.mono hB.size
  replace hB := Below.through l hB
  replace h17 := h17.go l
  replace h611 := h611.go l
  replace ow613 := ow613.go l
  replace h637 := h637.go l
  replace K12 := K12.thru l
  replace K32 := K32.thru l
  replace K38 := K38.thru l
  replace K604 := K604.thru l
  replace K606 := K606.thru l
  have h664 := RInstance.mk2 (w := w) i640 h644.rd
  refine x_end ?_
  refine x_tn ?_
  refine ⟨.inl l, ?_⟩
  exact H719 b603 b605 v608 rb609 ib610 v641 rb642 ib643 _ _ (F.sub (sc rfl (sc rfl (sc rfl (sc rfl (sc rfl (sc rfl (sc rfl (sc rfl sn))))))))) hB h17 CK604 CK606 i607 h611 ow613 i640 h644 ow645 K12 K32 K38 K604 K606 d618 d620 d621 d622 d625 d626 d627 d656 d658 d659 d660 d661 d648 d649 d650 d653 d654 d624 d663 d616 d629 d652 d623 d662 d614 d628 d651 nb630 nb631 nb632 nb633 nb634 nb635 nb636 _ (by kernel_rfl)
 refine dp (fun G => ∀ (b546 : Nat) (v549 : Value) (rb550 : List Nat) (ib551 : List Nat) (v556 : Value) (rb557 : List Nat) (ib558 : List Nat) (a : Act) (w : World), Sk a 103 [(2, v2), (3, .pointer (some ⟨b11, 0, none⟩)), (6, .pointer (some ⟨b31, 0, none⟩)), (7, .pointer (some ⟨b37, 0, none⟩)), (9, .pointer (some ⟨b546, 0, none⟩)), (50, (.agg #[.int .i64 z83.size, v549])), (52, (.agg #[.int .i64 z105.vars, v556]))] → Below w0.heap.size w0 w → Rd (Sl 2 RRel) w v15 x0.rels b16 → w0.heap.size ≤ b546 → I64 z83.size → Row 2 RRel 101 w0.heap.size w v549 z83.rels rb550 ib551 → Own w0.heap.size ib551 w → I64 z105.vars → Row 2 RCon 130 w0.heap.size w v556 z105.cons rb557 ib558 → Own w0.heap.size ib558 w → Blk w b11 #[.int .i64 x0.size, v15] 33 → Blk w b31 #[.int .i64 0, (.slice none 0 0)] 33 → Blk w b37 #[.int .i64 0, (.slice none 0 0)] 60 → Blk w b546 #[.int .i64 0, (.slice none 0 0)] 33 → Dj b16 rb550 → Dj [b11] rb550 → Dj [b31] rb550 → Dj [b37] rb550 → Dj (rb550 ++ ib551) ([b11]) → Dj (rb550 ++ ib551) ([b31]) → Dj (rb550 ++ ib551) ([b37]) → Dj b16 rb557 → Dj (rb550 ++ ib551) rb557 → Dj [b11] rb557 → Dj [b31] rb557 → Dj [b37] rb557 → Dj (rb557 ++ ib558) ([b11]) → Dj (rb557 ++ ib558) ([b31]) → Dj (rb557 ++ ib558) ([b37]) → Dj (rb557 ++ ib558) rb550 → Dj (rb557 ++ ib558) ib551 → Dj [b546] rb550 → Dj [b546] rb557 → Dj b16 ([b546]) → Dj (rb550 ++ ib551) ([b546]) → Dj (rb557 ++ ib558) ([b546]) → b11 ≠ b546 → b31 ≠ b546 → b37 ≠ b546 → ∀ ls, ls = #[true, true, true, true, true, false, false, false] → G 3 ls a w) ?_ (fun H589 => ?_)
 ·
  intro b546 v549 rb550 ib551 v556 rb557 ib558 a w F hB h17 CK547 i548 h552 ow554 i555 h559 ow561 K12 K32 K38 K547 d562 d563 d564 d565 d566 d567 d568 d569 d570 d571 d572 d573 d574 d575 d576 d577 d578 d579 d580 d581 d582 d583 nb584 nb585 nb586 ls hls
  subst hls
  have h587 := RTemplate.mk2 (w := w) i548 h552.rd
  have h588 := RInstance.mk2 (w := w) i555 h559.rd
  refine b_e 5 rfl (by kernel_rfl) ?_
  refine o_alloc Tryz.zeroValue60 F rfl rfl (fun a w b590 K591 l BK591 F => ?_)
  have d592 := dj1 h552.memR BK591
  have d593 := dj1 h559.memR BK591
  have nb594 := Dj.bb K12 BK591
  have nb595 := Dj.bb K32 BK591
  have nb596 := Dj.bb K38 BK591
  have nb597 := Dj.bb K547 BK591
  have d598 := (dj1 h17.m BK591).symm
  have d599 := (dj1 h587.m BK591).symm
  have d600 := (dj1 h588.m BK591).symm
  have d601 := (dj1 h552.rd.m BK591).symm
  have d602 := (dj1 h559.rd.m BK591).symm
  have CK591 := Nat.le_trans hB.size BK591
  replace hB := Below.through l hB
  replace h17 := h17.go l
  replace h552 := h552.go l
  replace ow554 := ow554.go l
  replace h559 := h559.go l
  replace ow561 := ow561.go l
  replace h587 := h587.go l
  replace h588 := h588.go l
  replace K12 := K12.thru l
  replace K32 := K32.thru l
  replace K38 := K38.thru l
  replace K547 := K547.thru l
  refine x_end ?_
  refine x_tn ?_
  refine ⟨.inl l, ?_⟩
  exact H719 b546 b590 v549 rb550 ib551 v556 rb557 ib558 _ _ (F.sub (sc rfl (sc rfl (sc rfl (sc rfl (sc rfl (sc rfl (sc rfl (sc rfl sn))))))))) hB h17 CK547 CK591 i548 h552 ow554 i555 h559 ow561 K12 K32 K38 K547 K591 d562 d563 d564 d565 d566 d567 d568 d569 d570 d571 d572 d573 d574 d575 d576 d577 d578 d592 d593 d598 d601 d602 d579 d580 d581 d582 d583 nb584 nb594 nb585 nb595 nb586 nb596 nb597 _ (by kernel_rfl)
 refine dp (fun G => ∀ (b489 : Nat) (v492 : Value) (rb493 : List Nat) (ib494 : List Nat) (v499 : Value) (rb500 : List Nat) (ib501 : List Nat) (a : Act) (w : World), Sk a 103 [(2, v2), (3, .pointer (some ⟨b11, 0, none⟩)), (6, .pointer (some ⟨b31, 0, none⟩)), (7, .pointer (some ⟨b37, 0, none⟩)), (10, .pointer (some ⟨b489, 0, none⟩)), (50, (.agg #[.int .i64 z83.size, v492])), (52, (.agg #[.int .i64 z105.vars, v499]))] → Below w0.heap.size w0 w → Rd (Sl 2 RRel) w v15 x0.rels b16 → w0.heap.size ≤ b489 → I64 z83.size → Row 2 RRel 101 w0.heap.size w v492 z83.rels rb493 ib494 → Own w0.heap.size ib494 w → I64 z105.vars → Row 2 RCon 130 w0.heap.size w v499 z105.cons rb500 ib501 → Own w0.heap.size ib501 w → Blk w b11 #[.int .i64 x0.size, v15] 33 → Blk w b31 #[.int .i64 0, (.slice none 0 0)] 33 → Blk w b37 #[.int .i64 0, (.slice none 0 0)] 60 → Blk w b489 #[.int .i64 0, (.slice none 0 0)] 60 → Dj b16 rb493 → Dj [b11] rb493 → Dj [b31] rb493 → Dj [b37] rb493 → Dj (rb493 ++ ib494) ([b11]) → Dj (rb493 ++ ib494) ([b31]) → Dj (rb493 ++ ib494) ([b37]) → Dj b16 rb500 → Dj (rb493 ++ ib494) rb500 → Dj [b11] rb500 → Dj [b31] rb500 → Dj [b37] rb500 → Dj (rb500 ++ ib501) ([b11]) → Dj (rb500 ++ ib501) ([b31]) → Dj (rb500 ++ ib501) ([b37]) → Dj (rb500 ++ ib501) rb493 → Dj (rb500 ++ ib501) ib494 → Dj [b489] rb493 → Dj [b489] rb500 → Dj b16 ([b489]) → Dj (rb493 ++ ib494) ([b489]) → Dj (rb500 ++ ib501) ([b489]) → b11 ≠ b489 → b31 ≠ b489 → b37 ≠ b489 → ∀ ls, ls = #[true, true, true, true, false, true, false, false] → G 3 ls a w) ?_ (fun H532 => ?_)
 ·
  intro b489 v492 rb493 ib494 v499 rb500 ib501 a w F hB h17 CK490 i491 h495 ow497 i498 h502 ow504 K12 K32 K38 K490 d505 d506 d507 d508 d509 d510 d511 d512 d513 d514 d515 d516 d517 d518 d519 d520 d521 d522 d523 d524 d525 d526 nb527 nb528 nb529 ls hls
  subst hls
  have h530 := RTemplate.mk2 (w := w) i491 h495.rd
  have h531 := RInstance.mk2 (w := w) i498 h502.rd
  refine b_e 4 rfl (by kernel_rfl) ?_
  refine o_alloc Tryz.zeroValue33 F rfl rfl (fun a w b533 K534 l BK534 F => ?_)
  have d535 := dj1 h495.memR BK534
  have d536 := dj1 h502.memR BK534
  have nb537 := Dj.bb K12 BK534
  have nb538 := Dj.bb K32 BK534
  have nb539 := Dj.bb K38 BK534
  have nb540 := Dj.bb K490 BK534
  have d541 := (dj1 h17.m BK534).symm
  have d542 := (dj1 h530.m BK534).symm
  have d543 := (dj1 h531.m BK534).symm
  have d544 := (dj1 h495.rd.m BK534).symm
  have d545 := (dj1 h502.rd.m BK534).symm
  have CK534 := Nat.le_trans hB.size BK534
  replace hB := Below.through l hB
  replace h17 := h17.go l
  replace h495 := h495.go l
  replace ow497 := ow497.go l
  replace h502 := h502.go l
  replace ow504 := ow504.go l
  replace h530 := h530.go l
  replace h531 := h531.go l
  replace K12 := K12.thru l
  replace K32 := K32.thru l
  replace K38 := K38.thru l
  replace K490 := K490.thru l
  refine x_end ?_
  refine x_tn ?_
  refine ⟨.inl l, ?_⟩
  exact H719 b533 b489 v492 rb493 ib494 v499 rb500 ib501 _ _ (F.sub (sc rfl (sc rfl (sc rfl (sc rfl (sc rfl (sc rfl (sc rfl (sc rfl sn))))))))) hB h17 CK534 CK490 i491 h495 ow497 i498 h502 ow504 K12 K32 K38 K534 K490 d505 d506 d507 d508 d509 d510 d511 d512 d513 d514 d515 d516 d517 d518 d519 d520 d521 d522 d523 d524 d525 d526 d535 d536 d541 d544 d545 nb537 nb527 nb538 nb528 nb539 nb529 (Ne.symm nb540) _ (by kernel_rfl)
 refine dp (fun G => ∀ (b427 : Nat) (v430 : Value) (rb431 : List Nat) (ib432 : List Nat) (a : Act) (w : World), Sk a 103 [(2, v2), (3, .pointer (some ⟨b11, 0, none⟩)), (6, .pointer (some ⟨b31, 0, none⟩)), (7, .pointer (some ⟨b37, 0, none⟩)), (9, .pointer (some ⟨b427, 0, none⟩)), (50, (.agg #[.int .i64 z83.size, v430])), (51, (.agg #[.int .i64 x1.vars, v24]))] → Below w0.heap.size w0 w → Rd (Sl 2 RRel) w v15 x0.rels b16 → Rd (Sl 2 RCon) w v24 x1.cons b25 → w0.heap.size ≤ b427 → I64 z83.size → Row 2 RRel 101 w0.heap.size w v430 z83.rels rb431 ib432 → Own w0.heap.size ib432 w → Blk w b11 #[.int .i64 x0.size, v15] 33 → Blk w b31 #[.int .i64 0, (.slice none 0 0)] 33 → Blk w b37 #[.int .i64 0, (.slice none 0 0)] 60 → Blk w b427 #[.int .i64 0, (.slice none 0 0)] 33 → Dj b16 rb431 → Dj b25 rb431 → Dj [b11] rb431 → Dj [b31] rb431 → Dj [b37] rb431 → Dj (rb431 ++ ib432) ([b11]) → Dj (rb431 ++ ib432) ([b31]) → Dj (rb431 ++ ib432) ([b37]) → Dj [b427] rb431 → Dj b16 ([b427]) → Dj b25 ([b427]) → Dj (rb431 ++ ib432) ([b427]) → b11 ≠ b427 → b31 ≠ b427 → b37 ≠ b427 → ∀ ls, ls = #[true, true, true, false, true, false, false, false] → G 4 ls a w) ?_ (fun H453 => ?_)
 ·
  intro b427 v430 rb431 ib432 a w F hB h17 h26 CK428 i429 h433 ow435 K12 K32 K38 K428 d436 d437 d438 d439 d440 d441 d442 d443 d444 d445 d446 d447 nb448 nb449 nb450 ls hls
  subst hls
  have h451 := RTemplate.mk2 (w := w) i429 h433.rd
  have h452 := RInstance.mk2 (w := w) i23 h26
  refine b_es [3, 5] (by kernel_rfl) (by simp) ⟨⟨_, rfl, ?_⟩, ⟨_, rfl, ?_⟩, trivial⟩
  ·
   refine o_gives F rfl Tryz.call95 rfl (impl_ownInstance_c z105 c106 _ h452) (fun a vv w l ⟨v455, rb456, ib457, hv460, i454, h458, ow459⟩ F => ?_)
   subst vv
   have o461 := h458.own ow459
   have d462 := (Dj.new (inm1 K12) o461 (Nat.le_refl _)).symm
   have d463 := (Dj.new (inm1 K32) o461 (Nat.le_refl _)).symm
   have d464 := (Dj.new (inm1 K38) o461 (Nat.le_refl _)).symm
   have d465 := (Dj.new (inm1 K428) o461 (Nat.le_refl _)).symm
   have d466 := (Dj.new h433.memR o461 (Nat.le_refl _)).symm
   have d467 := (Dj.new h433.mem o461 (Nat.le_refl _)).symm
   have d469 := Dj.new h17.m h458.ownR (Nat.le_refl _)
   have d470 := Dj.new h451.m h458.ownR (Nat.le_refl _)
   have d471 := Dj.new h433.rd.m h458.ownR (Nat.le_refl _)
   have d472 := Dj.new (inm1 K12) h458.ownR (Nat.le_refl _)
   have d473 := Dj.new (inm1 K32) h458.ownR (Nat.le_refl _)
   have d474 := Dj.new (inm1 K38) h458.ownR (Nat.le_refl _)
   have d475 := Dj.new (inm1 K428) h458.ownR (Nat.le_refl _)
   replace h458 := h458.base hB.size
   replace ow459 := ow459.mono hB.size
   replace hB := Below.through l hB
   replace h17 := h17.go l
   replace h433 := h433.go l
   replace ow435 := ow435.go l
   replace h451 := h451.go l
   replace K12 := K12.thru l
   replace K32 := K32.thru l
   replace K38 := K38.thru l
   replace K428 := K428.thru l
   have h476 := RInstance.mk2 (w := w) i454 h458.rd
   refine x_end ?_
   refine x_tn ?_
   refine ⟨.inl l, ?_⟩
   exact H589 b427 v430 rb431 ib432 v455 rb456 ib457 _ _ (F.sub (sc rfl (sc rfl (sc rfl (sc rfl (sc rfl (sc rfl (sc rfl sn)))))))) hB h17 CK428 i429 h433 ow435 i454 h458 ow459 K12 K32 K38 K428 d436 d438 d439 d440 d441 d442 d443 d469 d471 d472 d473 d474 d462 d463 d464 d466 d467 d444 d475 d445 d447 d465 nb448 nb449 nb450 _ (by kernel_rfl)
  refine o_alloc Tryz.zeroValue60 F rfl rfl (fun a w b477 K478 l BK478 F => ?_)
  have d479 := dj1 h433.memR BK478
  have nb480 := Dj.bb K12 BK478
  have nb481 := Dj.bb K32 BK478
  have nb482 := Dj.bb K38 BK478
  have nb483 := Dj.bb K428 BK478
  have d484 := (dj1 h17.m BK478).symm
  have d485 := (dj1 h26.m BK478).symm
  have d486 := (dj1 h451.m BK478).symm
  have d487 := (dj1 h452.m BK478).symm
  have d488 := (dj1 h433.rd.m BK478).symm
  have CK478 := Nat.le_trans hB.size BK478
  replace hB := Below.through l hB
  replace h17 := h17.go l
  replace h26 := h26.go l
  replace h433 := h433.go l
  replace ow435 := ow435.go l
  replace h451 := h451.go l
  replace h452 := h452.go l
  replace K12 := K12.thru l
  replace K32 := K32.thru l
  replace K38 := K38.thru l
  replace K428 := K428.thru l
  refine x_end ?_
  refine x_tn ?_
  refine ⟨.inl l, ?_⟩
  exact H639 b427 b477 v430 rb431 ib432 _ _ (F.sub (sc rfl (sc rfl (sc rfl (sc rfl (sc rfl (sc rfl (sc rfl (sc rfl sn))))))))) hB h17 h26 CK428 CK478 i429 h433 ow435 K12 K32 K38 K428 K478 d445 d446 d484 d485 d436 d437 d438 d439 d440 d444 d479 d441 d442 d443 d447 d488 nb448 nb480 nb449 nb481 nb450 nb482 nb483 _ (by kernel_rfl)
 refine dp (fun G => ∀ (b365 : Nat) (v368 : Value) (rb369 : List Nat) (ib370 : List Nat) (a : Act) (w : World), Sk a 103 [(2, v2), (3, .pointer (some ⟨b11, 0, none⟩)), (6, .pointer (some ⟨b31, 0, none⟩)), (7, .pointer (some ⟨b37, 0, none⟩)), (10, .pointer (some ⟨b365, 0, none⟩)), (50, (.agg #[.int .i64 z83.size, v368])), (51, (.agg #[.int .i64 x1.vars, v24]))] → Below w0.heap.size w0 w → Rd (Sl 2 RRel) w v15 x0.rels b16 → Rd (Sl 2 RCon) w v24 x1.cons b25 → w0.heap.size ≤ b365 → I64 z83.size → Row 2 RRel 101 w0.heap.size w v368 z83.rels rb369 ib370 → Own w0.heap.size ib370 w → Blk w b11 #[.int .i64 x0.size, v15] 33 → Blk w b31 #[.int .i64 0, (.slice none 0 0)] 33 → Blk w b37 #[.int .i64 0, (.slice none 0 0)] 60 → Blk w b365 #[.int .i64 0, (.slice none 0 0)] 60 → Dj b16 rb369 → Dj b25 rb369 → Dj [b11] rb369 → Dj [b31] rb369 → Dj [b37] rb369 → Dj (rb369 ++ ib370) ([b11]) → Dj (rb369 ++ ib370) ([b31]) → Dj (rb369 ++ ib370) ([b37]) → Dj [b365] rb369 → Dj b16 ([b365]) → Dj b25 ([b365]) → Dj (rb369 ++ ib370) ([b365]) → b11 ≠ b365 → b31 ≠ b365 → b365 ≠ b37 → ∀ ls, ls = #[true, true, true, false, false, true, false, false] → G 4 ls a w) ?_ (fun H391 => ?_)
 ·
  intro b365 v368 rb369 ib370 a w F hB h17 h26 CK366 i367 h371 ow373 K12 K32 K38 K366 d374 d375 d376 d377 d378 d379 d380 d381 d382 d383 d384 d385 nb386 nb387 nb388 ls hls
  subst hls
  have h389 := RTemplate.mk2 (w := w) i367 h371.rd
  have h390 := RInstance.mk2 (w := w) i23 h26
  refine b_es [3, 4] (by kernel_rfl) (by simp) ⟨⟨_, rfl, ?_⟩, ⟨_, rfl, ?_⟩, trivial⟩
  ·
   refine o_gives F rfl Tryz.call95 rfl (impl_ownInstance_c z105 c106 _ h390) (fun a vv w l ⟨v393, rb394, ib395, hv398, i392, h396, ow397⟩ F => ?_)
   subst vv
   have o399 := h396.own ow397
   have d400 := (Dj.new (inm1 K12) o399 (Nat.le_refl _)).symm
   have d401 := (Dj.new (inm1 K32) o399 (Nat.le_refl _)).symm
   have d402 := (Dj.new (inm1 K38) o399 (Nat.le_refl _)).symm
   have d403 := (Dj.new (inm1 K366) o399 (Nat.le_refl _)).symm
   have d404 := (Dj.new h371.memR o399 (Nat.le_refl _)).symm
   have d405 := (Dj.new h371.mem o399 (Nat.le_refl _)).symm
   have d407 := Dj.new h17.m h396.ownR (Nat.le_refl _)
   have d408 := Dj.new h389.m h396.ownR (Nat.le_refl _)
   have d409 := Dj.new h371.rd.m h396.ownR (Nat.le_refl _)
   have d410 := Dj.new (inm1 K12) h396.ownR (Nat.le_refl _)
   have d411 := Dj.new (inm1 K32) h396.ownR (Nat.le_refl _)
   have d412 := Dj.new (inm1 K38) h396.ownR (Nat.le_refl _)
   have d413 := Dj.new (inm1 K366) h396.ownR (Nat.le_refl _)
   replace h396 := h396.base hB.size
   replace ow397 := ow397.mono hB.size
   replace hB := Below.through l hB
   replace h17 := h17.go l
   replace h371 := h371.go l
   replace ow373 := ow373.go l
   replace h389 := h389.go l
   replace K12 := K12.thru l
   replace K32 := K32.thru l
   replace K38 := K38.thru l
   replace K366 := K366.thru l
   have h414 := RInstance.mk2 (w := w) i392 h396.rd
   refine x_end ?_
   refine x_tn ?_
   refine ⟨.inl l, ?_⟩
   exact H532 b365 v368 rb369 ib370 v393 rb394 ib395 _ _ (F.sub (sc rfl (sc rfl (sc rfl (sc rfl (sc rfl (sc rfl (sc rfl sn)))))))) hB h17 CK366 i367 h371 ow373 i392 h396 ow397 K12 K32 K38 K366 d374 d376 d377 d378 d379 d380 d381 d407 d409 d410 d411 d412 d400 d401 d402 d404 d405 d382 d413 d383 d385 d403 nb386 nb387 (Ne.symm nb388) _ (by kernel_rfl)
  refine o_alloc Tryz.zeroValue33 F rfl rfl (fun a w b415 K416 l BK416 F => ?_)
  have d417 := dj1 h371.memR BK416
  have nb418 := Dj.bb K12 BK416
  have nb419 := Dj.bb K32 BK416
  have nb420 := Dj.bb K38 BK416
  have nb421 := Dj.bb K366 BK416
  have d422 := (dj1 h17.m BK416).symm
  have d423 := (dj1 h26.m BK416).symm
  have d424 := (dj1 h389.m BK416).symm
  have d425 := (dj1 h390.m BK416).symm
  have d426 := (dj1 h371.rd.m BK416).symm
  have CK416 := Nat.le_trans hB.size BK416
  replace hB := Below.through l hB
  replace h17 := h17.go l
  replace h26 := h26.go l
  replace h371 := h371.go l
  replace ow373 := ow373.go l
  replace h389 := h389.go l
  replace h390 := h390.go l
  replace K12 := K12.thru l
  replace K32 := K32.thru l
  replace K38 := K38.thru l
  replace K366 := K366.thru l
  refine x_end ?_
  refine x_tn ?_
  refine ⟨.inl l, ?_⟩
  exact H639 b415 b365 v368 rb369 ib370 _ _ (F.sub (sc rfl (sc rfl (sc rfl (sc rfl (sc rfl (sc rfl (sc rfl (sc rfl sn))))))))) hB h17 h26 CK416 CK366 i367 h371 ow373 K12 K32 K38 K416 K366 d422 d423 d383 d384 d374 d375 d376 d377 d378 d417 d382 d379 d380 d381 d426 d385 nb418 nb386 nb419 nb387 nb420 (Ne.symm nb388) (Ne.symm nb421) _ (by kernel_rfl)
 refine dp (fun G => ∀ (b324 : Nat) (b326 : Nat) (a : Act) (w : World), Sk a 103 [(2, v2), (3, .pointer (some ⟨b11, 0, none⟩)), (6, .pointer (some ⟨b31, 0, none⟩)), (7, .pointer (some ⟨b37, 0, none⟩)), (9, .pointer (some ⟨b324, 0, none⟩)), (10, .pointer (some ⟨b326, 0, none⟩)), (49, (.agg #[.int .i64 x0.size, v15])), (51, (.agg #[.int .i64 x1.vars, v24]))] → Below w0.heap.size w0 w → Rd (Sl 2 RRel) w v15 x0.rels b16 → Rd (Sl 2 RCon) w v24 x1.cons b25 → w0.heap.size ≤ b324 → w0.heap.size ≤ b326 → Blk w b11 #[.int .i64 x0.size, v15] 33 → Blk w b31 #[.int .i64 0, (.slice none 0 0)] 33 → Blk w b37 #[.int .i64 0, (.slice none 0 0)] 60 → Blk w b324 #[.int .i64 0, (.slice none 0 0)] 33 → Blk w b326 #[.int .i64 0, (.slice none 0 0)] 60 → Dj b16 ([b324]) → Dj b25 ([b324]) → Dj b16 ([b326]) → Dj b25 ([b326]) → b11 ≠ b324 → b11 ≠ b326 → b31 ≠ b324 → b31 ≠ b326 → b324 ≠ b37 → b324 ≠ b326 → b326 ≠ b37 → ∀ ls, ls = #[true, false, true, false, true, true, false, false] → G 4 ls a w) ?_ (fun H341 => ?_)
 ·
  intro b324 b326 a w F hB h17 h26 CK325 CK327 K12 K32 K38 K325 K327 d328 d329 d330 d331 nb332 nb333 nb334 nb335 nb336 nb337 nb338 ls hls
  subst hls
  have h339 := RTemplate.mk2 (w := w) i14 h17
  have h340 := RInstance.mk2 (w := w) i23 h26
  refine b_e 1 rfl (by kernel_rfl) ?_
  refine o_gives F rfl Tryz.call94 rfl (impl_ownTemplate_c z83 c84 _ h339) (fun a vv w l ⟨v343, rb344, ib345, hv348, i342, h346, ow347⟩ F => ?_)
  subst vv
  have o349 := h346.own ow347
  have d350 := (Dj.new (inm1 K12) o349 (Nat.le_refl _)).symm
  have d351 := (Dj.new (inm1 K32) o349 (Nat.le_refl _)).symm
  have d352 := (Dj.new (inm1 K38) o349 (Nat.le_refl _)).symm
  have d353 := (Dj.new (inm1 K325) o349 (Nat.le_refl _)).symm
  have d354 := (Dj.new (inm1 K327) o349 (Nat.le_refl _)).symm
  have d356 := Dj.new h17.m h346.ownR (Nat.le_refl _)
  have d357 := Dj.new h26.m h346.ownR (Nat.le_refl _)
  have d358 := Dj.new h340.m h346.ownR (Nat.le_refl _)
  have d359 := Dj.new (inm1 K12) h346.ownR (Nat.le_refl _)
  have d360 := Dj.new (inm1 K32) h346.ownR (Nat.le_refl _)
  have d361 := Dj.new (inm1 K38) h346.ownR (Nat.le_refl _)
  have d362 := Dj.new (inm1 K325) h346.ownR (Nat.le_refl _)
  have d363 := Dj.new (inm1 K327) h346.ownR (Nat.le_refl _)
  replace h346 := h346.base hB.size
  replace ow347 := ow347.mono hB.size
  replace hB := Below.through l hB
  replace h17 := h17.go l
  replace h26 := h26.go l
  replace h340 := h340.go l
  replace K12 := K12.thru l
  replace K32 := K32.thru l
  replace K38 := K38.thru l
  replace K325 := K325.thru l
  replace K327 := K327.thru l
  have h364 := RTemplate.mk2 (w := w) i342 h346.rd
  refine x_end ?_
  refine x_tn ?_
  refine ⟨.inl l, ?_⟩
  exact H639 b324 b326 v343 rb344 ib345 _ _ (F.sub (sc rfl (sc rfl (sc rfl (sc rfl (sc rfl (sc rfl (sc rfl (sc rfl sn))))))))) hB h17 h26 CK325 CK327 i342 h346 ow347 K12 K32 K38 K325 K327 d328 d329 d330 d331 d356 d357 d359 d360 d361 d362 d363 d350 d351 d352 d353 d354 nb332 nb333 nb334 nb335 (Ne.symm nb336) (Ne.symm nb338) nb337 _ (by kernel_rfl)
 refine b_q 0 (by kernel_rfl) rfl (by kernel_rfl) (by kernel_rfl) (by kernel_rfl) (by kernel_rfl) ?_
 refine v_val F rfl (fun w l => r_bloadA (cs := [.int .i64 x0.size, v15]) Tryz.isAgg33 Tryz.sizeOf33 F rfl (K12.thru l) rfl (fun j hj => by match j, hj with | 0, _ => rfl | 1, _ => rfl)) (fun a F => ?_)
 have h153 := RTemplate.mk2 (w := w) i14 h17
 refine b_q 2 (by kernel_rfl) rfl (by kernel_rfl) (by kernel_rfl) (by kernel_rfl) (by kernel_rfl) ?_
 refine v_val F rfl (fun w l => r_bloadA (cs := [.int .i64 x1.vars, v24]) Tryz.isAgg60 Tryz.sizeOf60 F rfl (K21.thru l) rfl (fun j hj => by match j, hj with | 0, _ => rfl | 1, _ => rfl)) (fun a F => ?_)
 have h154 := RInstance.mk2 (w := w) i23 h26
 refine b_es [1, 4, 5] (by kernel_rfl) (by simp) ⟨⟨_, rfl, ?_⟩, ⟨_, rfl, ?_⟩, ⟨_, rfl, ?_⟩, trivial⟩
 ·
  refine o_gives F rfl Tryz.call94 rfl (impl_ownTemplate_c z83 c84 _ h153) (fun a vv w l ⟨v156, rb157, ib158, hv161, i155, h159, ow160⟩ F => ?_)
  subst vv
  have o162 := h159.own ow160
  have d163 := (Dj.new (inm1 K12) o162 (Nat.le_refl _)).symm
  have d164 := (Dj.new (inm1 K21) o162 (Nat.le_refl _)).symm
  have d165 := (Dj.new (inm1 K32) o162 (Nat.le_refl _)).symm
  have d166 := (Dj.new (inm1 K38) o162 (Nat.le_refl _)).symm
  have d168 := Dj.new h17.m h159.ownR (Nat.le_refl _)
  have d169 := Dj.new h26.m h159.ownR (Nat.le_refl _)
  have d170 := Dj.new h154.m h159.ownR (Nat.le_refl _)
  have d171 := Dj.new (inm1 K12) h159.ownR (Nat.le_refl _)
  have d172 := Dj.new (inm1 K32) h159.ownR (Nat.le_refl _)
  have d173 := Dj.new (inm1 K38) h159.ownR (Nat.le_refl _)
  replace h159 := h159.base hB.size
  replace ow160 := ow160.mono hB.size
  replace hB := Below.through l hB
  replace h17 := h17.go l
  replace h26 := h26.go l
  replace h154 := h154.go l
  replace K12 := K12.thru l
  replace K32 := K32.thru l
  replace K38 := K38.thru l
  have h174 := RTemplate.mk2 (w := w) i155 h159.rd
  refine x_end ?_
  refine x_tn ?_
  refine ⟨.inl l, ?_⟩
  refine b_es [3, 4, 5] (by kernel_rfl) (by simp) ⟨⟨_, rfl, ?_⟩, ⟨_, rfl, ?_⟩, ⟨_, rfl, ?_⟩, trivial⟩
  ·
   refine o_gives F rfl Tryz.call95 rfl (impl_ownInstance_c z105 c106 _ h154) (fun a vv w l ⟨v176, rb177, ib178, hv181, i175, h179, ow180⟩ F => ?_)
   subst vv
   have o182 := h179.own ow180
   have d183 := (Dj.new (inm1 K12) o182 (Nat.le_refl _)).symm
   have d184 := (Dj.new (inm1 K32) o182 (Nat.le_refl _)).symm
   have d185 := (Dj.new (inm1 K38) o182 (Nat.le_refl _)).symm
   have d186 := (Dj.new h159.memR o182 (Nat.le_refl _)).symm
   have d187 := (Dj.new h159.mem o182 (Nat.le_refl _)).symm
   have d189 := Dj.new h17.m h179.ownR (Nat.le_refl _)
   have d190 := Dj.new h174.m h179.ownR (Nat.le_refl _)
   have d191 := Dj.new h159.rd.m h179.ownR (Nat.le_refl _)
   have d192 := Dj.new (inm1 K12) h179.ownR (Nat.le_refl _)
   have d193 := Dj.new (inm1 K32) h179.ownR (Nat.le_refl _)
   have d194 := Dj.new (inm1 K38) h179.ownR (Nat.le_refl _)
   replace h179 := h179.base hB.size
   replace ow180 := ow180.mono hB.size
   replace hB := Below.through l hB
   replace h17 := h17.go l
   replace h159 := h159.go l
   replace ow160 := ow160.go l
   replace h174 := h174.go l
   replace K12 := K12.thru l
   replace K32 := K32.thru l
   replace K38 := K38.thru l
   have h195 := RInstance.mk2 (w := w) i175 h179.rd
   refine x_end ?_
   refine x_tn ?_
   refine ⟨.inl l, ?_⟩
   refine b_es [4, 5] (by kernel_rfl) (by simp) ⟨⟨_, rfl, ?_⟩, ⟨_, rfl, ?_⟩, trivial⟩
   ·
    refine o_alloc Tryz.zeroValue33 F rfl rfl (fun a w b196 K197 l BK197 F => ?_)
    have d198 := dj1 h159.memR BK197
    have d199 := dj1 h179.memR BK197
    have nb200 := Dj.bb K12 BK197
    have nb201 := Dj.bb K32 BK197
    have nb202 := Dj.bb K38 BK197
    have d203 := (dj1 h17.m BK197).symm
    have d204 := (dj1 h174.m BK197).symm
    have d205 := (dj1 h195.m BK197).symm
    have d206 := (dj1 h159.rd.m BK197).symm
    have d207 := (dj1 h179.rd.m BK197).symm
    have CK197 := Nat.le_trans hB.size BK197
    replace hB := Below.through l hB
    replace h17 := h17.go l
    replace h159 := h159.go l
    replace ow160 := ow160.go l
    replace h174 := h174.go l
    replace h179 := h179.go l
    replace ow180 := ow180.go l
    replace h195 := h195.go l
    replace K12 := K12.thru l
    replace K32 := K32.thru l
    replace K38 := K38.thru l
    refine x_end ?_
    refine x_tn ?_
    refine ⟨.inl l, ?_⟩
    exact H589 b196 v156 rb157 ib158 v176 rb177 ib178 _ _ (F.sub (sc rfl (sc rfl (sc rfl (sc rfl (sc rfl (sc rfl (sc rfl sn)))))))) hB h17 CK197 i155 h159 ow160 i175 h179 ow180 K12 K32 K38 K197 d168 d171 d172 d173 d163 d165 d166 d189 d191 d192 d193 d194 d183 d184 d185 d186 d187 d198 d199 d203 d206 d207 nb200 nb201 nb202 _ (by kernel_rfl)
   refine o_alloc Tryz.zeroValue60 F rfl rfl (fun a w b208 K209 l BK209 F => ?_)
   have d210 := dj1 h159.memR BK209
   have d211 := dj1 h179.memR BK209
   have nb212 := Dj.bb K12 BK209
   have nb213 := Dj.bb K32 BK209
   have nb214 := Dj.bb K38 BK209
   have d215 := (dj1 h17.m BK209).symm
   have d216 := (dj1 h174.m BK209).symm
   have d217 := (dj1 h195.m BK209).symm
   have d218 := (dj1 h159.rd.m BK209).symm
   have d219 := (dj1 h179.rd.m BK209).symm
   have CK209 := Nat.le_trans hB.size BK209
   replace hB := Below.through l hB
   replace h17 := h17.go l
   replace h159 := h159.go l
   replace ow160 := ow160.go l
   replace h174 := h174.go l
   replace h179 := h179.go l
   replace ow180 := ow180.go l
   replace h195 := h195.go l
   replace K12 := K12.thru l
   replace K32 := K32.thru l
   replace K38 := K38.thru l
   refine x_end ?_
   refine x_tn ?_
   refine ⟨.inl l, ?_⟩
   exact H532 b208 v156 rb157 ib158 v176 rb177 ib178 _ _ (F.sub (sc rfl (sc rfl (sc rfl (sc rfl (sc rfl (sc rfl (sc rfl sn)))))))) hB h17 CK209 i155 h159 ow160 i175 h179 ow180 K12 K32 K38 K209 d168 d171 d172 d173 d163 d165 d166 d189 d191 d192 d193 d194 d183 d184 d185 d186 d187 d210 d211 d215 d218 d219 nb212 nb213 nb214 _ (by kernel_rfl)
  ·
   refine o_alloc Tryz.zeroValue33 F rfl rfl (fun a w b220 K221 l BK221 F => ?_)
   have d222 := dj1 h159.memR BK221
   have nb223 := Dj.bb K12 BK221
   have nb224 := Dj.bb K32 BK221
   have nb225 := Dj.bb K38 BK221
   have d226 := (dj1 h17.m BK221).symm
   have d227 := (dj1 h26.m BK221).symm
   have d228 := (dj1 h154.m BK221).symm
   have d229 := (dj1 h174.m BK221).symm
   have d230 := (dj1 h159.rd.m BK221).symm
   have CK221 := Nat.le_trans hB.size BK221
   replace hB := Below.through l hB
   replace h17 := h17.go l
   replace h26 := h26.go l
   replace h154 := h154.go l
   replace h159 := h159.go l
   replace ow160 := ow160.go l
   replace h174 := h174.go l
   replace K12 := K12.thru l
   replace K32 := K32.thru l
   replace K38 := K38.thru l
   refine x_end ?_
   refine x_tn ?_
   refine ⟨.inl l, ?_⟩
   exact H453 b220 v156 rb157 ib158 _ _ (F.sub (sc rfl (sc rfl (sc rfl (sc rfl (sc rfl (sc rfl (sc rfl sn)))))))) hB h17 h26 CK221 i155 h159 ow160 K12 K32 K38 K221 d168 d169 d171 d172 d173 d163 d165 d166 d222 d226 d227 d230 nb223 nb224 nb225 _ (by kernel_rfl)
  refine o_alloc Tryz.zeroValue60 F rfl rfl (fun a w b231 K232 l BK232 F => ?_)
  have d233 := dj1 h159.memR BK232
  have nb234 := Dj.bb K12 BK232
  have nb235 := Dj.bb K32 BK232
  have nb236 := Dj.bb K38 BK232
  have d237 := (dj1 h17.m BK232).symm
  have d238 := (dj1 h26.m BK232).symm
  have d239 := (dj1 h154.m BK232).symm
  have d240 := (dj1 h174.m BK232).symm
  have d241 := (dj1 h159.rd.m BK232).symm
  have CK232 := Nat.le_trans hB.size BK232
  replace hB := Below.through l hB
  replace h17 := h17.go l
  replace h26 := h26.go l
  replace h154 := h154.go l
  replace h159 := h159.go l
  replace ow160 := ow160.go l
  replace h174 := h174.go l
  replace K12 := K12.thru l
  replace K32 := K32.thru l
  replace K38 := K38.thru l
  refine x_end ?_
  refine x_tn ?_
  refine ⟨.inl l, ?_⟩
  exact H391 b231 v156 rb157 ib158 _ _ (F.sub (sc rfl (sc rfl (sc rfl (sc rfl (sc rfl (sc rfl (sc rfl sn)))))))) hB h17 h26 CK232 i155 h159 ow160 K12 K32 K38 K232 d168 d169 d171 d172 d173 d163 d165 d166 d233 d237 d238 d241 nb234 nb235 (Ne.symm nb236) _ (by kernel_rfl)
 ·
  refine o_alloc Tryz.zeroValue33 F rfl rfl (fun a w b242 K243 l BK243 F => ?_)
  have nb244 := Dj.bb K12 BK243
  have nb245 := Dj.bb K21 BK243
  have nb246 := Dj.bb K32 BK243
  have nb247 := Dj.bb K38 BK243
  have d248 := (dj1 h17.m BK243).symm
  have d249 := (dj1 h26.m BK243).symm
  have d250 := (dj1 h153.m BK243).symm
  have d251 := (dj1 h154.m BK243).symm
  have CK243 := Nat.le_trans hB.size BK243
  replace hB := Below.through l hB
  replace h17 := h17.go l
  replace h26 := h26.go l
  replace h153 := h153.go l
  replace h154 := h154.go l
  replace K12 := K12.thru l
  replace K32 := K32.thru l
  replace K38 := K38.thru l
  refine x_end ?_
  refine x_tn ?_
  refine ⟨.inl l, ?_⟩
  refine b_es [1, 5] (by kernel_rfl) (by simp) ⟨⟨_, rfl, ?_⟩, ⟨_, rfl, ?_⟩, trivial⟩
  ·
   refine o_gives F rfl Tryz.call94 rfl (impl_ownTemplate_c z83 c84 _ h153) (fun a vv w l ⟨v253, rb254, ib255, hv258, i252, h256, ow257⟩ F => ?_)
   subst vv
   have o259 := h256.own ow257
   have d260 := (Dj.new (inm1 K12) o259 (Nat.le_refl _)).symm
   have d261 := (Dj.new (inm1 K32) o259 (Nat.le_refl _)).symm
   have d262 := (Dj.new (inm1 K38) o259 (Nat.le_refl _)).symm
   have d263 := (Dj.new (inm1 K243) o259 (Nat.le_refl _)).symm
   have d265 := Dj.new h17.m h256.ownR (Nat.le_refl _)
   have d266 := Dj.new h26.m h256.ownR (Nat.le_refl _)
   have d267 := Dj.new h154.m h256.ownR (Nat.le_refl _)
   have d268 := Dj.new (inm1 K12) h256.ownR (Nat.le_refl _)
   have d269 := Dj.new (inm1 K32) h256.ownR (Nat.le_refl _)
   have d270 := Dj.new (inm1 K38) h256.ownR (Nat.le_refl _)
   have d271 := Dj.new (inm1 K243) h256.ownR (Nat.le_refl _)
   replace h256 := h256.base hB.size
   replace ow257 := ow257.mono hB.size
   replace hB := Below.through l hB
   replace h17 := h17.go l
   replace h26 := h26.go l
   replace h154 := h154.go l
   replace K12 := K12.thru l
   replace K32 := K32.thru l
   replace K38 := K38.thru l
   replace K243 := K243.thru l
   have h272 := RTemplate.mk2 (w := w) i252 h256.rd
   refine x_end ?_
   refine x_tn ?_
   refine ⟨.inl l, ?_⟩
   exact H453 b242 v253 rb254 ib255 _ _ (F.sub (sc rfl (sc rfl (sc rfl (sc rfl (sc rfl (sc rfl (sc rfl sn)))))))) hB h17 h26 CK243 i252 h256 ow257 K12 K32 K38 K243 d265 d266 d268 d269 d270 d260 d261 d262 d271 d248 d249 d263 nb244 nb246 nb247 _ (by kernel_rfl)
  refine o_alloc Tryz.zeroValue60 F rfl rfl (fun a w b273 K274 l BK274 F => ?_)
  have nb275 := Dj.bb K12 BK274
  have nb276 := Dj.bb K32 BK274
  have nb277 := Dj.bb K38 BK274
  have nb278 := Dj.bb K243 BK274
  have d279 := (dj1 h17.m BK274).symm
  have d280 := (dj1 h26.m BK274).symm
  have d281 := (dj1 h153.m BK274).symm
  have d282 := (dj1 h154.m BK274).symm
  have CK274 := Nat.le_trans hB.size BK274
  replace hB := Below.through l hB
  replace h17 := h17.go l
  replace h26 := h26.go l
  replace h153 := h153.go l
  replace h154 := h154.go l
  replace K12 := K12.thru l
  replace K32 := K32.thru l
  replace K38 := K38.thru l
  replace K243 := K243.thru l
  refine x_end ?_
  refine x_tn ?_
  refine ⟨.inl l, ?_⟩
  exact H341 b242 b273 _ _ (F.sub (sc rfl (sc rfl (sc rfl (sc rfl (sc rfl (sc rfl (sc rfl (sc rfl sn))))))))) hB h17 h26 CK243 CK274 K12 K32 K38 K243 K274 d248 d249 d279 d280 nb244 nb275 nb246 nb276 (Ne.symm nb247) nb278 (Ne.symm nb277) _ (by kernel_rfl)
 refine o_alloc Tryz.zeroValue60 F rfl rfl (fun a w b283 K284 l BK284 F => ?_)
 have nb285 := Dj.bb K12 BK284
 have nb286 := Dj.bb K21 BK284
 have nb287 := Dj.bb K32 BK284
 have nb288 := Dj.bb K38 BK284
 have d289 := (dj1 h17.m BK284).symm
 have d290 := (dj1 h26.m BK284).symm
 have d291 := (dj1 h153.m BK284).symm
 have d292 := (dj1 h154.m BK284).symm
 have CK284 := Nat.le_trans hB.size BK284
 replace hB := Below.through l hB
 replace h17 := h17.go l
 replace h26 := h26.go l
 replace h153 := h153.go l
 replace h154 := h154.go l
 replace K12 := K12.thru l
 replace K32 := K32.thru l
 replace K38 := K38.thru l
 refine x_end ?_
 refine x_tn ?_
 refine ⟨.inl l, ?_⟩
 refine b_es [1, 4] (by kernel_rfl) (by simp) ⟨⟨_, rfl, ?_⟩, ⟨_, rfl, ?_⟩, trivial⟩
 ·
  refine o_gives F rfl Tryz.call94 rfl (impl_ownTemplate_c z83 c84 _ h153) (fun a vv w l ⟨v294, rb295, ib296, hv299, i293, h297, ow298⟩ F => ?_)
  subst vv
  have o300 := h297.own ow298
  have d301 := (Dj.new (inm1 K12) o300 (Nat.le_refl _)).symm
  have d302 := (Dj.new (inm1 K32) o300 (Nat.le_refl _)).symm
  have d303 := (Dj.new (inm1 K38) o300 (Nat.le_refl _)).symm
  have d304 := (Dj.new (inm1 K284) o300 (Nat.le_refl _)).symm
  have d306 := Dj.new h17.m h297.ownR (Nat.le_refl _)
  have d307 := Dj.new h26.m h297.ownR (Nat.le_refl _)
  have d308 := Dj.new h154.m h297.ownR (Nat.le_refl _)
  have d309 := Dj.new (inm1 K12) h297.ownR (Nat.le_refl _)
  have d310 := Dj.new (inm1 K32) h297.ownR (Nat.le_refl _)
  have d311 := Dj.new (inm1 K38) h297.ownR (Nat.le_refl _)
  have d312 := Dj.new (inm1 K284) h297.ownR (Nat.le_refl _)
  replace h297 := h297.base hB.size
  replace ow298 := ow298.mono hB.size
  replace hB := Below.through l hB
  replace h17 := h17.go l
  replace h26 := h26.go l
  replace h154 := h154.go l
  replace K12 := K12.thru l
  replace K32 := K32.thru l
  replace K38 := K38.thru l
  replace K284 := K284.thru l
  have h313 := RTemplate.mk2 (w := w) i293 h297.rd
  refine x_end ?_
  refine x_tn ?_
  refine ⟨.inl l, ?_⟩
  exact H391 b283 v294 rb295 ib296 _ _ (F.sub (sc rfl (sc rfl (sc rfl (sc rfl (sc rfl (sc rfl (sc rfl sn)))))))) hB h17 h26 CK284 i293 h297 ow298 K12 K32 K38 K284 d306 d307 d309 d310 d311 d301 d302 d303 d312 d289 d290 d304 nb285 nb287 (Ne.symm nb288) _ (by kernel_rfl)
 refine o_alloc Tryz.zeroValue33 F rfl rfl (fun a w b314 K315 l BK315 F => ?_)
 have nb316 := Dj.bb K12 BK315
 have nb317 := Dj.bb K32 BK315
 have nb318 := Dj.bb K38 BK315
 have nb319 := Dj.bb K284 BK315
 have d320 := (dj1 h17.m BK315).symm
 have d321 := (dj1 h26.m BK315).symm
 have d322 := (dj1 h153.m BK315).symm
 have d323 := (dj1 h154.m BK315).symm
 have CK315 := Nat.le_trans hB.size BK315
 replace hB := Below.through l hB
 replace h17 := h17.go l
 replace h26 := h26.go l
 replace h153 := h153.go l
 replace h154 := h154.go l
 replace K12 := K12.thru l
 replace K32 := K32.thru l
 replace K38 := K38.thru l
 replace K284 := K284.thru l
 refine x_end ?_
 refine x_tn ?_
 refine ⟨.inl l, ?_⟩
 exact H341 b314 b283 _ _ (F.sub (sc rfl (sc rfl (sc rfl (sc rfl (sc rfl (sc rfl (sc rfl (sc rfl sn))))))))) hB h17 h26 CK315 CK284 K12 K32 K38 K315 K284 d320 d321 d289 d290 nb316 nb285 nb317 nb287 (Ne.symm nb318) (Ne.symm nb319) (Ne.symm nb288) _ (by kernel_rfl)
end Go.Proofs.YtfggmelojaicfaaGreat
