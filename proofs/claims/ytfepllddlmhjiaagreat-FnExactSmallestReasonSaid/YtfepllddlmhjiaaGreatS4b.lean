/-
  Functions of the program as plain functions, and that they compute them. Printed by fxio.py.
-/
import Derived.Test.YtfepllddlmhjiaaGreatS3b
namespace Go.Proofs.YtfepllddlmhjiaaGreat
set_option linter.unusedVariables false
set_option linter.unusedSimpArgs false
set_option maxRecDepth 100000
open Go.RowKit
def spec_l08Some (x0 : Instance) (x1 : List Int) : Option Instance :=
 thn (σ := (List Con)) (
  forL (σ := (List Con)) (ρ := Instance) (fun (k143 : Nat) (x145 : Int) (s127 : (List Con)) =>
   bnd (ix x0.cons x145) fun z163 =>
   bnd (ap s127 ([z163])) fun z183 =>
   some (.go z183)) x1 0 []) fun s135 =>
 some ((Instance.mk x0.vars s135))
set_option maxHeartbeats 1000000 in
theorem spec_l08Some_c {x0 : Instance} {x1 : List Int} (r : Instance) (hR : spec_l08Some x0 x1 = some r) {v0 : Value} {b0 : List Nat} {v1 : Value} {b1 : List Nat} (w0 : World) (A0 : Rd (Pt 2 RInstance) w0 v0 x0 b0) (A1 : Rd (Sl 1 RInt) w0 v1 x1 b1) : Calls Tryz.prog 112 #[v0, v1] w0 (Gives (fun v w' => ∃ (v1' : Value) (rb2' : List Nat) (ib3' : List Nat), v = .agg #[.int .i64 r.vars, v1'] ∧ I64 r.vars ∧ Row 2 RCon 194 w0.heap.size w' v1' r.cons rb2' ib3') w0) := by
 unfold spec_l08Some at hR
 refine x_enter (L := [(0, v0), (1, v1)]) Tryz.func112 rfl rfl rfl (sc rfl (sc rfl sn)) (fun a F => ?_)
 have hB := Below.refl w0.heap.size w0
 refine x_seq ?_
 refine x_reg ?_
 refine o_alloc Tryz.zeroValue51 F rfl rfl (fun a w b11 K12 l BK12 F => ?_)
 have CK12 := Nat.le_trans hB.size BK12
 replace hB := Below.through l hB
 refine x_end ?_
 refine x_tn ?_
 refine x_seq ?_
 refine x_reg ?_
 refine o_move F rfl rfl (fun a F => ?_)
 refine o_nilCheckP F rfl rfl (A0.go hB) (fun a F => ?_)
 refine o_field (s' := 1) fa51_0 F rfl rfl (A0.go hB) RInstance.f0 (fun a p13 b14 h15 s16 F => ?_)
 have i17 := (h15).i64
 refine o_loadI Tryz.isAgg2 F rfl rfl h15 (fun a F => ?_)
 refine o_build Tryz.underlying51 Tryz.zeroValue51 (fun w => by simp [Tryz.sizeOf2, Tryz.sizeOf49]; rfl) F rfl rfl rfl rfl rfl (oc rfl on) rfl rfl (fun a F => ?_)
 have h18 := RInstance.mk2 (w := w) i17 (Rd.nil 2 RCon _)
 refine o_alloc Tryz.zeroValue51 F rfl rfl (fun a w b19 K20 l BK20 F => ?_)
 have nb21 := Dj.bb K12 BK20
 have d22 := (dj1 h15.m BK20).symm
 have d23 := (dj1 h18.m BK20).symm
 have CK20 := Nat.le_trans hB.size BK20
 replace hB := Below.through l hB
 replace h18 := h18.go l
 replace K12 := K12.thru l
 refine o_bstoreA (vs := [.int .i64 x0.vars, (.slice none 0 0)]) Tryz.sizeOf51 F rfl rfl rfl K20 (oc rfl (oc rfl on)) (Nat.le_of_ble_eq_true rfl) rfl (fun w K20 l => ?_)
 replace hB := hB.o l (fun c hc => by rw [List.mem_singleton] at hc; rw [hc]; exact CK20) hB.size
 replace K12 := K12.only l (by simpa using nb21)
 refine x_end ?_
 refine x_tn ?_
 refine x_seq ?_
 refine x_seq ?_
 refine x_reg ?_
 refine o_assign F rfl rfl (fun a F => ?_)
 refine x_end ?_
 refine x_tn ?_
 obtain ⟨o121, hR, hk122⟩ := thn_some hR
 refine x_cutQ (fun a w => ∃ (s135 : List Con) (v138 : Value) (rb139 : List Nat) (ib140 : List Nat), o121 = .nx s135 ∧ Sk a 34 [(4, .pointer (some ⟨b11, 0, none⟩)), (5, .pointer (some ⟨b19, 0, none⟩))] ∧ Below w0.heap.size w0 w ∧ Row 2 RCon 194 w0.heap.size w v138 s135 rb139 ib140 ∧ Blk w b11 #[.int .i64 0, (.slice none 0 0)] 51 ∧ Blk w b19 #[.int .i64 x0.vars, v138] 51 ∧ Dj (rb139 ++ ib140) [b11] ∧ Dj (rb139 ++ ib140) [b19]) ?_ ?_
 ·
  refine x_blk ?_
  obtain ⟨fl125, hf126, hR⟩ := forL_gen hR
  refine x_loop (fun g a w => ∃ (k143 : Nat) (rest144 : List Int) (s127 : List Con) (v130 : Value) (rb131 : List Nat) (ib132 : List Nat), (k143 ≤ x1.length ∧ x1.drop k143 = rest144) ∧ rest144.length = g ∧ forL fl125 rest144 k143 s127 = some o121 ∧ Sk a 34 [(6, .int .i64 (k143 : Int)), (0, v0), (1, v1), (4, .pointer (some ⟨b11, 0, none⟩)), (5, .pointer (some ⟨b19, 0, none⟩))] ∧ Below w0.heap.size w0 w ∧ Row 2 RCon 194 w0.heap.size w v130 s127 rb131 ib132 ∧ Blk w b11 #[.int .i64 0, (.slice none 0 0)] 51 ∧ Blk w b19 #[.int .i64 x0.vars, v130] 51 ∧ Dj (rb131 ++ ib132) [b11] ∧ Dj (rb131 ++ ib132) [b19]) x1.length ?_ ?_
  ·
   exact ⟨0, x1, [], (.slice none 0 0), [], [], ⟨Nat.zero_le _, rfl⟩, rfl, hR, F.sub (sc rfl (sc rfl (sc rfl (sc rfl (sc rfl sn))))), hB, Row.nil 2 RCon 194 _ _, K12, K20, (Dj.nil' _), (Dj.nil' _)⟩
  ·
   intro g146 a w ⟨k143, rest144, s127, v130, rb131, ib132, hd147, hg148, hR, F, hB, h129, K12, K20, d133, d134⟩
   cases rest144 with
   | nil =>
    replace hR := forL_nil hR
    have hkk143 := drop_nil hd147.1 hd147.2
    have hlk143 := dec_no hkk143
    refine x_seq ?_
    refine x_seq ?_
    refine x_reg ?_
    refine o_move F rfl rfl (fun a F => ?_)
    refine o_move F rfl rfl (fun a F => ?_)
    refine o_len Tryz.underlying46 F rfl rfl (A1.go hB) (fun a F => ?_)
    have i193 := ((A1.go hB)).r.len64
    refine o_lss F rfl rfl rfl (fun a F => ?_)
    refine x_end ?_
    refine x_tn ?_
    refine x_ifF F rfl hlk143 ?_
    refine x_exit ?_
    refine x_te ?_
    refine x_te ?_
    refine x_be ?_
    refine x_tn ?_
    exact ⟨s127, v130, rb131, ib132, (Option.some.inj hR).symm, F.sub (sc rfl (sc rfl sn)), hB, h129, K12, K20, d133, d134⟩
   | cons x145 rest144 =>
    subst hg148
    replace hd147 := drop_cons hd147.2
    have hxk143 := ix_nat hd147.2.1
    obtain ⟨ck143, hR, hn124⟩ := forL_cons hR
    rw [hf126] at hR
    have hlk143 := dec_yes hd147.1
    refine x_seq ?_
    refine x_seq ?_
    refine x_reg ?_
    refine o_move F rfl rfl (fun a F => ?_)
    refine o_move F rfl rfl (fun a F => ?_)
    refine o_len Tryz.underlying46 F rfl rfl (A1.go hB) (fun a F => ?_)
    have i149 := ((A1.go hB)).r.len64
    refine o_lss F rfl rfl rfl (fun a F => ?_)
    refine x_end ?_
    refine x_tn ?_
    refine x_ifT F rfl hlk143 ?_
    refine x_skip ?_
    refine x_tn ?_
    refine x_seq ?_
    have ikk143 := k64 (Nat.le_of_lt hd147.1) i149
    have ink143 := inc64 hd147.1 i149
    refine x_blk ?_
    refine x_drawn (by kernel_rfl) (fun w l => ?_)
    replace hB := Below.through l hB
    replace h129 := h129.go l
    replace K12 := K12.thru l
    replace K20 := K20.thru l
    refine b_q 0 (by kernel_rfl) rfl (by kernel_rfl) (by kernel_rfl) (by kernel_rfl) (by kernel_rfl) ?_
    refine v_val F rfl (fun w l => r_bfield fa51_1 F rfl rfl) (fun a F => ?_)
    refine b_q 1 (by kernel_rfl) rfl (by kernel_rfl) (by kernel_rfl) (by kernel_rfl) (by kernel_rfl) ?_
    refine v_val F rfl (fun w l => r_load1 Tryz.isAgg49 F rfl (((K20.thru l).cell _).trans rfl)) (fun a F => ?_)
    refine b_q0 2 rfl (by kernel_rfl) (by kernel_rfl) (by kernel_rfl) ?_
    refine v_val F rfl (fun w l => r_move F rfl) (fun a F => ?_)
    refine b_q 3 (by kernel_rfl) rfl (by kernel_rfl) (by kernel_rfl) (by kernel_rfl) (by kernel_rfl) ?_
    refine v_val F rfl (fun w l => r_nilCheckP F rfl (A0.go hB)) (fun a F => ?_)
    refine b_q 4 (by kernel_rfl) rfl (by kernel_rfl) (by kernel_rfl) (by kernel_rfl) (by kernel_rfl) ?_
    refine v_field (s' := 1) fa51_1 F rfl rfl (A0.go hB) RInstance.f1 (fun a p150 b151 h152 s153 F => ?_)
    refine b_q 5 (by kernel_rfl) rfl (by kernel_rfl) (by kernel_rfl) (by kernel_rfl) (by kernel_rfl) ?_
    refine v_loadS (fun _ l => l) Tryz.isAgg49 F rfl rfl h152 (fun a v154 b155 h156 s157 F => ?_)
    refine b_q0 6 rfl (by kernel_rfl) (by kernel_rfl) (by kernel_rfl) ?_
    refine v_val F rfl (fun w l => r_move F rfl) (fun a F => ?_)
    refine b_q0 7 rfl (by kernel_rfl) (by kernel_rfl) (by kernel_rfl) ?_
    refine v_val F rfl (fun w l => r_move F rfl) (fun a F => ?_)
    refine b_q 8 (by kernel_rfl) rfl (by kernel_rfl) (by kernel_rfl) (by kernel_rfl) (by kernel_rfl) ?_
    refine v_index Tryz.underlying46 Tryz.sizeOf2 F rfl rfl rfl (A1.go hB) hxk143 (fun a p158 b159 h160 s161 F => ?_)
    refine b_q 9 (by kernel_rfl) rfl (by kernel_rfl) (by kernel_rfl) (by kernel_rfl) (by kernel_rfl) ?_
    have i162 := (h160).i64
    refine v_val F rfl (fun w l => r_loadI Tryz.isAgg2 F rfl ((h160).go l)) (fun a F => ?_)
    refine b_q 10 (by kernel_rfl) rfl (by kernel_rfl) (by kernel_rfl) (by kernel_rfl) (by kernel_rfl) ?_
    obtain ⟨z163, c164, hR⟩ := bnd_some hR
    refine v_index Tryz.underlying49 Tryz.sizeOf194 F rfl rfl rfl h156 c164 (fun a p165 b166 h167 s168 F => ?_)
    refine b_q 11 (by kernel_rfl) rfl (by kernel_rfl) (by kernel_rfl) (by kernel_rfl) (by kernel_rfl) ?_
    refine v_loadA (fun _ l => l) Tryz.isAgg194 Tryz.sizeOf194 F rfl rfl h167 (fun a v169 b170 h171 s172 F => ?_)
    refine b_e 12 rfl (by kernel_rfl) ?_
    refine o_lit1 (R := RCon) (y := z163) Tryz.underlying49 Tryz.sizeOf194 Tryz.zeroValue194 rfl (by decide) (by decide) F rfl rfl (El.agg h171) (fun a w v173 rb174 h175 l F => ?_)
    have d177 := Dj.new h129.rd.m h175.ownR (Nat.le_refl _)
    have d178 := Dj.new (inm1 K12) h175.ownR (Nat.le_refl _)
    have d179 := Dj.new (inm1 K20) h175.ownR (Nat.le_refl _)
    have d180 := Dj.app' (Dj.new h129.memR h175.ownR (Nat.le_refl _)).symm (Dj.sub (Dj.sub (Dj.sub (Dj.sub (Dj.new A0.m h129.ownR (Nat.le_refl _)) s153) s157) s168) s172)
    have d181 := Dj.app' (Dj.symm d178) (Dj.sub (Dj.sub (Dj.sub (Dj.sub (dj1 A0.m CK12).symm s153) s157) s168) s172)
    have d182 := Dj.app' (Dj.symm d179) (Dj.sub (Dj.sub (Dj.sub (Dj.sub (dj1 A0.m CK20).symm s153) s157) s168) s172)
    replace h175 := h175.base hB.size
    replace hB := Below.through l hB
    replace h129 := h129.go l
    replace K12 := K12.thru l
    replace K20 := K20.thru l
    refine x_end ?_
    refine x_tn ?_
    refine ⟨.inl l, ?_⟩
    refine b_e 13 rfl (by kernel_rfl) ?_
    obtain ⟨z183, c184, hR⟩ := bnd_some hR
    refine o_append (sz := 2) (R := RCon) (z := (.agg #[.int .i64 0, (.slice none 0 0)])) (bytes := 32) Tryz.underlying49 (by kernel_rfl) rfl (by decide) (by decide) (by decide) F rfl rfl rfl h129 h175.src hB.size (Dj.symm d180.r) c184 (fun a w v185 rb186 h187 l keep F => ?_)
    have d189 := keep _ (inm1 K12) (Dj.symm (Dj.l d133))
    have d190 := keep _ (inm1 K20) (Dj.symm (Dj.l d134))
    replace hB := hB.o l h129.lo hB.size
    replace K12 := K12.only l (Dj.symm (Dj.l d133)).not
    replace K20 := K20.only l (Dj.symm (Dj.l d134)).not
    have d191 := Dj.app' (Dj.symm d189) (Dj.app' (Dj.r d133) (Dj.r d181))
    have d192 := Dj.app' (Dj.symm d190) (Dj.app' (Dj.r d134) (Dj.r d182))
    refine x_end ?_
    refine x_tn ?_
    refine ⟨.inr (by kernel_rfl), ?_⟩
    refine b_q 14 (by kernel_rfl) rfl (by kernel_rfl) (by kernel_rfl) (by kernel_rfl) (by kernel_rfl) ?_
    refine v_val F rfl (fun w l => r_bfield fa51_1 F rfl rfl) (fun a F => ?_)
    refine b_e 15 rfl (by kernel_rfl) ?_
    refine o_bstore Tryz.sizeOf49 F rfl rfl rfl K20 (h187.rd).r.one (by simp) rfl (fun w K20 l => ?_)
    replace hB := hB.o l (fun c hc => by rw [List.mem_singleton] at hc; rw [hc]; exact CK20) hB.size
    replace h187 := h187.goO l d192
    replace K12 := K12.only l (by simpa using nb21)
    refine x_end ?_
    refine x_tn ?_
    refine ⟨.inr (by kernel_rfl), ?_⟩
    refine b_end (by kernel_rfl) ?_
    refine x_bn ?_
    refine x_tn ?_
    refine x_reg ?_
    refine o_move F rfl rfl (fun a F => ?_)
    refine o_inc F rfl rfl rfl ink143 (fun a F => ?_)
    refine o_assign F rfl rfl (fun a F => ?_)
    refine x_end ?_
    refine x_tn ?_
    replace hR := l_go hR hn124
    exact ⟨_, Nat.lt_succ_self _, k143 + 1, rest144, z183, v185, rb186, (ib132 ++ b170), ⟨hd147.1, hd147.2.2⟩, rfl, hR, F.sub (sc rfl (sc rfl (sc rfl (sc rfl (sc rfl sn))))), hB, h187, K12, K20, d191, d192⟩
 ·
  intro a w ⟨s135, v138, rb139, ib140, ho123, F, hB, h137, K12, K20, d141, d142⟩
  subst ho123
  have hR := then_nx hk122
  refine x_tn ?_
  refine x_seq ?_
  refine x_reg ?_
  refine o_bloadA (cs := [.int .i64 x0.vars, v138]) Tryz.isAgg51 Tryz.sizeOf51 F rfl rfl K20 rfl (fun j hj => by match j, hj with | 0, _ => rfl | 1, _ => rfl) (fun a F => ?_)
  have h194 := RInstance.mk2 (w := w) i17 h137.rd
  refine o_bstoreA (vs := [.int .i64 x0.vars, v138]) Tryz.sizeOf51 F rfl rfl rfl K12 (oc rfl (oc (h137.rd).r.one on)) (Nat.le_of_ble_eq_true rfl) rfl (fun w K12 l => ?_)
  replace hB := hB.o l (fun c hc => by rw [List.mem_singleton] at hc; rw [hc]; exact CK12) hB.size
  replace h137 := h137.goO l d141
  refine x_end ?_
  refine x_tn ?_
  refine x_ret ?_
  refine x_res1 F rfl (rv_cA (arr := #[.int .i64 x0.vars, v138]) F Tryz.isAgg51 Tryz.sizeOf51 rfl K12) ?_
  obtain rfl := Option.some.inj hR
  exact ⟨_, rfl, hB, v138, rb139, ib140, rfl, i17, h137⟩

def spec_SmallestReason (N : Nat) (x0 : Template) (x1 : Instance) (x2 : Int) : Option ((List Int) × Int) :=
 bnd (spec_l08Budget (Template.mk x0.size x0.rels) (Instance.mk x1.vars x1.cons) x2) fun z31 =>
 if (z31 != 0) then
  some ([], z31)
 else
  bnd (spec_l05Full (Template.mk x0.size x0.rels) (Instance.mk x1.vars x1.cons)) fun z38 =>
  bnd (spec_l08Run N (Template.mk x0.size x0.rels) (Instance.mk x1.vars x1.cons) z38 x2) fun z54 =>
  if (z54.2.1 == 7) then
   some ([], z54.2.1)
  else
   if (z54.2.1 == 0) then
    some ([], 4)
   else
    bnd (spec_l03Count (x1.cons.length : Int)) fun z126 =>
    thn (σ := (List Int) × Int) (
     whl (σ := (List Int) × Int) (ρ := (List Int) × Int) (fun (s : (List Int) × Int) =>
       match s with
       | (s348, s353) =>
       if (decide (s353 < (s348.length : Int))) then
        bnd (sl s348 0 s353) fun z374 =>
        bnd (ck (s353 + 1)) fun z380 =>
        bnd (sl s348 z380 (s348.length : Int)) fun z382 =>
        bnd (ap ([]) z374) fun z401 =>
        bnd (ap z401 z382) fun z416 =>
        bnd (spec_l08Some (Instance.mk x1.vars x1.cons) z416) fun z430 =>
        bnd (spec_l05Full (Template.mk x0.size x0.rels) (Instance.mk z430.vars z430.cons)) fun z459 =>
        bnd (spec_l08Run N (Template.mk x0.size x0.rels) (Instance.mk z430.vars z430.cons) z459 x2) fun z484 =>
        if (z484.2.1 == 7) then
         some (.ret ([], z484.2.1))
        else
         if (z484.2.1 == 6) then
          some (.go (z416, s353))
         else
          some (.go (s348, z380))
       else
        some (.brk (s348, s353))) N (z126, 0)) fun (s359, s364) =>
    some (s359, 0)
set_option maxHeartbeats 1000000 in
theorem spec_SmallestReason_c {N : Nat} {x0 : Template} {x1 : Instance} {x2 : Int} (r : (List Int) × Int) (hR : spec_SmallestReason N x0 x1 x2 = some r) {v0 : Value} {b0 : List Nat} {v1 : Value} {b1 : List Nat} (w0 : World) (A0 : Rd (Agg 2 RTemplate) w0 v0 x0 b0) (A1 : Rd (Agg 2 RInstance) w0 v1 x1 b1) (hx2 : I64 x2) : Calls Tryz.prog 49 #[v0, v1, .int .i64 x2] w0 (Gives (fun v w' => ∃ (v1' : Value) (rb2' : List Nat), v = .tuple #[v1', .int .i64 r.2] ∧ Row 1 RInt 2 w0.heap.size w' v1' r.1 rb2' [] ∧ I64 r.2) w0) := by
 unfold spec_SmallestReason at hR
 refine x_enter (L := [(0, v0), (1, v1), (2, .int .i64 x2)]) Tryz.func49 rfl rfl rfl (sc rfl (sc rfl (sc rfl sn))) (fun a F => ?_)
 have hB := Below.refl w0.heap.size w0
 refine x_seq ?_
 refine x_reg ?_
 obtain ⟨v15, b16, e18, i14, h17, eb13⟩ := RTemplate.rd (A0.go hB)
 subst e18
 refine o_box F rfl rfl rfl (fun a w b11 K12 l BK12 F => ?_)
 have d19 := (dj1 h17.m BK12).symm
 have CK12 := Nat.le_trans hB.size BK12
 replace hB := Below.through l hB
 replace h17 := h17.go l
 obtain ⟨v24, b25, e27, i23, h26, eb22⟩ := RInstance.rd (A1.go hB)
 subst e27
 refine o_box F rfl rfl rfl (fun a w b20 K21 l BK21 F => ?_)
 have nb28 := Dj.bb K12 BK21
 have d29 := (dj1 h17.m BK21).symm
 have d30 := (dj1 h26.m BK21).symm
 have CK21 := Nat.le_trans hB.size BK21
 replace hB := Below.through l hB
 replace h17 := h17.go l
 replace h26 := h26.go l
 replace K12 := K12.thru l
 refine o_assign F rfl rfl (fun a F => ?_)
 refine o_assign F rfl rfl (fun a F => ?_)
 refine x_end ?_
 refine x_tn ?_
 refine x_seq ?_
 refine x_seq ?_
 refine x_reg ?_
 refine o_move F rfl rfl (fun a F => ?_)
 obtain ⟨z31, c32, hR⟩ := bnd_some hR
 refine o_saysI F rfl Tryz.call82 rfl (spec_l08Budget_c z31 c32 _ (RTemplate.blk K12 i14 h17) (RInstance.blk K21 i23 h26) hx2) (fun a w l iz31 F => ?_)
 replace hB := Below.through l hB
 replace h17 := h17.go l
 replace h26 := h26.go l
 replace K12 := K12.thru l
 replace K21 := K21.thru l
 refine o_assign F rfl rfl (fun a F => ?_)
 refine x_end ?_
 refine x_tn ?_
 refine x_seq ?_
 refine x_reg ?_
 refine o_move F rfl rfl (fun a F => ?_)
 refine o_neq F rfl rfl rfl (fun a F => ?_)
 refine x_end ?_
 refine x_tn ?_
 refine x_if F rfl (fun hb33 => ?_) (fun hb33 => ?_)
 ·
  replace hR := ifT hb33 hR
  refine x_seq ?_
  refine x_reg ?_
  refine o_lit0 (R := RInt) Tryz.underlying46 Tryz.sizeOf2 F rfl (fun a w v34 rb35 h36 l F => ?_)
  replace h36 := h36.base hB.size
  replace hB := Below.through l hB
  refine o_move F rfl rfl (fun a F => ?_)
  refine o_assign F rfl rfl (fun a F => ?_)
  refine o_assign F rfl rfl (fun a F => ?_)
  refine x_end ?_
  refine x_tn ?_
  refine x_ret ?_
  refine x_tr ?_
  refine x_res2 F rfl (rv_t F rfl) (rv_t F rfl) ?_
  obtain rfl := Option.some.inj hR
  exact ⟨_, rfl, hB, v34, rb35, rfl, h36, iz31⟩
 ·
  replace hR := ifF hb33 hR
  refine x_skip ?_
  refine x_tn ?_
  refine x_seq ?_
  refine x_reg ?_
  obtain ⟨z38, c39, hR⟩ := bnd_some hR
  refine o_gives F rfl Tryz.call84 rfl (spec_l05Full_c z38 c39 _ (RTemplate.blk K12 i14 h17) (RInstance.blk K21 i23 h26)) (fun a vv w l ⟨v40, rb41, ib42, hv45, h43, ow44⟩ F => ?_)
  subst vv
  have o46 := h43.own ow44
  have d47 := (Dj.new (inm1 K12) o46 (Nat.le_refl _)).symm
  have d48 := (Dj.new (inm1 K21) o46 (Nat.le_refl _)).symm
  have d50 := Dj.new h17.m h43.ownR (Nat.le_refl _)
  have d51 := Dj.new h26.m h43.ownR (Nat.le_refl _)
  have d52 := Dj.new (inm1 K12) h43.ownR (Nat.le_refl _)
  have d53 := Dj.new (inm1 K21) h43.ownR (Nat.le_refl _)
  replace h43 := h43.base hB.size
  replace ow44 := ow44.mono hB.size
  replace hB := Below.through l hB
  replace h17 := h17.go l
  replace h26 := h26.go l
  replace K12 := K12.thru l
  replace K21 := K21.thru l
  refine o_move F rfl rfl (fun a F => ?_)
  obtain ⟨z54, c55, hR⟩ := bnd_some hR
  have d84 : Dj b16 rb41 := d50
  have d85 : Dj b25 rb41 := d51
  have d86 : Dj [b11] rb41 := d52
  have d87 : Dj [b20] rb41 := d53
  refine o_givesX F rfl Tryz.call83 rfl (spec_l08Run_c z54 c55 _ (RTemplate.blk K12 i14 h17) (RInstance.blk K21 i23 h26) (h43.base (Nat.zero_le _)) hx2 (Dj.cons d52 d50) (Dj.cons d53 d51)) (fun a vv w l ⟨b56, v58, v59, v62, rb63, v67, rb68, ib76, hv83, K57, BK57, i60, i61, h65, fr66, h70, fr71, d72, d73, i74, dj78, d79, d80, d81, d82, h75, fi77⟩ F => ?_)
  subst vv
  replace h75 := Row.rebase0 h75 h43.lo
  have d88 := dj1 h43.memR BK57
  have nb89 := Dj.bb K12 BK57
  have nb90 := Dj.bb K21 BK57
  have d91 := (dj1 h17.m BK57).symm
  have d92 := (dj1 h26.m BK57).symm
  have d93 := (dj1 h43.rd.m BK57).symm
  have CK57 := Nat.le_trans hB.size BK57
  have d94 := Dj.prov d47 (inm1 K12) fi77
  have d95 := Dj.prov d48 (inm1 K21) fi77
  have d96 := Dj.frs h17.m d84 fr66
  have d97 := Dj.frs h26.m d85 fr66
  have d98 := Dj.frs (inm1 K12) d86 fr66
  have d99 := Dj.frs (inm1 K21) d87 fr66
  replace h65 := Row.rebase h65 (Frs.trans0 fr66 h43.lo hB.size)
  have d100 := Dj.frs h17.m d84 fr71
  have d101 := Dj.frs h26.m d85 fr71
  have d102 := Dj.frs (inm1 K12) d86 fr71
  have d103 := Dj.frs (inm1 K21) d87 fr71
  replace h70 := Row.rebase h70 (Frs.trans0 fr71 h43.lo hB.size)
  replace hB := hB.o l h43.lo hB.size
  replace h17 := h17.goO l d84
  replace h26 := h26.goO l d85
  replace K12 := K12.only l (Dj.not d86)
  replace K21 := K21.only l (Dj.not d87)
  refine o_move F rfl rfl (fun a F => ?_)
  refine o_extract F rfl rfl rfl (fun a F => ?_)
  refine o_extract F rfl rfl rfl (fun a F => ?_)
  refine o_assign F rfl rfl (fun a F => ?_)
  refine o_assign F rfl rfl (fun a F => ?_)
  refine x_end ?_
  refine x_tn ?_
  refine x_seq ?_
  refine x_seq ?_
  refine x_reg ?_
  refine o_move F rfl rfl (fun a F => ?_)
  refine o_eql F rfl rfl rfl (fun a F => ?_)
  refine x_end ?_
  refine x_tn ?_
  refine x_if F rfl (fun hb107 => ?_) (fun hb107 => ?_)
  ·
   replace hR := ifT hb107 hR
   refine x_seq ?_
   refine x_reg ?_
   refine o_lit0 (R := RInt) Tryz.underlying46 Tryz.sizeOf2 F rfl (fun a w v108 rb109 h110 l F => ?_)
   have d112 := Dj.app' (Dj.new h75.memR h110.ownR (Nat.le_refl _)).symm (Dj.nil' _)
   have d113 := Dj.app' (Dj.new h75.mem h110.ownR (Nat.le_refl _)).symm (Dj.nil' _)
   have d114 := Dj.app' (Dj.new h65.memR h110.ownR (Nat.le_refl _)).symm (Dj.nil' _)
   have d115 := Dj.app' (Dj.new h70.memR h110.ownR (Nat.le_refl _)).symm (Dj.nil' _)
   replace h110 := h110.base hB.size
   replace hB := Below.through l hB
   refine o_move F rfl rfl (fun a F => ?_)
   refine o_assign F rfl rfl (fun a F => ?_)
   refine o_assign F rfl rfl (fun a F => ?_)
   refine x_end ?_
   refine x_tn ?_
   refine x_ret ?_
   refine x_tr ?_
   refine x_res2 F rfl (rv_t F rfl) (rv_t F rfl) ?_
   obtain rfl := Option.some.inj hR
   exact ⟨_, rfl, hB, v108, rb109, rfl, h110, i74⟩
  ·
   replace hR := ifF hb107 hR
   refine x_skip ?_
   refine x_tn ?_
   refine x_seq ?_
   refine x_seq ?_
   refine x_reg ?_
   refine o_move F rfl rfl (fun a F => ?_)
   refine o_eql F rfl rfl rfl (fun a F => ?_)
   refine x_end ?_
   refine x_tn ?_
   refine x_if F rfl (fun hb116 => ?_) (fun hb116 => ?_)
   ·
    replace hR := ifT hb116 hR
    refine x_seq ?_
    refine x_reg ?_
    refine o_lit0 (R := RInt) Tryz.underlying46 Tryz.sizeOf2 F rfl (fun a w v117 rb118 h119 l F => ?_)
    have d121 := Dj.app' (Dj.new h75.memR h119.ownR (Nat.le_refl _)).symm (Dj.nil' _)
    have d122 := Dj.app' (Dj.new h75.mem h119.ownR (Nat.le_refl _)).symm (Dj.nil' _)
    have d123 := Dj.app' (Dj.new h65.memR h119.ownR (Nat.le_refl _)).symm (Dj.nil' _)
    have d124 := Dj.app' (Dj.new h70.memR h119.ownR (Nat.le_refl _)).symm (Dj.nil' _)
    replace h119 := h119.base hB.size
    replace hB := Below.through l hB
    refine o_assign F rfl rfl (fun a F => ?_)
    refine o_assign F rfl rfl (fun a F => ?_)
    refine x_end ?_
    refine x_tn ?_
    refine x_ret ?_
    refine x_tr ?_
    refine x_res2 F rfl (rv_t F rfl) (rv_t F rfl) ?_
    obtain rfl := Option.some.inj hR
    exact ⟨_, rfl, hB, v117, rb118, rfl, h119, (show I64 (4) by decide)⟩
   ·
    replace hR := ifF hb116 hR
    refine x_skip ?_
    refine x_tn ?_
    refine x_seq ?_
    refine x_reg ?_
    refine o_bfield fa51_1 F rfl rfl rfl (fun a F => ?_)
    refine o_bload Tryz.isAgg49 F rfl rfl K21 rfl (fun a F => ?_)
    refine o_len Tryz.underlying49 F rfl rfl h26 (fun a F => ?_)
    have i125 := (h26).r.len64
    obtain ⟨z126, c127, hR⟩ := bnd_some hR
    refine o_gives F rfl Tryz.call111 rfl (spec_l03Count_c z126 c127 _ i125) (fun a vv w l ⟨v128, rb129, hv132, h131⟩ F => ?_)
    subst vv
    have d134 := Dj.new h17.m h131.ownR (Nat.le_refl _)
    have d135 := Dj.new h26.m h131.ownR (Nat.le_refl _)
    have d136 := Dj.new (inm1 K12) h131.ownR (Nat.le_refl _)
    have d137 := Dj.new (inm1 K21) h131.ownR (Nat.le_refl _)
    have d138 := Dj.app' (Dj.new h75.memR h131.ownR (Nat.le_refl _)).symm (Dj.nil' _)
    have d139 := Dj.app' (Dj.new h75.mem h131.ownR (Nat.le_refl _)).symm (Dj.nil' _)
    have d140 := Dj.app' (Dj.new h65.memR h131.ownR (Nat.le_refl _)).symm (Dj.nil' _)
    have d141 := Dj.app' (Dj.new h70.memR h131.ownR (Nat.le_refl _)).symm (Dj.nil' _)
    replace h131 := h131.base hB.size
    replace hB := Below.through l hB
    replace h17 := h17.go l
    replace h26 := h26.go l
    replace K12 := K12.thru l
    replace K21 := K21.thru l
    refine o_assign F rfl rfl (fun a F => ?_)
    refine x_end ?_
    refine x_tn ?_
    refine x_seq ?_
    refine x_seq ?_
    refine x_reg ?_
    refine o_assign F rfl rfl (fun a F => ?_)
    refine x_end ?_
    refine x_tn ?_
    obtain ⟨o342, hR, hk343⟩ := thn_some hR
    refine x_cutQ (fun a w => ∃ (s359 : List Int) (v362 : Value) (rb363 : List Nat) (s364 : Int), o342 = .nx (s359, s364) ∧ Sk a 72 [(11, v362)] ∧ Below w0.heap.size w0 w ∧ Row 1 RInt 2 w0.heap.size w v362 s359 rb363 ([]) ∧ I64 s364) ?_ ?_
    ·
     refine x_blk ?_
     obtain ⟨fl346, hf347, hR⟩ := whl_gen hR
     refine x_loop (fun g a w => ∃ (s348 : List Int) (v351 : Value) (rb352 : List Nat) (s353 : Int), whl fl346 g (s348, s353) = some o342 ∧ Sk a 72 [(2, .int .i64 x2), (3, .pointer (some ⟨b11, 0, none⟩)), (4, .pointer (some ⟨b20, 0, none⟩)), (11, v351), (12, .int .i64 s353)] ∧ Below w0.heap.size w0 w ∧ Row 1 RInt 2 w0.heap.size w v351 s348 rb352 ([]) ∧ I64 s353 ∧ Rd (Sl 2 RRel) w v15 x0.rels b16 ∧ Rd (Sl 2 RCon) w v24 x1.cons b25 ∧ Blk w b11 #[.int .i64 x0.size, v15] 33 ∧ Blk w b20 #[.int .i64 x1.vars, v24] 51 ∧ Dj b16 rb352 ∧ Dj b25 rb352 ∧ Dj (rb352 ++ []) [b11] ∧ Dj (rb352 ++ []) [b20]) N ?_ ?_
     ·
      exact ⟨z126, v128, rb129, 0, hR, F.sub (sc rfl (sc rfl (sc rfl (sc rfl (sc rfl sn))))), hB, h131, (show I64 (0) by decide), h17, h26, K12, K21, d134, d135, (Dj.app' (Dj.symm d136) (Dj.nil' _)), (Dj.app' (Dj.symm d137) (Dj.nil' _))⟩
     ·
      intro g369 a w ⟨s348, v351, rb352, s353, hR, F, hB, h350, i354, h17, h26, K12, K21, d355, d356, d357, d358⟩
      obtain ⟨ck366, rest367, hg371, hR, hn345⟩ := whl_round hR
      rw [hf347] at hR
      refine x_seq ?_
      refine x_seq ?_
      refine x_reg ?_
      refine o_move F rfl rfl (fun a F => ?_)
      refine o_move F rfl rfl (fun a F => ?_)
      refine o_len Tryz.underlying46 F rfl rfl h350.rd (fun a F => ?_)
      have i372 := (h350.rd).r.len64
      refine o_lss F rfl rfl rfl (fun a F => ?_)
      refine x_end ?_
      refine x_tn ?_
      refine x_if F rfl (fun hb373 => ?_) (fun hb373 => ?_)
      ·
       replace hR := ifT hb373 hR
       refine x_skip ?_
       refine x_tn ?_
       refine x_blk ?_
       refine x_seq ?_
       refine x_drawnB (by kernel_rfl) (fun w l hsz => ?_)
       replace hB := Below.through l hB
       replace h17 := h17.go l
       replace h26 := h26.go l
       replace h350 := h350.go l
       replace K12 := K12.thru l
       replace K21 := K21.thru l
       refine b_q0 1 rfl (by kernel_rfl) (by kernel_rfl) (by kernel_rfl) ?_
       refine v_val F rfl (fun w l => r_move F rfl) (fun a F => ?_)
       refine b_q0 2 rfl (by kernel_rfl) (by kernel_rfl) (by kernel_rfl) ?_
       refine v_val F rfl (fun w l => r_move F rfl) (fun a F => ?_)
       refine b_q 3 (by kernel_rfl) rfl (by kernel_rfl) (by kernel_rfl) (by kernel_rfl) (by kernel_rfl) ?_
       obtain ⟨z374, c375, hR⟩ := bnd_some hR
       refine v_sliceh Tryz.underlying46 Tryz.sizeOf2 F rfl rfl rfl h350.rd c375 (fun a v376 b377 h378 s379 F => ?_)
       refine b_q0 5 rfl (by kernel_rfl) (by kernel_rfl) (by kernel_rfl) ?_
       refine v_val F rfl (fun w l => r_move F rfl) (fun a F => ?_)
       refine b_q0 6 rfl (by kernel_rfl) (by kernel_rfl) (by kernel_rfl) ?_
       refine v_val F rfl (fun w l => r_move F rfl) (fun a F => ?_)
       refine b_q 7 (by kernel_rfl) rfl (by kernel_rfl) (by kernel_rfl) (by kernel_rfl) (by kernel_rfl) ?_
       obtain ⟨z380, c381, hR⟩ := bnd_some hR
       refine v_val F rfl (fun w l => r_add F rfl rfl c381) (fun a F => ?_)
       refine b_q 8 (by kernel_rfl) rfl (by kernel_rfl) (by kernel_rfl) (by kernel_rfl) (by kernel_rfl) ?_
       obtain ⟨z382, c383, hR⟩ := bnd_some hR
       refine v_slicel Tryz.underlying46 Tryz.sizeOf2 F rfl rfl rfl h350.rd c383 (fun a v384 b385 h386 s387 F => ?_)
       refine b_e 0 rfl (by kernel_rfl) ?_
       refine o_lit0 (R := RInt) Tryz.underlying46 Tryz.sizeOf2 F rfl (fun a w v388 rb389 h390 l F => ?_)
       have d392 := Dj.new h17.m h390.ownR (Nat.le_refl _)
       have d393 := Dj.new h26.m h390.ownR (Nat.le_refl _)
       have d394 := Dj.new h378.m h390.ownR (Nat.le_refl _)
       have d395 := Dj.new h386.m h390.ownR (Nat.le_refl _)
       have d396 := Dj.new h350.rd.m h390.ownR (Nat.le_refl _)
       have d397 := Dj.new (inm1 K12) h390.ownR (Nat.le_refl _)
       have d398 := Dj.new (inm1 K21) h390.ownR (Nat.le_refl _)
       have d399 := Dj.app' (Dj.new h350.memR h390.ownR (Nat.le_refl _)).symm (Dj.nil' _)
       have lo400 := fun c hc => Nat.le_trans hsz (h390.lo c hc)
       replace h390 := h390.base hB.size
       replace hB := Below.through l hB
       replace h17 := h17.go l
       replace h26 := h26.go l
       replace h350 := h350.go l
       replace h378 := h378.go l
       replace h386 := h386.go l
       replace K12 := K12.thru l
       replace K21 := K21.thru l
       refine x_end ?_
       refine x_tn ?_
       refine ⟨.inl (l.mono hsz), ?_⟩
       replace hsz := Nat.le_trans hsz l.size
       refine b_e 4 rfl (by kernel_rfl) ?_
       obtain ⟨z401, c402, hR⟩ := bnd_some hR
       obtain ⟨ib406, sr407, sn408⟩ := Rd.src (by decide) h378
       refine o_append (sz := 1) (R := RInt) (z := (.int .i64 0)) (bytes := 8) Tryz.underlying46 (by kernel_rfl) rfl (by decide) (by decide) (by decide) F rfl rfl rfl h390 sr407 hB.size (Dj.symm (Dj.sub d394 sn408)) c402 (fun a w v403 rb404 h405 l keep F => ?_)
       obtain rfl : ib406 = [] := src_flat sr407 (fun w f x bs h => by first | exact h.2.2 | exact h.2 | exact h.2.2.2.2 | exact h.2.2.2.2.2.2 | exact h.2.2.2.2.2.2.2.2)
       replace h405 := row_nil2 h405
       have d410 := keep _ h17.m d392
       have d411 := keep _ h26.m d393
       have d412 := keep _ h386.m d395
       have d413 := keep _ h350.rd.m d396
       have d414 := keep _ (inm1 K12) d397
       have d415 := keep _ (inm1 K21) d398
       replace hB := hB.o l h390.lo hB.size
       replace h17 := h17.goO l d392
       replace h26 := h26.goO l d393
       replace h350 := h350.goO l d396
       replace h386 := h386.goO l d395
       replace K12 := K12.only l d397.not
       replace K21 := K21.only l d398.not
       refine x_end ?_
       refine x_tn ?_
       refine ⟨.inl ((Below.refl _ _).o l lo400 hsz), ?_⟩
       replace hsz := Nat.le_trans hsz l.size
       refine b_e 9 rfl (by kernel_rfl) ?_
       obtain ⟨z416, c417, hR⟩ := bnd_some hR
       obtain ⟨ib421, sr422, sn423⟩ := Rd.src (by decide) h386
       refine o_append (sz := 1) (R := RInt) (z := (.int .i64 0)) (bytes := 8) Tryz.underlying46 (by kernel_rfl) rfl (by decide) (by decide) (by decide) F rfl rfl rfl h405 sr422 hB.size (Dj.symm (Dj.sub d412 sn423)) c417 (fun a w v418 rb419 h420 l keep F => ?_)
       obtain rfl : ib421 = [] := src_flat sr422 (fun w f x bs h => by first | exact h.2.2 | exact h.2 | exact h.2.2.2.2 | exact h.2.2.2.2.2.2 | exact h.2.2.2.2.2.2.2.2)
       replace h420 := row_nil2 h420
       have d425 := keep _ h17.m d410
       have d426 := keep _ h26.m d411
       have d427 := keep _ h350.rd.m d413
       have d428 := keep _ (inm1 K12) d414
       have d429 := keep _ (inm1 K21) d415
       replace hB := hB.o l h405.lo hB.size
       replace h17 := h17.goO l d410
       replace h26 := h26.goO l d411
       replace h350 := h350.goO l d413
       replace K12 := K12.only l d414.not
       replace K21 := K21.only l d415.not
       refine x_end ?_
       refine x_tn ?_
       refine ⟨.inr (by kernel_rfl), ?_⟩
       replace hsz := Nat.le_trans hsz l.size
       refine b_q0 10 rfl (by kernel_rfl) (by kernel_rfl) (by kernel_rfl) ?_
       refine v_val F rfl (fun w l => r_assign F rfl) (fun a F => ?_)
       refine b_end (by kernel_rfl) ?_
       refine x_tn ?_
       refine x_seq ?_
       refine x_reg ?_
       refine o_move F rfl rfl (fun a F => ?_)
       obtain ⟨z430, c431, hR⟩ := bnd_some hR
       refine o_gives F rfl Tryz.call112 rfl (spec_l08Some_c z430 c431 _ (RInstance.blk K21 i23 h26) h420.rd) (fun a vv w l ⟨v433, rb434, ib435, hv437, i432, h436⟩ F => ?_)
       subst vv
       have d439 := Dj.new h17.m h436.ownR (Nat.le_refl _)
       have d440 := Dj.new h26.m h436.ownR (Nat.le_refl _)
       have d441 := Dj.new h350.rd.m h436.ownR (Nat.le_refl _)
       have d442 := Dj.new h420.rd.m h436.ownR (Nat.le_refl _)
       have d443 := Dj.new (inm1 K12) h436.ownR (Nat.le_refl _)
       have d444 := Dj.new (inm1 K21) h436.ownR (Nat.le_refl _)
       replace h436 := h436.base hB.size
       replace hB := Below.through l hB
       replace h17 := h17.go l
       replace h26 := h26.go l
       replace h350 := h350.go l
       replace h420 := h420.go l
       replace K12 := K12.thru l
       replace K21 := K21.thru l
       have h445 := RInstance.mk2 (w := w) i432 h436.rd
       refine o_alloc Tryz.zeroValue51 F rfl rfl (fun a w b446 K447 l BK447 F => ?_)
       have d448 := dj1 h350.memR BK447
       have d449 := dj1 h420.memR BK447
       have d450 := dj1 h436.memR BK447
       have nb451 := Dj.bb K12 BK447
       have nb452 := Dj.bb K21 BK447
       have d453 := (dj1 h17.m BK447).symm
       have d454 := (dj1 h26.m BK447).symm
       have d455 := (dj1 h445.m BK447).symm
       have d456 := (dj1 h350.rd.m BK447).symm
       have d457 := (dj1 h420.rd.m BK447).symm
       have d458 := (dj1 h436.rd.m BK447).symm
       have CK447 := Nat.le_trans hB.size BK447
       replace hB := Below.through l hB
       replace h17 := h17.go l
       replace h26 := h26.go l
       replace h350 := h350.go l
       replace h420 := h420.go l
       replace h436 := h436.go l
       replace h445 := h445.go l
       replace K12 := K12.thru l
       replace K21 := K21.thru l
       refine o_bstoreA (vs := [.int .i64 z430.vars, v433]) Tryz.sizeOf51 F rfl rfl rfl K447 (oc rfl (oc (h436.rd).r.one on)) (Nat.le_of_ble_eq_true rfl) rfl (fun w K447 l => ?_)
       replace hB := hB.o l (fun c hc => by rw [List.mem_singleton] at hc; rw [hc]; exact CK447) hB.size
       replace h17 := h17.goO l d453
       replace h26 := h26.goO l d454
       replace h350 := h350.goO l d456
       replace h420 := h420.goO l d457
       replace h436 := h436.goO l d458
       replace K12 := K12.only l (by simpa using nb451)
       replace K21 := K21.only l (by simpa using nb452)
       refine x_end ?_
       refine x_tn ?_
       refine x_seq ?_
       refine x_reg ?_
       obtain ⟨z459, c460, hR⟩ := bnd_some hR
       refine o_gives F rfl Tryz.call84 rfl (spec_l05Full_c z459 c460 _ (RTemplate.blk K12 i14 h17) (RInstance.blk K447 i432 h436.rd)) (fun a vv w l ⟨v461, rb462, ib463, hv466, h464, ow465⟩ F => ?_)
       subst vv
       have o467 := h464.own ow465
       have d468 := (Dj.new (inm1 K12) o467 (Nat.le_refl _)).symm
       have d469 := (Dj.new (inm1 K21) o467 (Nat.le_refl _)).symm
       have d470 := (Dj.new (inm1 K447) o467 (Nat.le_refl _)).symm
       have d471 := (Dj.new h350.memR o467 (Nat.le_refl _)).symm
       have d472 := (Dj.new h420.memR o467 (Nat.le_refl _)).symm
       have d473 := (Dj.new h436.memR o467 (Nat.le_refl _)).symm
       have d474 := (Dj.new h436.mem o467 (Nat.le_refl _)).symm
       have d476 := Dj.new h17.m h464.ownR (Nat.le_refl _)
       have d477 := Dj.new h26.m h464.ownR (Nat.le_refl _)
       have d478 := Dj.new h350.rd.m h464.ownR (Nat.le_refl _)
       have d479 := Dj.new h420.rd.m h464.ownR (Nat.le_refl _)
       have d480 := Dj.new h436.rd.m h464.ownR (Nat.le_refl _)
       have d481 := Dj.new (inm1 K12) h464.ownR (Nat.le_refl _)
       have d482 := Dj.new (inm1 K21) h464.ownR (Nat.le_refl _)
       have d483 := Dj.new (inm1 K447) h464.ownR (Nat.le_refl _)
       replace h464 := h464.base hB.size
       replace ow465 := ow465.mono hB.size
       replace hB := Below.through l hB
       replace h17 := h17.go l
       replace h26 := h26.go l
       replace h350 := h350.go l
       replace h420 := h420.go l
       replace h436 := h436.go l
       replace K12 := K12.thru l
       replace K21 := K21.thru l
       replace K447 := K447.thru l
       refine o_move F rfl rfl (fun a F => ?_)
       obtain ⟨z484, c485, hR⟩ := bnd_some hR
       have d514 : Dj b16 rb462 := d476
       have d515 : Dj b25 rb462 := d477
       have d516 : Dj (rb352 ++ []) rb462 := d478
       have d517 : Dj (rb419 ++ []) rb462 := d479
       have d518 : Dj [b11] rb462 := d481
       have d519 : Dj [b20] rb462 := d482
       refine o_givesX F rfl Tryz.call83 rfl (spec_l08Run_c z484 c485 _ (RTemplate.blk K12 i14 h17) (RInstance.blk K447 i432 h436.rd) (h464.base (Nat.zero_le _)) hx2 (Dj.cons d481 d476) (Dj.cons d483 d480)) (fun a vv w l ⟨b486, v488, v489, v492, rb493, v497, rb498, ib506, hv513, K487, BK487, i490, i491, h495, fr496, h500, fr501, d502, d503, i504, dj508, d509, d510, d511, d512, h505, fi507⟩ F => ?_)
       subst vv
       replace h505 := Row.rebase0 h505 h464.lo
       have d520 := dj1 h350.memR BK487
       have d521 := dj1 h420.memR BK487
       have d522 := dj1 h464.memR BK487
       have nb523 := Dj.bb K12 BK487
       have nb524 := Dj.bb K21 BK487
       have d525 := (dj1 h17.m BK487).symm
       have d526 := (dj1 h26.m BK487).symm
       have d527 := (dj1 h350.rd.m BK487).symm
       have d528 := (dj1 h420.rd.m BK487).symm
       have d529 := (dj1 h464.rd.m BK487).symm
       have CK487 := Nat.le_trans hB.size BK487
       have d530 := Dj.prov d471 h350.memR fi507
       have d531 := Dj.prov d472 h420.memR fi507
       have d532 := Dj.prov d468 (inm1 K12) fi507
       have d533 := Dj.prov d469 (inm1 K21) fi507
       have d534 := Dj.frs h17.m d514 fr496
       have d535 := Dj.frs h26.m d515 fr496
       have d536 := Dj.frs h350.rd.m d516 fr496
       have d537 := Dj.frs h420.rd.m d517 fr496
       have d538 := Dj.frs (inm1 K12) d518 fr496
       have d539 := Dj.frs (inm1 K21) d519 fr496
       replace h495 := Row.rebase h495 (Frs.trans0 fr496 h464.lo hB.size)
       have d540 := Dj.frs h17.m d514 fr501
       have d541 := Dj.frs h26.m d515 fr501
       have d542 := Dj.frs h350.rd.m d516 fr501
       have d543 := Dj.frs h420.rd.m d517 fr501
       have d544 := Dj.frs (inm1 K12) d518 fr501
       have d545 := Dj.frs (inm1 K21) d519 fr501
       replace h500 := Row.rebase h500 (Frs.trans0 fr501 h464.lo hB.size)
       replace hB := hB.o l h464.lo hB.size
       replace h17 := h17.goO l d514
       replace h26 := h26.goO l d515
       replace h350 := h350.goO l d516
       replace h420 := h420.goO l d517
       replace K12 := K12.only l (Dj.not d518)
       replace K21 := K21.only l (Dj.not d519)
       refine o_move F rfl rfl (fun a F => ?_)
       refine o_extract F rfl rfl rfl (fun a F => ?_)
       refine o_extract F rfl rfl rfl (fun a F => ?_)
       refine o_assign F rfl rfl (fun a F => ?_)
       refine o_assign F rfl rfl (fun a F => ?_)
       refine x_end ?_
       refine x_tn ?_
       refine x_seq ?_
       refine x_seq ?_
       refine x_reg ?_
       refine o_move F rfl rfl (fun a F => ?_)
       refine o_eql F rfl rfl rfl (fun a F => ?_)
       refine x_end ?_
       refine x_tn ?_
       refine x_if F rfl (fun hb549 => ?_) (fun hb549 => ?_)
       ·
        replace hR := ifT hb549 hR
        refine x_seq ?_
        refine x_reg ?_
        refine o_lit0 (R := RInt) Tryz.underlying46 Tryz.sizeOf2 F rfl (fun a w v550 rb551 h552 l F => ?_)
        have d554 := Dj.app' (Dj.new h350.memR h552.ownR (Nat.le_refl _)).symm (Dj.nil' _)
        have d555 := Dj.app' (Dj.new h420.memR h552.ownR (Nat.le_refl _)).symm (Dj.nil' _)
        have d556 := Dj.app' (Dj.new h505.memR h552.ownR (Nat.le_refl _)).symm (Dj.nil' _)
        have d557 := Dj.app' (Dj.new h505.mem h552.ownR (Nat.le_refl _)).symm (Dj.nil' _)
        have d558 := Dj.app' (Dj.new h495.memR h552.ownR (Nat.le_refl _)).symm (Dj.nil' _)
        have d559 := Dj.app' (Dj.new h500.memR h552.ownR (Nat.le_refl _)).symm (Dj.nil' _)
        replace h552 := h552.base hB.size
        replace hB := Below.through l hB
        refine o_move F rfl rfl (fun a F => ?_)
        refine o_assign F rfl rfl (fun a F => ?_)
        refine o_assign F rfl rfl (fun a F => ?_)
        refine x_end ?_
        refine x_tn ?_
        refine x_ret ?_
        refine x_tr ?_
        refine x_br ?_
        refine x_tr ?_
        replace hR := l_ret hR hn345
        refine x_br ?_
        refine x_tr ?_
        replace hR := j_ret hR hk343
        refine x_tr ?_
        refine x_res2 F rfl (rv_t F rfl) (rv_t F rfl) ?_
        obtain rfl := Option.some.inj hR
        exact ⟨_, rfl, hB, v550, rb551, rfl, h552, i504⟩
       ·
        replace hR := ifF hb549 hR
        refine x_skip ?_
        refine x_tn ?_
        refine x_seq ?_
        refine x_reg ?_
        refine o_move F rfl rfl (fun a F => ?_)
        refine o_eql F rfl rfl rfl (fun a F => ?_)
        refine x_end ?_
        refine x_tn ?_
        refine x_if F rfl (fun hb560 => ?_) (fun hb560 => ?_)
        ·
         replace hR := ifT hb560 hR
         refine x_reg ?_
         refine o_move F rfl rfl (fun a F => ?_)
         refine o_assign F rfl rfl (fun a F => ?_)
         refine x_end ?_
         refine x_bn ?_
         refine x_tn ?_
         replace hR := l_go hR hn345
         exact ⟨rest367, (by omega), z416, v418, rb419, s353, hR, F.sub (sc rfl (sc rfl (sc rfl (sc rfl (sc rfl sn))))), hB, h420, i354, h17, h26, K12, K21, d425, d426, (Dj.app' (Dj.symm d428) (Dj.nil' _)), (Dj.app' (Dj.symm d429) (Dj.nil' _))⟩
        ·
         replace hR := ifF hb560 hR
         refine x_reg ?_
         refine o_move F rfl rfl (fun a F => ?_)
         refine o_add F rfl rfl rfl c381 (fun a F => ?_)
         refine o_assign F rfl rfl (fun a F => ?_)
         refine x_end ?_
         refine x_bn ?_
         refine x_tn ?_
         replace hR := l_go hR hn345
         exact ⟨rest367, (by omega), s348, v351, rb352, z380, hR, F.sub (sc rfl (sc rfl (sc rfl (sc rfl (sc rfl sn))))), hB, h350, (ck64 c381), h17, h26, K12, K21, d355, d356, d357, d358⟩
      ·
       replace hR := ifF hb373 hR
       refine x_exit ?_
       refine x_te ?_
       refine x_te ?_
       replace hR := l_brk hR hn345
       refine x_be ?_
       refine x_tn ?_
       exact ⟨s348, v351, rb352, s353, (Option.some.inj hR).symm, F.sub (sc rfl sn), hB, h350, i354⟩
    ·
     intro a w ⟨s359, v362, rb363, s364, ho344, F, hB, h361, i365⟩
     subst ho344
     have hR := then_nx hk343
     refine x_tn ?_
     refine x_seq ?_
     refine x_reg ?_
     refine o_move F rfl rfl (fun a F => ?_)
     refine o_assign F rfl rfl (fun a F => ?_)
     refine o_assign F rfl rfl (fun a F => ?_)
     refine x_end ?_
     refine x_tn ?_
     refine x_ret ?_
     refine x_res2 F rfl (rv_t F rfl) (rv_t F rfl) ?_
     obtain rfl := Option.some.inj hR
     exact ⟨_, rfl, hB, v362, rb363, rfl, h361, (show I64 (0) by decide)⟩

def impl_ownInstance (x0 : Instance) : Option Instance :=
 thn (σ := (List Con)) (
  forL (σ := (List Con)) (ρ := Instance) (fun (k187 : Nat) (x189 : Con) (s168 : (List Con)) =>
   bnd (slices_Clone_s_int64_int64 x189.scope) fun z216 =>
   bnd (ap s168 ([(Con.mk x189.rel z216)])) fun z244 =>
   some (.go z244)) x0.cons 0 []) fun s178 =>
 some ((Instance.mk x0.vars s178))
set_option maxHeartbeats 1000000 in
theorem impl_ownInstance_c {x0 : Instance} (r : Instance) (hR : impl_ownInstance x0 = some r) {v0 : Value} {b0 : List Nat} (w0 : World) (A0 : Rd (Agg 2 RInstance) w0 v0 x0 b0) : Calls Tryz.prog 134 #[v0] w0 (Gives (fun v w' => ∃ (v1' : Value) (rb2' : List Nat) (ib3' : List Nat), v = .agg #[.int .i64 r.vars, v1'] ∧ I64 r.vars ∧ Row 2 RCon 194 w0.heap.size w' v1' r.cons rb2' ib3' ∧ Own w0.heap.size ib3' w') w0) := by
 unfold impl_ownInstance at hR
 refine x_enter (L := [(0, v0)]) Tryz.func134 rfl rfl rfl (sc rfl sn) (fun a F => ?_)
 have hB := Below.refl w0.heap.size w0
 refine x_seq ?_
 refine x_reg ?_
 obtain ⟨v15, b16, e18, i14, h17, eb13⟩ := RInstance.rd (A0.go hB)
 subst e18
 refine o_box F rfl rfl rfl (fun a w b11 K12 l BK12 F => ?_)
 have d19 := (dj1 h17.m BK12).symm
 have CK12 := Nat.le_trans hB.size BK12
 replace hB := Below.through l hB
 replace h17 := h17.go l
 refine o_alloc Tryz.zeroValue51 F rfl rfl (fun a w b20 K21 l BK21 F => ?_)
 have nb22 := Dj.bb K12 BK21
 have d23 := (dj1 h17.m BK21).symm
 have CK21 := Nat.le_trans hB.size BK21
 replace hB := Below.through l hB
 replace h17 := h17.go l
 replace K12 := K12.thru l
 refine x_end ?_
 refine x_tn ?_
 refine x_seq ?_
 refine x_reg ?_
 refine o_bfield fa51_0 F rfl rfl rfl (fun a F => ?_)
 refine o_bload Tryz.isAgg2 F rfl rfl K12 rfl (fun a F => ?_)
 refine o_build Tryz.underlying51 Tryz.zeroValue51 (fun w => by simp [Tryz.sizeOf2, Tryz.sizeOf49]; rfl) F rfl rfl rfl rfl rfl (oc rfl on) rfl rfl (fun a F => ?_)
 have h24 := RInstance.mk2 (w := w) i14 (Rd.nil 2 RCon _)
 refine o_alloc Tryz.zeroValue51 F rfl rfl (fun a w b25 K26 l BK26 F => ?_)
 have nb27 := Dj.bb K12 BK26
 have nb28 := Dj.bb K21 BK26
 have d29 := (dj1 h17.m BK26).symm
 have d30 := (dj1 h24.m BK26).symm
 have CK26 := Nat.le_trans hB.size BK26
 replace hB := Below.through l hB
 replace h17 := h17.go l
 replace h24 := h24.go l
 replace K12 := K12.thru l
 replace K21 := K21.thru l
 refine o_bstoreA (vs := [.int .i64 x0.vars, (.slice none 0 0)]) Tryz.sizeOf51 F rfl rfl rfl K26 (oc rfl (oc rfl on)) (Nat.le_of_ble_eq_true rfl) rfl (fun w K26 l => ?_)
 replace hB := hB.o l (fun c hc => by rw [List.mem_singleton] at hc; rw [hc]; exact CK26) hB.size
 replace h17 := h17.goO l d29
 replace K12 := K12.only l (by simpa using nb27)
 replace K21 := K21.only l (by simpa using nb28)
 refine x_end ?_
 refine x_tn ?_
 refine x_seq ?_
 refine x_seq ?_
 refine x_reg ?_
 refine o_bfield fa51_1 F rfl rfl rfl (fun a F => ?_)
 refine o_bload Tryz.isAgg49 F rfl rfl K12 rfl (fun a F => ?_)
 refine o_len Tryz.underlying49 F rfl rfl h17 (fun a F => ?_)
 have i31 := (h17).r.len64
 refine o_move F rfl rfl (fun a F => ?_)
 refine x_end ?_
 refine x_tn ?_
 obtain ⟨o162, hR, hk163⟩ := thn_some hR
 refine x_cutQ (fun a w => ∃ (s178 : List Con) (v181 : Value) (rb182 : List Nat) (ib183 : List Nat), o162 = .nx s178 ∧ Sk a 29 [(2, .pointer (some ⟨b20, 0, none⟩)), (3, .pointer (some ⟨b25, 0, none⟩))] ∧ Below w0.heap.size w0 w ∧ Row 2 RCon 194 w0.heap.size w v181 s178 rb182 ib183 ∧ Own w0.heap.size ib183 w ∧ Blk w b20 #[.int .i64 0, (.slice none 0 0)] 51 ∧ Blk w b25 #[.int .i64 x0.vars, v181] 51 ∧ Dj (rb182 ++ ib183) [b20] ∧ Dj (rb182 ++ ib183) [b25]) ?_ ?_
 ·
  refine x_blk ?_
  obtain ⟨fl166, hf167, hR⟩ := forL_gen hR
  refine x_loop (fun g a w => ∃ (k187 : Nat) (rest188 : List Con) (s168 : List Con) (v171 : Value) (rb172 : List Nat) (ib173 : List Nat), (k187 ≤ x0.cons.length ∧ x0.cons.drop k187 = rest188) ∧ rest188.length = g ∧ forL fl166 rest188 k187 s168 = some o162 ∧ Sk a 29 [(12, .int .i64 (k187 : Int)), (2, .pointer (some ⟨b20, 0, none⟩)), (3, .pointer (some ⟨b25, 0, none⟩)), (10, v15), (11, .int .i64 (x0.cons.length : Int))] ∧ Below w0.heap.size w0 w ∧ Row 2 RCon 194 w0.heap.size w v171 s168 rb172 ib173 ∧ Own w0.heap.size ib173 w ∧ Rd (Sl 2 RCon) w v15 x0.cons b16 ∧ Blk w b20 #[.int .i64 0, (.slice none 0 0)] 51 ∧ Blk w b25 #[.int .i64 x0.vars, v171] 51 ∧ Dj b16 rb172 ∧ Dj (rb172 ++ ib173) [b20] ∧ Dj (rb172 ++ ib173) [b25]) x0.cons.length ?_ ?_
  ·
   exact ⟨0, x0.cons, [], (.slice none 0 0), [], [], ⟨Nat.zero_le _, rfl⟩, rfl, hR, F.sub (sc rfl (sc rfl (sc rfl (sc rfl (sc rfl sn))))), hB, Row.nil 2 RCon 194 _ _, Own.nil _ _, h17, K21, K26, (Dj.nil _), (Dj.nil' _), (Dj.nil' _)⟩
  ·
   intro g190 a w ⟨k187, rest188, s168, v171, rb172, ib173, hd191, hg192, hR, F, hB, h170, ow174, h17, K21, K26, d175, d176, d177⟩
   cases rest188 with
   | nil =>
    replace hR := forL_nil hR
    have hkk187 := drop_nil hd191.1 hd191.2
    have hlk187 := dec_no hkk187
    refine x_seq ?_
    refine x_reg ?_
    refine o_lss F rfl rfl rfl (fun a F => ?_)
    refine x_end ?_
    refine x_tn ?_
    refine x_seq ?_
    refine x_ifF F rfl hlk187 ?_
    refine x_exit ?_
    refine x_te ?_
    refine x_te ?_
    refine x_be ?_
    refine x_tn ?_
    exact ⟨s168, v171, rb172, ib173, (Option.some.inj hR).symm, F.sub (sc rfl (sc rfl sn)), hB, h170, ow174, K21, K26, d176, d177⟩
   | cons x189 rest188 =>
    subst hg192
    replace hd191 := drop_cons hd191.2
    have hxk187 := ix_nat hd191.2.1
    obtain ⟨ck187, hR, hn165⟩ := forL_cons hR
    rw [hf167] at hR
    have hlk187 := dec_yes hd191.1
    refine x_seq ?_
    refine x_reg ?_
    refine o_lss F rfl rfl rfl (fun a F => ?_)
    refine x_end ?_
    refine x_tn ?_
    refine x_seq ?_
    refine x_ifT F rfl hlk187 ?_
    refine x_skip ?_
    refine x_tn ?_
    refine x_seq ?_
    have ikk187 := k64 (Nat.le_of_lt hd191.1) i31
    have ink187 := inc64 hd191.1 i31
    refine x_blk ?_
    refine x_seq ?_
    refine x_reg ?_
    refine o_index Tryz.underlying49 Tryz.sizeOf194 F rfl rfl rfl h17 hxk187 (fun a p193 b194 h195 s196 F => ?_)
    refine o_loadA Tryz.isAgg194 Tryz.sizeOf194 F rfl rfl h195 (fun a v197 b198 h199 s200 F => ?_)
    refine o_alloc Tryz.zeroValue194 F rfl rfl (fun a w b201 K202 l BK202 F => ?_)
    have d203 := dj1 h170.memR BK202
    have nb204 := Dj.bb K21 BK202
    have nb205 := Dj.bb K26 BK202
    have d206 := (dj1 h17.m BK202).symm
    have d207 := (dj1 h195.m BK202).symm
    have d208 := (dj1 h199.m BK202).symm
    have d209 := (dj1 h170.rd.m BK202).symm
    have CK202 := Nat.le_trans hB.size BK202
    replace hB := Below.through l hB
    replace h17 := h17.go l
    replace h170 := h170.go l
    replace ow174 := ow174.go l
    replace h199 := h199.go l
    replace K21 := K21.thru l
    replace K26 := K26.thru l
    obtain ⟨v212, b213, e215, i211, h214, eb210⟩ := RCon.rd h199
    subst e215
    refine o_bstoreA (vs := [.int .i64 x189.rel, v212]) Tryz.sizeOf194 F rfl rfl rfl K202 (oc rfl (oc (h214).r.one on)) (Nat.le_of_ble_eq_true rfl) rfl (fun w K202 l => ?_)
    replace hB := hB.o l (fun c hc => by rw [List.mem_singleton] at hc; rw [hc]; exact CK202) hB.size
    replace h17 := h17.goO l d206
    replace h170 := h170.goO l d209
    replace ow174 := ow174.goO l d209.r
    replace h214 := h214.goO l (Dj.sub d208 (fun c hc => by rw [eb210]; simp [hc]))
    replace K21 := K21.only l (by simpa using nb204)
    replace K26 := K26.only l (by simpa using nb205)
    refine x_end ?_
    refine x_tn ?_
    refine x_drawn (by kernel_rfl) (fun w l => ?_)
    replace hB := Below.through l hB
    replace h17 := h17.go l
    replace h170 := h170.go l
    replace ow174 := ow174.go l
    replace h214 := h214.go l
    replace K21 := K21.thru l
    replace K26 := K26.thru l
    replace K202 := K202.thru l
    refine b_q 0 (by kernel_rfl) rfl (by kernel_rfl) (by kernel_rfl) (by kernel_rfl) (by kernel_rfl) ?_
    refine v_val F rfl (fun w l => r_bfield fa51_1 F rfl rfl) (fun a F => ?_)
    refine b_q 1 (by kernel_rfl) rfl (by kernel_rfl) (by kernel_rfl) (by kernel_rfl) (by kernel_rfl) ?_
    refine v_val F rfl (fun w l => r_load1 Tryz.isAgg49 F rfl (((K26.thru l).cell _).trans rfl)) (fun a F => ?_)
    refine b_q 2 (by kernel_rfl) rfl (by kernel_rfl) (by kernel_rfl) (by kernel_rfl) (by kernel_rfl) ?_
    refine v_val F rfl (fun w l => r_bfield fa194_0 F rfl rfl) (fun a F => ?_)
    refine b_q 3 (by kernel_rfl) rfl (by kernel_rfl) (by kernel_rfl) (by kernel_rfl) (by kernel_rfl) ?_
    refine v_val F rfl (fun w l => r_load1 Tryz.isAgg2 F rfl (((K202.thru l).cell _).trans rfl)) (fun a F => ?_)
    refine b_q 4 (by kernel_rfl) rfl (by kernel_rfl) (by kernel_rfl) (by kernel_rfl) (by kernel_rfl) ?_
    refine v_val F rfl (fun w l => r_bfield fa194_1 F rfl rfl) (fun a F => ?_)
    refine b_q 5 (by kernel_rfl) rfl (by kernel_rfl) (by kernel_rfl) (by kernel_rfl) (by kernel_rfl) ?_
    refine v_val F rfl (fun w l => r_load1 Tryz.isAgg46 F rfl (((K202.thru l).cell _).trans rfl)) (fun a F => ?_)
    refine b_e 6 rfl (by kernel_rfl) ?_
    obtain ⟨z216, c217, hR⟩ := bnd_some hR
    refine o_gives F rfl Tryz.call103 rfl (slices_Clone_s_int64_int64_c z216 c217 _ h214) (fun a vv w l ⟨v218, rb219, hv222, h221⟩ F => ?_)
    subst vv
    have d224 := Dj.new h17.m h221.ownR (Nat.le_refl _)
    have d225 := Dj.new h170.rd.m h221.ownR (Nat.le_refl _)
    have d226 := Dj.new (inm1 K21) h221.ownR (Nat.le_refl _)
    have d227 := Dj.new (inm1 K26) h221.ownR (Nat.le_refl _)
    have d228 := Dj.app' (Dj.new h170.memR h221.ownR (Nat.le_refl _)).symm (Dj.nil' _)
    have d229 := Dj.app' (Dj.new h170.mem h221.ownR (Nat.le_refl _)).symm (Dj.nil' _)
    replace h221 := h221.base hB.size
    replace hB := Below.through l hB
    replace h17 := h17.go l
    replace h170 := h170.go l
    replace ow174 := ow174.go l
    replace K21 := K21.thru l
    replace K26 := K26.thru l
    refine x_end ?_
    refine x_tn ?_
    refine ⟨.inl l, ?_⟩
    refine b_q 7 (by kernel_rfl) rfl (by kernel_rfl) (by kernel_rfl) (by kernel_rfl) (by kernel_rfl) ?_
    refine v_val F rfl (fun w l => r_build Tryz.underlying194 Tryz.zeroValue194 (fun w => by simp [Tryz.sizeOf2, Tryz.sizeOf46]; rfl) F rfl rfl rfl rfl (oc rfl (oc (h221.rd).r.one on)) rfl rfl) (fun a F => ?_)
    have h230 := RCon.mk2 (w := w) i211 h221.rd
    refine b_e 8 rfl (by kernel_rfl) ?_
    refine o_lit1 (R := RCon) (y := (Con.mk x189.rel z216)) Tryz.underlying49 Tryz.sizeOf194 Tryz.zeroValue194 rfl (by decide) (by decide) F rfl rfl (El.agg h230) (fun a w v231 rb232 h233 l F => ?_)
    have ow234 := Own.go (h221.own (Own.nil _ _)) l
    have d236 := Dj.new h17.m h233.ownR (Nat.le_refl _)
    have d237 := Dj.new h170.rd.m h233.ownR (Nat.le_refl _)
    have d238 := Dj.new (inm1 K21) h233.ownR (Nat.le_refl _)
    have d239 := Dj.new (inm1 K26) h233.ownR (Nat.le_refl _)
    have d240 := Dj.app' (Dj.new h170.memR h233.ownR (Nat.le_refl _)).symm d228
    have d241 := Dj.app' (Dj.new h170.mem h233.ownR (Nat.le_refl _)).symm d229
    have d242 := Dj.app' (Dj.symm d238) (Dj.app' (Dj.symm d226) (Dj.nil' _))
    have d243 := Dj.app' (Dj.symm d239) (Dj.app' (Dj.symm d227) (Dj.nil' _))
    replace h233 := h233.base hB.size
    replace hB := Below.through l hB
    replace h17 := h17.go l
    replace h170 := h170.go l
    replace ow174 := ow174.go l
    replace K21 := K21.thru l
    replace K26 := K26.thru l
    refine x_end ?_
    refine x_tn ?_
    refine ⟨.inl l, ?_⟩
    refine b_e 9 rfl (by kernel_rfl) ?_
    obtain ⟨z244, c245, hR⟩ := bnd_some hR
    refine o_append (sz := 2) (R := RCon) (z := (.agg #[.int .i64 0, (.slice none 0 0)])) (bytes := 32) Tryz.underlying49 (by kernel_rfl) rfl (by decide) (by decide) (by decide) F rfl rfl rfl h170 h233.src hB.size (Dj.symm d240.r) c245 (fun a w v246 rb247 h248 l keep F => ?_)
    have ow249 := Own.append (Own.goO ow174 l h170.dj.symm) (Own.goO ow234 l (Dj.symm (Dj.symm d240.r))) (Dj.symm d241.r)
    have d251 := keep _ h17.m d175
    have d252 := keep _ (inm1 K21) (Dj.symm (Dj.l d176))
    have d253 := keep _ (inm1 K26) (Dj.symm (Dj.l d177))
    replace hB := hB.o l h170.lo hB.size
    replace h17 := h17.goO l d175
    replace K21 := K21.only l (Dj.symm (Dj.l d176)).not
    replace K26 := K26.only l (Dj.symm (Dj.l d177)).not
    have d254 := Dj.app' (Dj.symm d252) (Dj.app' (Dj.r d176) (Dj.r d242))
    have d255 := Dj.app' (Dj.symm d253) (Dj.app' (Dj.r d177) (Dj.r d243))
    refine x_end ?_
    refine x_tn ?_
    refine ⟨.inr (by kernel_rfl), ?_⟩
    refine b_q 10 (by kernel_rfl) rfl (by kernel_rfl) (by kernel_rfl) (by kernel_rfl) (by kernel_rfl) ?_
    refine v_val F rfl (fun w l => r_bfield fa51_1 F rfl rfl) (fun a F => ?_)
    refine b_e 11 rfl (by kernel_rfl) ?_
    refine o_bstore Tryz.sizeOf49 F rfl rfl rfl K26 (h248.rd).r.one (by simp) rfl (fun w K26 l => ?_)
    replace hB := hB.o l (fun c hc => by rw [List.mem_singleton] at hc; rw [hc]; exact CK26) hB.size
    replace h17 := h17.goO l d29
    replace h248 := h248.goO l d255
    replace ow249 := ow249.goO l d255.r
    replace K21 := K21.only l (by simpa using nb28)
    refine x_end ?_
    refine x_tn ?_
    refine ⟨.inr (by kernel_rfl), ?_⟩
    refine b_end (by kernel_rfl) ?_
    refine x_bn ?_
    refine x_tn ?_
    refine x_reg ?_
    refine o_inc F rfl rfl rfl ink187 (fun a F => ?_)
    refine o_move F rfl rfl (fun a F => ?_)
    refine x_end ?_
    refine x_tn ?_
    replace hR := l_go hR hn165
    exact ⟨_, Nat.lt_succ_self _, k187 + 1, rest188, z244, v246, rb247, (ib173 ++ ((rb219 ++ []))), ⟨hd191.1, hd191.2.2⟩, rfl, hR, F.sub (sc rfl (sc rfl (sc rfl (sc rfl (sc rfl sn))))), hB, h248, ow249, h17, K21, K26, d251, d254, d255⟩
 ·
  intro a w ⟨s178, v181, rb182, ib183, ho164, F, hB, h180, ow184, K21, K26, d185, d186⟩
  subst ho164
  have hR := then_nx hk163
  refine x_tn ?_
  refine x_seq ?_
  refine x_reg ?_
  refine o_bloadA (cs := [.int .i64 x0.vars, v181]) Tryz.isAgg51 Tryz.sizeOf51 F rfl rfl K26 rfl (fun j hj => by match j, hj with | 0, _ => rfl | 1, _ => rfl) (fun a F => ?_)
  have h256 := RInstance.mk2 (w := w) i14 h180.rd
  refine o_bstoreA (vs := [.int .i64 x0.vars, v181]) Tryz.sizeOf51 F rfl rfl rfl K21 (oc rfl (oc (h180.rd).r.one on)) (Nat.le_of_ble_eq_true rfl) rfl (fun w K21 l => ?_)
  replace hB := hB.o l (fun c hc => by rw [List.mem_singleton] at hc; rw [hc]; exact CK21) hB.size
  replace h180 := h180.goO l d185
  replace ow184 := ow184.goO l d185.r
  refine x_end ?_
  refine x_tn ?_
  refine x_ret ?_
  refine x_res1 F rfl (rv_cA (arr := #[.int .i64 x0.vars, v181]) F Tryz.isAgg51 Tryz.sizeOf51 rfl K21) ?_
  obtain rfl := Option.some.inj hR
  exact ⟨_, rfl, hB, v181, rb182, ib183, rfl, i14, h180, ow184⟩

def impl_kept (x0 : Instance) (x1 : List Int) : Option Instance :=
 thn (σ := (List Con)) (
  forL (σ := (List Con)) (ρ := Instance) (fun (k148 : Nat) (x150 : Int) (s130 : (List Con)) =>
   bnd (ix x0.cons x150) fun z159 =>
   bnd (ap s130 ([z159])) fun z182 =>
   some (.go z182)) x1 0 []) fun s140 =>
 bnd (impl_ownInstance (Instance.mk x0.vars s140)) fun z196 =>
 some ((Instance.mk z196.vars z196.cons))
set_option maxHeartbeats 1000000 in
theorem impl_kept_c {x0 : Instance} {x1 : List Int} (r : Instance) (hR : impl_kept x0 x1 = some r) {v0 : Value} {b0 : List Nat} {v1 : Value} {b1 : List Nat} (w0 : World) (A0 : Rd (Agg 2 RInstance) w0 v0 x0 b0) (A1 : Rd (Sl 1 RInt) w0 v1 x1 b1) : Calls Tryz.prog 115 #[v0, v1] w0 (Gives (fun v w' => ∃ (v1' : Value) (rb2' : List Nat) (ib3' : List Nat), v = .agg #[.int .i64 r.vars, v1'] ∧ I64 r.vars ∧ Row 2 RCon 194 w0.heap.size w' v1' r.cons rb2' ib3' ∧ Own w0.heap.size ib3' w') w0) := by
 unfold impl_kept at hR
 refine x_enter (L := [(0, v0), (1, v1)]) Tryz.func115 rfl rfl rfl (sc rfl (sc rfl sn)) (fun a F => ?_)
 have hB := Below.refl w0.heap.size w0
 refine x_seq ?_
 refine x_reg ?_
 obtain ⟨v15, b16, e18, i14, h17, eb13⟩ := RInstance.rd (A0.go hB)
 subst e18
 refine o_box F rfl rfl rfl (fun a w b11 K12 l BK12 F => ?_)
 have d19 := (dj1 h17.m BK12).symm
 have CK12 := Nat.le_trans hB.size BK12
 replace hB := Below.through l hB
 replace h17 := h17.go l
 refine o_alloc Tryz.zeroValue51 F rfl rfl (fun a w b20 K21 l BK21 F => ?_)
 have nb22 := Dj.bb K12 BK21
 have d23 := (dj1 h17.m BK21).symm
 have CK21 := Nat.le_trans hB.size BK21
 replace hB := Below.through l hB
 replace h17 := h17.go l
 replace K12 := K12.thru l
 refine x_end ?_
 refine x_tn ?_
 refine x_seq ?_
 refine x_reg ?_
 refine o_bfield fa51_0 F rfl rfl rfl (fun a F => ?_)
 refine o_bload Tryz.isAgg2 F rfl rfl K12 rfl (fun a F => ?_)
 refine o_build Tryz.underlying51 Tryz.zeroValue51 (fun w => by simp [Tryz.sizeOf2, Tryz.sizeOf49]; rfl) F rfl rfl rfl rfl rfl (oc rfl on) rfl rfl (fun a F => ?_)
 have h24 := RInstance.mk2 (w := w) i14 (Rd.nil 2 RCon _)
 refine o_alloc Tryz.zeroValue51 F rfl rfl (fun a w b25 K26 l BK26 F => ?_)
 have nb27 := Dj.bb K12 BK26
 have nb28 := Dj.bb K21 BK26
 have d29 := (dj1 h17.m BK26).symm
 have d30 := (dj1 h24.m BK26).symm
 have CK26 := Nat.le_trans hB.size BK26
 replace hB := Below.through l hB
 replace h17 := h17.go l
 replace h24 := h24.go l
 replace K12 := K12.thru l
 replace K21 := K21.thru l
 refine o_bstoreA (vs := [.int .i64 x0.vars, (.slice none 0 0)]) Tryz.sizeOf51 F rfl rfl rfl K26 (oc rfl (oc rfl on)) (Nat.le_of_ble_eq_true rfl) rfl (fun w K26 l => ?_)
 replace hB := hB.o l (fun c hc => by rw [List.mem_singleton] at hc; rw [hc]; exact CK26) hB.size
 replace h17 := h17.goO l d29
 replace K12 := K12.only l (by simpa using nb27)
 replace K21 := K21.only l (by simpa using nb28)
 refine x_end ?_
 refine x_tn ?_
 refine x_seq ?_
 refine x_seq ?_
 refine x_reg ?_
 refine o_move F rfl rfl (fun a F => ?_)
 refine o_len Tryz.underlying46 F rfl rfl (A1.go hB) (fun a F => ?_)
 have i31 := ((A1.go hB)).r.len64
 refine o_move F rfl rfl (fun a F => ?_)
 refine x_end ?_
 refine x_tn ?_
 obtain ⟨o124, hR, hk125⟩ := thn_some hR
 refine x_cutQ (fun a w => ∃ (s140 : List Con) (v143 : Value) (rb144 : List Nat) (ib145 : List Nat), o124 = .nx s140 ∧ Sk a 30 [(4, .pointer (some ⟨b20, 0, none⟩)), (5, .pointer (some ⟨b25, 0, none⟩))] ∧ Below w0.heap.size w0 w ∧ Row 2 RCon 194 w0.heap.size w v143 s140 rb144 ib145 ∧ Blk w b20 #[.int .i64 0, (.slice none 0 0)] 51 ∧ Blk w b25 #[.int .i64 x0.vars, v143] 51 ∧ Dj (rb144 ++ ib145) [b20] ∧ Dj (rb144 ++ ib145) [b25]) ?_ ?_
 ·
  refine x_blk ?_
  obtain ⟨fl128, hf129, hR⟩ := forL_gen hR
  refine x_loop (fun g a w => ∃ (k148 : Nat) (rest149 : List Int) (s130 : List Con) (v133 : Value) (rb134 : List Nat) (ib135 : List Nat), (k148 ≤ x1.length ∧ x1.drop k148 = rest149) ∧ rest149.length = g ∧ forL fl128 rest149 k148 s130 = some o124 ∧ Sk a 30 [(13, .int .i64 (k148 : Int)), (2, .pointer (some ⟨b11, 0, none⟩)), (4, .pointer (some ⟨b20, 0, none⟩)), (5, .pointer (some ⟨b25, 0, none⟩)), (11, v1), (12, .int .i64 (x1.length : Int))] ∧ Below w0.heap.size w0 w ∧ Row 2 RCon 194 w0.heap.size w v133 s130 rb134 ib135 ∧ Rd (Sl 2 RCon) w v15 x0.cons b16 ∧ Blk w b11 #[.int .i64 x0.vars, v15] 51 ∧ Blk w b20 #[.int .i64 0, (.slice none 0 0)] 51 ∧ Blk w b25 #[.int .i64 x0.vars, v133] 51 ∧ Dj b16 rb134 ∧ Dj (rb134 ++ ib135) [b11] ∧ Dj (rb134 ++ ib135) [b20] ∧ Dj (rb134 ++ ib135) [b25]) x1.length ?_ ?_
  ·
   exact ⟨0, x1, [], (.slice none 0 0), [], [], ⟨Nat.zero_le _, rfl⟩, rfl, hR, F.sub (sc rfl (sc rfl (sc rfl (sc rfl (sc rfl (sc rfl sn)))))), hB, Row.nil 2 RCon 194 _ _, h17, K12, K21, K26, (Dj.nil _), (Dj.nil' _), (Dj.nil' _), (Dj.nil' _)⟩
  ·
   intro g151 a w ⟨k148, rest149, s130, v133, rb134, ib135, hd152, hg153, hR, F, hB, h132, h17, K12, K21, K26, d136, d137, d138, d139⟩
   cases rest149 with
   | nil =>
    replace hR := forL_nil hR
    have hkk148 := drop_nil hd152.1 hd152.2
    have hlk148 := dec_no hkk148
    refine x_seq ?_
    refine x_reg ?_
    refine o_lss F rfl rfl rfl (fun a F => ?_)
    refine x_end ?_
    refine x_tn ?_
    refine x_seq ?_
    refine x_ifF F rfl hlk148 ?_
    refine x_exit ?_
    refine x_te ?_
    refine x_te ?_
    refine x_be ?_
    refine x_tn ?_
    exact ⟨s130, v133, rb134, ib135, (Option.some.inj hR).symm, F.sub (sc rfl (sc rfl sn)), hB, h132, K21, K26, d138, d139⟩
   | cons x150 rest149 =>
    subst hg153
    replace hd152 := drop_cons hd152.2
    have hxk148 := ix_nat hd152.2.1
    obtain ⟨ck148, hR, hn127⟩ := forL_cons hR
    rw [hf129] at hR
    have hlk148 := dec_yes hd152.1
    refine x_seq ?_
    refine x_reg ?_
    refine o_lss F rfl rfl rfl (fun a F => ?_)
    refine x_end ?_
    refine x_tn ?_
    refine x_seq ?_
    refine x_ifT F rfl hlk148 ?_
    refine x_skip ?_
    refine x_tn ?_
    refine x_seq ?_
    have ikk148 := k64 (Nat.le_of_lt hd152.1) i31
    have ink148 := inc64 hd152.1 i31
    refine x_blk ?_
    refine x_seq ?_
    refine x_reg ?_
    refine o_index Tryz.underlying46 Tryz.sizeOf2 F rfl rfl rfl (A1.go hB) hxk148 (fun a p154 b155 h156 s157 F => ?_)
    have i158 := (h156).i64
    refine o_loadI Tryz.isAgg2 F rfl rfl h156 (fun a F => ?_)
    refine o_assign F rfl rfl (fun a F => ?_)
    refine x_end ?_
    refine x_tn ?_
    refine x_drawn (by kernel_rfl) (fun w l => ?_)
    replace hB := Below.through l hB
    replace h17 := h17.go l
    replace h132 := h132.go l
    replace K12 := K12.thru l
    replace K21 := K21.thru l
    replace K26 := K26.thru l
    refine b_q 0 (by kernel_rfl) rfl (by kernel_rfl) (by kernel_rfl) (by kernel_rfl) (by kernel_rfl) ?_
    refine v_val F rfl (fun w l => r_bfield fa51_1 F rfl rfl) (fun a F => ?_)
    refine b_q 1 (by kernel_rfl) rfl (by kernel_rfl) (by kernel_rfl) (by kernel_rfl) (by kernel_rfl) ?_
    refine v_val F rfl (fun w l => r_load1 Tryz.isAgg49 F rfl (((K26.thru l).cell _).trans rfl)) (fun a F => ?_)
    refine b_q 2 (by kernel_rfl) rfl (by kernel_rfl) (by kernel_rfl) (by kernel_rfl) (by kernel_rfl) ?_
    refine v_val F rfl (fun w l => r_bfield fa51_1 F rfl rfl) (fun a F => ?_)
    refine b_q 3 (by kernel_rfl) rfl (by kernel_rfl) (by kernel_rfl) (by kernel_rfl) (by kernel_rfl) ?_
    refine v_val F rfl (fun w l => r_load1 Tryz.isAgg49 F rfl (((K12.thru l).cell _).trans rfl)) (fun a F => ?_)
    refine b_q0 4 rfl (by kernel_rfl) (by kernel_rfl) (by kernel_rfl) ?_
    refine v_val F rfl (fun w l => r_move F rfl) (fun a F => ?_)
    refine b_q 5 (by kernel_rfl) rfl (by kernel_rfl) (by kernel_rfl) (by kernel_rfl) (by kernel_rfl) ?_
    obtain ⟨z159, c160, hR⟩ := bnd_some hR
    refine v_index Tryz.underlying49 Tryz.sizeOf194 F rfl rfl rfl h17 c160 (fun a p161 b162 h163 s164 F => ?_)
    refine b_q 6 (by kernel_rfl) rfl (by kernel_rfl) (by kernel_rfl) (by kernel_rfl) (by kernel_rfl) ?_
    refine v_loadA (fun _ l => l) Tryz.isAgg194 Tryz.sizeOf194 F rfl rfl h163 (fun a v165 b166 h167 s168 F => ?_)
    refine b_e 7 rfl (by kernel_rfl) ?_
    refine o_lit1 (R := RCon) (y := z159) Tryz.underlying49 Tryz.sizeOf194 Tryz.zeroValue194 rfl (by decide) (by decide) F rfl rfl (El.agg h167) (fun a w v169 rb170 h171 l F => ?_)
    have d173 := Dj.new h17.m h171.ownR (Nat.le_refl _)
    have d174 := Dj.new h132.rd.m h171.ownR (Nat.le_refl _)
    have d175 := Dj.new (inm1 K12) h171.ownR (Nat.le_refl _)
    have d176 := Dj.new (inm1 K21) h171.ownR (Nat.le_refl _)
    have d177 := Dj.new (inm1 K26) h171.ownR (Nat.le_refl _)
    have d178 := Dj.app' (Dj.new h132.memR h171.ownR (Nat.le_refl _)).symm (Dj.sub (Dj.sub d136 s164) s168)
    have d179 := Dj.app' (Dj.symm d175) (Dj.sub (Dj.sub d19 s164) s168)
    have d180 := Dj.app' (Dj.symm d176) (Dj.sub (Dj.sub d23 s164) s168)
    have d181 := Dj.app' (Dj.symm d177) (Dj.sub (Dj.sub d29 s164) s168)
    replace h171 := h171.base hB.size
    replace hB := Below.through l hB
    replace h17 := h17.go l
    replace h132 := h132.go l
    replace K12 := K12.thru l
    replace K21 := K21.thru l
    replace K26 := K26.thru l
    refine x_end ?_
    refine x_tn ?_
    refine ⟨.inl l, ?_⟩
    refine b_e 8 rfl (by kernel_rfl) ?_
    obtain ⟨z182, c183, hR⟩ := bnd_some hR
    refine o_append (sz := 2) (R := RCon) (z := (.agg #[.int .i64 0, (.slice none 0 0)])) (bytes := 32) Tryz.underlying49 (by kernel_rfl) rfl (by decide) (by decide) (by decide) F rfl rfl rfl h132 h171.src hB.size (Dj.symm d178.r) c183 (fun a w v184 rb185 h186 l keep F => ?_)
    have d188 := keep _ h17.m d136
    have d189 := keep _ (inm1 K12) (Dj.symm (Dj.l d137))
    have d190 := keep _ (inm1 K21) (Dj.symm (Dj.l d138))
    have d191 := keep _ (inm1 K26) (Dj.symm (Dj.l d139))
    replace hB := hB.o l h132.lo hB.size
    replace h17 := h17.goO l d136
    replace K12 := K12.only l (Dj.symm (Dj.l d137)).not
    replace K21 := K21.only l (Dj.symm (Dj.l d138)).not
    replace K26 := K26.only l (Dj.symm (Dj.l d139)).not
    have d192 := Dj.app' (Dj.symm d189) (Dj.app' (Dj.r d137) (Dj.r d179))
    have d193 := Dj.app' (Dj.symm d190) (Dj.app' (Dj.r d138) (Dj.r d180))
    have d194 := Dj.app' (Dj.symm d191) (Dj.app' (Dj.r d139) (Dj.r d181))
    refine x_end ?_
    refine x_tn ?_
    refine ⟨.inr (by kernel_rfl), ?_⟩
    refine b_q 9 (by kernel_rfl) rfl (by kernel_rfl) (by kernel_rfl) (by kernel_rfl) (by kernel_rfl) ?_
    refine v_val F rfl (fun w l => r_bfield fa51_1 F rfl rfl) (fun a F => ?_)
    refine b_e 10 rfl (by kernel_rfl) ?_
    refine o_bstore Tryz.sizeOf49 F rfl rfl rfl K26 (h186.rd).r.one (by simp) rfl (fun w K26 l => ?_)
    replace hB := hB.o l (fun c hc => by rw [List.mem_singleton] at hc; rw [hc]; exact CK26) hB.size
    replace h17 := h17.goO l d29
    replace h186 := h186.goO l d194
    replace K12 := K12.only l (by simpa using nb27)
    replace K21 := K21.only l (by simpa using nb28)
    refine x_end ?_
    refine x_tn ?_
    refine ⟨.inr (by kernel_rfl), ?_⟩
    refine b_end (by kernel_rfl) ?_
    refine x_bn ?_
    refine x_tn ?_
    refine x_reg ?_
    refine o_inc F rfl rfl rfl ink148 (fun a F => ?_)
    refine o_move F rfl rfl (fun a F => ?_)
    refine x_end ?_
    refine x_tn ?_
    replace hR := l_go hR hn127
    exact ⟨_, Nat.lt_succ_self _, k148 + 1, rest149, z182, v184, rb185, (ib135 ++ b166), ⟨hd152.1, hd152.2.2⟩, rfl, hR, F.sub (sc rfl (sc rfl (sc rfl (sc rfl (sc rfl (sc rfl sn)))))), hB, h186, h17, K12, K21, K26, d188, d192, d193, d194⟩
 ·
  intro a w ⟨s140, v143, rb144, ib145, ho126, F, hB, h142, K21, K26, d146, d147⟩
  subst ho126
  have hR := then_nx hk125
  refine x_tn ?_
  refine x_seq ?_
  refine x_reg ?_
  refine o_bloadA (cs := [.int .i64 x0.vars, v143]) Tryz.isAgg51 Tryz.sizeOf51 F rfl rfl K26 rfl (fun j hj => by match j, hj with | 0, _ => rfl | 1, _ => rfl) (fun a F => ?_)
  have h195 := RInstance.mk2 (w := w) i14 h142.rd
  obtain ⟨z196, c197, hR⟩ := bnd_some hR
  refine o_gives F rfl Tryz.call134 rfl (impl_ownInstance_c z196 c197 _ h195) (fun a vv w l ⟨v199, rb200, ib201, hv204, i198, h202, ow203⟩ F => ?_)
  subst vv
  have o205 := h202.own ow203
  have d206 := (Dj.new (inm1 K21) o205 (Nat.le_refl _)).symm
  have d207 := (Dj.new (inm1 K26) o205 (Nat.le_refl _)).symm
  have d208 := (Dj.new h142.memR o205 (Nat.le_refl _)).symm
  have d209 := (Dj.new h142.mem o205 (Nat.le_refl _)).symm
  have d211 := Dj.new (inm1 K21) h202.ownR (Nat.le_refl _)
  replace h202 := h202.base hB.size
  replace ow203 := ow203.mono hB.size
  replace hB := Below.through l hB
  replace K21 := K21.thru l
  have h212 := RInstance.mk2 (w := w) i198 h202.rd
  refine o_bstoreA (vs := [.int .i64 z196.vars, v199]) Tryz.sizeOf51 F rfl rfl rfl K21 (oc rfl (oc (h202.rd).r.one on)) (Nat.le_of_ble_eq_true rfl) rfl (fun w K21 l => ?_)
  replace hB := hB.o l (fun c hc => by rw [List.mem_singleton] at hc; rw [hc]; exact CK21) hB.size
  replace h202 := h202.goO l d206
  replace ow203 := ow203.goO l d206.r
  refine x_end ?_
  refine x_tn ?_
  refine x_ret ?_
  refine x_res1 F rfl (rv_cA (arr := #[.int .i64 z196.vars, v199]) F Tryz.isAgg51 Tryz.sizeOf51 rfl K21) ?_
  obtain rfl := Option.some.inj hR
  exact ⟨_, rfl, hB, v199, rb200, ib201, rfl, i198, h202, ow203⟩

def impl_SmallestReason (N : Nat) (x0 : Template) (x1 : Instance) (x2 : Int) : Option ((List Int) × Int) :=
 bnd (impl_SearchFor N (Template.mk x0.size x0.rels) (Instance.mk x1.vars x1.cons) x2) fun z33 =>
 if (z33.2.2 == 0) then
  some ([], 4)
 else
  if (z33.2.2 == 6) then
   bnd (impl_upTo 0 (x1.cons.length : Int)) fun z50 =>
   thn (σ := (List Int)) (
    forL (σ := (List Int)) (ρ := (List Int) × Int) (fun (k154 : Nat) (x156 : Con) (s140 : (List Int)) =>
     bnd (impl_without N s140 (k154 : Int)) fun z160 =>
     bnd (impl_kept (Instance.mk x1.vars x1.cons) z160) fun z176 =>
     bnd (impl_SearchFor N (Template.mk x0.size x0.rels) z176 x2) fun z199 =>
     if (z199.2.2 == 7) then
      some (.ret ([], 7))
     else
      if (z199.2.2 == 6) then
       some (.go z160)
      else
       some (.go s140)) x1.cons 0 z50) fun s149 =>
   some (s149, 0)
  else
   some ([], z33.2.2)
set_option maxHeartbeats 1000000 in
theorem impl_SmallestReason_c {N : Nat} {x0 : Template} {x1 : Instance} {x2 : Int} (r : (List Int) × Int) (hR : impl_SmallestReason N x0 x1 x2 = some r) {v0 : Value} {b0 : List Nat} {v1 : Value} {b1 : List Nat} (w0 : World) (A0 : Rd (Agg 2 RTemplate) w0 v0 x0 b0) (A1 : Rd (Agg 2 RInstance) w0 v1 x1 b1) (hx2 : I64 x2) : Calls Tryz.prog 50 #[v0, v1, .int .i64 x2] w0 (Gives (fun v w' => ∃ (v1' : Value) (rb2' : List Nat), v = .tuple #[v1', .int .i64 r.2] ∧ Row 1 RInt 2 w0.heap.size w' v1' r.1 rb2' [] ∧ I64 r.2) w0) := by
 unfold impl_SmallestReason at hR
 refine x_enter (L := [(0, v0), (1, v1), (2, .int .i64 x2)]) Tryz.func50 rfl rfl rfl (sc rfl (sc rfl (sc rfl sn))) (fun a F => ?_)
 have hB := Below.refl w0.heap.size w0
 refine x_seq ?_
 refine x_reg ?_
 obtain ⟨v15, b16, e18, i14, h17, eb13⟩ := RTemplate.rd (A0.go hB)
 subst e18
 refine o_box F rfl rfl rfl (fun a w b11 K12 l BK12 F => ?_)
 have d19 := (dj1 h17.m BK12).symm
 have CK12 := Nat.le_trans hB.size BK12
 replace hB := Below.through l hB
 replace h17 := h17.go l
 obtain ⟨v24, b25, e27, i23, h26, eb22⟩ := RInstance.rd (A1.go hB)
 subst e27
 refine o_box F rfl rfl rfl (fun a w b20 K21 l BK21 F => ?_)
 have nb28 := Dj.bb K12 BK21
 have d29 := (dj1 h17.m BK21).symm
 have d30 := (dj1 h26.m BK21).symm
 have CK21 := Nat.le_trans hB.size BK21
 replace hB := Below.through l hB
 replace h17 := h17.go l
 replace h26 := h26.go l
 replace K12 := K12.thru l
 refine o_assign F rfl rfl (fun a F => ?_)
 refine o_assign F rfl rfl (fun a F => ?_)
 refine x_end ?_
 refine x_tn ?_
 refine x_seq ?_
 refine x_reg ?_
 refine o_bloadA (cs := [.int .i64 x0.size, v15]) Tryz.isAgg33 Tryz.sizeOf33 F rfl rfl K12 rfl (fun j hj => by match j, hj with | 0, _ => rfl | 1, _ => rfl) (fun a F => ?_)
 have h31 := RTemplate.mk2 (w := w) i14 h17
 refine o_bloadA (cs := [.int .i64 x1.vars, v24]) Tryz.isAgg51 Tryz.sizeOf51 F rfl rfl K21 rfl (fun j hj => by match j, hj with | 0, _ => rfl | 1, _ => rfl) (fun a F => ?_)
 have h32 := RInstance.mk2 (w := w) i23 h26
 refine o_move F rfl rfl (fun a F => ?_)
 obtain ⟨z33, c34, hR⟩ := bnd_some hR
 refine o_gives F rfl Tryz.call25 rfl (impl_SearchFor_c z33 c34 _ h31 h32 hx2) (fun a vv w l ⟨v35, rb36, hv41, h38, i39, i40⟩ F => ?_)
 subst vv
 have d43 := Dj.new h17.m h38.ownR (Nat.le_refl _)
 have d44 := Dj.new h26.m h38.ownR (Nat.le_refl _)
 have d45 := Dj.new (inm1 K12) h38.ownR (Nat.le_refl _)
 have d46 := Dj.new (inm1 K21) h38.ownR (Nat.le_refl _)
 replace h38 := h38.base hB.size
 replace hB := Below.through l hB
 replace h17 := h17.go l
 replace h26 := h26.go l
 replace K12 := K12.thru l
 replace K21 := K21.thru l
 refine o_move F rfl rfl (fun a F => ?_)
 refine o_extract F rfl rfl rfl (fun a F => ?_)
 refine o_extract F rfl rfl rfl (fun a F => ?_)
 refine o_extract F rfl rfl rfl (fun a F => ?_)
 refine o_assign F rfl rfl (fun a F => ?_)
 refine o_assign F rfl rfl (fun a F => ?_)
 refine o_assign F rfl rfl (fun a F => ?_)
 refine x_end ?_
 refine x_tn ?_
 refine x_seq ?_
 refine x_seq ?_
 refine x_reg ?_
 refine o_move F rfl rfl (fun a F => ?_)
 refine x_end ?_
 refine x_tn ?_
 refine x_blk ?_
 refine x_seq ?_
 refine x_reg ?_
 refine o_eql F rfl rfl rfl (fun a F => ?_)
 refine o_assign F rfl rfl (fun a F => ?_)
 refine x_end ?_
 refine x_tn ?_
 refine x_if F rfl (fun hb47 => ?_) (fun hb47 => ?_)
 ·
  replace hR := ifT hb47 hR
  refine x_seq ?_
  refine x_reg ?_
  refine o_assign F rfl rfl (fun a F => ?_)
  refine o_assign F rfl rfl (fun a F => ?_)
  refine x_end ?_
  refine x_tn ?_
  refine x_ret ?_
  refine x_br ?_
  refine x_tr ?_
  refine x_res2 F rfl (rv_t F rfl) (rv_t F rfl) ?_
  obtain rfl := Option.some.inj hR
  exact ⟨_, rfl, hB, (.slice none 0 0), [], rfl, Row.nil 1 RInt 2 _ _, (show I64 (4) by decide)⟩
 ·
  replace hR := ifF hb47 hR
  refine x_seq ?_
  refine x_reg ?_
  refine o_eql F rfl rfl rfl (fun a F => ?_)
  refine o_assign F rfl rfl (fun a F => ?_)
  refine x_end ?_
  refine x_tn ?_
  refine x_if F rfl (fun hb48 => ?_) (fun hb48 => ?_)
  ·
   replace hR := ifT hb48 hR
   refine x_skip ?_
   refine x_bn ?_
   refine x_tn ?_
   refine x_seq ?_
   refine x_reg ?_
   refine o_bfield fa51_1 F rfl rfl rfl (fun a F => ?_)
   refine o_bload Tryz.isAgg49 F rfl rfl K21 rfl (fun a F => ?_)
   refine o_len Tryz.underlying49 F rfl rfl h26 (fun a F => ?_)
   have i49 := (h26).r.len64
   obtain ⟨z50, c51, hR⟩ := bnd_some hR
   refine o_gives F rfl Tryz.call113 rfl (impl_upTo_c z50 c51 _ (show I64 (0) by decide) i49) (fun a vv w l ⟨v52, rb53, hv56, h55⟩ F => ?_)
   subst vv
   have d58 := Dj.new h17.m h55.ownR (Nat.le_refl _)
   have d59 := Dj.new h26.m h55.ownR (Nat.le_refl _)
   have d60 := Dj.new (inm1 K12) h55.ownR (Nat.le_refl _)
   have d61 := Dj.new (inm1 K21) h55.ownR (Nat.le_refl _)
   have d62 := Dj.app' (Dj.new h38.memR h55.ownR (Nat.le_refl _)).symm (Dj.nil' _)
   replace h55 := h55.base hB.size
   replace hB := Below.through l hB
   replace h17 := h17.go l
   replace h26 := h26.go l
   replace K12 := K12.thru l
   replace K21 := K21.thru l
   refine o_assign F rfl rfl (fun a F => ?_)
   refine x_end ?_
   refine x_tn ?_
   refine x_seq ?_
   refine x_seq ?_
   refine x_reg ?_
   refine o_bfield fa51_1 F rfl rfl rfl (fun a F => ?_)
   refine o_bload Tryz.isAgg49 F rfl rfl K21 rfl (fun a F => ?_)
   refine o_len Tryz.underlying49 F rfl rfl h26 (fun a F => ?_)
   have i63 := (h26).r.len64
   refine o_move F rfl rfl (fun a F => ?_)
   refine x_end ?_
   refine x_tn ?_
   obtain ⟨o134, hR, hk135⟩ := thn_some hR
   refine x_cutQ (fun a w => ∃ (s149 : List Int) (v152 : Value) (rb153 : List Nat), o134 = .nx s149 ∧ Sk a 62 [(11, v152)] ∧ Below w0.heap.size w0 w ∧ Row 1 RInt 2 w0.heap.size w v152 s149 rb153 ([])) ?_ ?_
   ·
    refine x_blk ?_
    obtain ⟨fl138, hf139, hR⟩ := forL_gen hR
    refine x_loop (fun g a w => ∃ (k154 : Nat) (rest155 : List Con) (s140 : List Int) (v143 : Value) (rb144 : List Nat), (k154 ≤ x1.cons.length ∧ x1.cons.drop k154 = rest155) ∧ rest155.length = g ∧ forL fl138 rest155 k154 s140 = some o134 ∧ Sk a 62 [(38, .int .i64 (k154 : Int)), (2, .int .i64 x2), (3, .pointer (some ⟨b11, 0, none⟩)), (4, .pointer (some ⟨b20, 0, none⟩)), (11, v143), (37, .int .i64 (x1.cons.length : Int))] ∧ Below w0.heap.size w0 w ∧ Row 1 RInt 2 w0.heap.size w v143 s140 rb144 ([]) ∧ Rd (Sl 2 RRel) w v15 x0.rels b16 ∧ Rd (Sl 2 RCon) w v24 x1.cons b25 ∧ Blk w b11 #[.int .i64 x0.size, v15] 33 ∧ Blk w b20 #[.int .i64 x1.vars, v24] 51 ∧ Dj b16 rb144 ∧ Dj b25 rb144 ∧ Dj (rb144 ++ []) [b11] ∧ Dj (rb144 ++ []) [b20]) x1.cons.length ?_ ?_
    ·
     exact ⟨0, x1.cons, z50, v52, rb53, ⟨Nat.zero_le _, rfl⟩, rfl, hR, F.sub (sc rfl (sc rfl (sc rfl (sc rfl (sc rfl (sc rfl sn)))))), hB, h55, h17, h26, K12, K21, d58, d59, (Dj.app' (Dj.symm d60) (Dj.nil' _)), (Dj.app' (Dj.symm d61) (Dj.nil' _))⟩
    ·
     intro g157 a w ⟨k154, rest155, s140, v143, rb144, hd158, hg159, hR, F, hB, h142, h17, h26, K12, K21, d145, d146, d147, d148⟩
     cases rest155 with
     | nil =>
      replace hR := forL_nil hR
      have hkk154 := drop_nil hd158.1 hd158.2
      have hlk154 := dec_no hkk154
      refine x_seq ?_
      refine x_reg ?_
      refine o_lss F rfl rfl rfl (fun a F => ?_)
      refine x_end ?_
      refine x_tn ?_
      refine x_seq ?_
      refine x_ifF F rfl hlk154 ?_
      refine x_exit ?_
      refine x_te ?_
      refine x_te ?_
      refine x_be ?_
      refine x_tn ?_
      exact ⟨s140, v143, rb144, (Option.some.inj hR).symm, F.sub (sc rfl sn), hB, h142⟩
     | cons x156 rest155 =>
      subst hg159
      replace hd158 := drop_cons hd158.2
      have hxk154 := ix_nat hd158.2.1
      obtain ⟨ck154, hR, hn137⟩ := forL_cons hR
      rw [hf139] at hR
      have hlk154 := dec_yes hd158.1
      refine x_seq ?_
      refine x_reg ?_
      refine o_lss F rfl rfl rfl (fun a F => ?_)
      refine x_end ?_
      refine x_tn ?_
      refine x_seq ?_
      refine x_ifT F rfl hlk154 ?_
      refine x_skip ?_
      refine x_tn ?_
      refine x_seq ?_
      have ikk154 := k64 (Nat.le_of_lt hd158.1) i63
      have ink154 := inc64 hd158.1 i63
      refine x_blk ?_
      refine x_seq ?_
      refine x_reg ?_
      refine o_move F rfl rfl (fun a F => ?_)
      refine o_assign F rfl rfl (fun a F => ?_)
      refine x_end ?_
      refine x_tn ?_
      refine x_seq ?_
      refine x_reg ?_
      refine o_move F rfl rfl (fun a F => ?_)
      refine o_move F rfl rfl (fun a F => ?_)
      obtain ⟨z160, c161, hR⟩ := bnd_some hR
      refine o_gives F rfl Tryz.call114 rfl (impl_without_c z160 c161 _ h142.rd ikk154) (fun a vv w l ⟨v162, rb163, hv166, h165⟩ F => ?_)
      subst vv
      have d168 := Dj.new h17.m h165.ownR (Nat.le_refl _)
      have d169 := Dj.new h26.m h165.ownR (Nat.le_refl _)
      have d170 := Dj.new h142.rd.m h165.ownR (Nat.le_refl _)
      have d171 := Dj.new (inm1 K12) h165.ownR (Nat.le_refl _)
      have d172 := Dj.new (inm1 K21) h165.ownR (Nat.le_refl _)
      have d173 := Dj.app' (Dj.new h142.memR h165.ownR (Nat.le_refl _)).symm (Dj.nil' _)
      replace h165 := h165.base hB.size
      replace hB := Below.through l hB
      replace h17 := h17.go l
      replace h26 := h26.go l
      replace h142 := h142.go l
      replace K12 := K12.thru l
      replace K21 := K21.thru l
      refine o_assign F rfl rfl (fun a F => ?_)
      refine x_end ?_
      refine x_tn ?_
      refine x_seq ?_
      refine x_drawn (by kernel_rfl) (fun w l => ?_)
      replace hB := Below.through l hB
      replace h17 := h17.go l
      replace h26 := h26.go l
      replace h142 := h142.go l
      replace h165 := h165.go l
      replace K12 := K12.thru l
      replace K21 := K21.thru l
      refine b_q 0 (by kernel_rfl) rfl (by kernel_rfl) (by kernel_rfl) (by kernel_rfl) (by kernel_rfl) ?_
      refine v_val F rfl (fun w l => r_bloadA (cs := [.int .i64 x0.size, v15]) Tryz.isAgg33 Tryz.sizeOf33 F rfl (K12.thru l) rfl (fun j hj => by match j, hj with | 0, _ => rfl | 1, _ => rfl)) (fun a F => ?_)
      have h174 := RTemplate.mk2 (w := w) i14 h17
      refine b_q 1 (by kernel_rfl) rfl (by kernel_rfl) (by kernel_rfl) (by kernel_rfl) (by kernel_rfl) ?_
      refine v_val F rfl (fun w l => r_bloadA (cs := [.int .i64 x1.vars, v24]) Tryz.isAgg51 Tryz.sizeOf51 F rfl (K21.thru l) rfl (fun j hj => by match j, hj with | 0, _ => rfl | 1, _ => rfl)) (fun a F => ?_)
      have h175 := RInstance.mk2 (w := w) i23 h26
      refine b_q0 2 rfl (by kernel_rfl) (by kernel_rfl) (by kernel_rfl) ?_
      refine v_val F rfl (fun w l => r_move F rfl) (fun a F => ?_)
      refine b_q0 4 rfl (by kernel_rfl) (by kernel_rfl) (by kernel_rfl) ?_
      refine v_val F rfl (fun w l => r_move F rfl) (fun a F => ?_)
      refine b_e 3 rfl (by kernel_rfl) ?_
      obtain ⟨z176, c177, hR⟩ := bnd_some hR
      refine o_gives F rfl Tryz.call115 rfl (impl_kept_c z176 c177 _ h175 h165.rd) (fun a vv w l ⟨v179, rb180, ib181, hv184, i178, h182, ow183⟩ F => ?_)
      subst vv
      have o185 := h182.own ow183
      have d186 := (Dj.new (inm1 K12) o185 (Nat.le_refl _)).symm
      have d187 := (Dj.new (inm1 K21) o185 (Nat.le_refl _)).symm
      have d188 := (Dj.new h142.memR o185 (Nat.le_refl _)).symm
      have d189 := (Dj.new h165.memR o185 (Nat.le_refl _)).symm
      have d191 := Dj.new h17.m h182.ownR (Nat.le_refl _)
      have d192 := Dj.new h26.m h182.ownR (Nat.le_refl _)
      have d193 := Dj.new h174.m h182.ownR (Nat.le_refl _)
      have d194 := Dj.new h142.rd.m h182.ownR (Nat.le_refl _)
      have d195 := Dj.new h165.rd.m h182.ownR (Nat.le_refl _)
      have d196 := Dj.new (inm1 K12) h182.ownR (Nat.le_refl _)
      have d197 := Dj.new (inm1 K21) h182.ownR (Nat.le_refl _)
      replace h182 := h182.base hB.size
      replace ow183 := ow183.mono hB.size
      replace hB := Below.through l hB
      replace h17 := h17.go l
      replace h26 := h26.go l
      replace h142 := h142.go l
      replace h165 := h165.go l
      replace h174 := h174.go l
      replace K12 := K12.thru l
      replace K21 := K21.thru l
      have h198 := RInstance.mk2 (w := w) i178 h182.rd
      refine x_end ?_
      refine x_tn ?_
      refine ⟨.inl l, ?_⟩
      refine b_e 5 rfl (by kernel_rfl) ?_
      obtain ⟨z199, c200, hR⟩ := bnd_some hR
      refine o_gives F rfl Tryz.call25 rfl (impl_SearchFor_c z199 c200 _ h174 h198 hx2) (fun a vv w l ⟨v201, rb202, hv207, h204, i205, i206⟩ F => ?_)
      subst vv
      have d209 := Dj.new h17.m h204.ownR (Nat.le_refl _)
      have d210 := Dj.new h26.m h204.ownR (Nat.le_refl _)
      have d211 := Dj.new h142.rd.m h204.ownR (Nat.le_refl _)
      have d212 := Dj.new h165.rd.m h204.ownR (Nat.le_refl _)
      have d213 := Dj.new (inm1 K12) h204.ownR (Nat.le_refl _)
      have d214 := Dj.new (inm1 K21) h204.ownR (Nat.le_refl _)
      have d215 := Dj.app' (Dj.new h142.memR h204.ownR (Nat.le_refl _)).symm (Dj.nil' _)
      have d216 := Dj.app' (Dj.new h165.memR h204.ownR (Nat.le_refl _)).symm (Dj.nil' _)
      have d217 := Dj.app' (Dj.new h182.memR h204.ownR (Nat.le_refl _)).symm (Dj.nil' _)
      have d218 := Dj.app' (Dj.new h182.mem h204.ownR (Nat.le_refl _)).symm (Dj.nil' _)
      replace h204 := h204.base hB.size
      replace hB := Below.through l hB
      replace h17 := h17.go l
      replace h26 := h26.go l
      replace h142 := h142.go l
      replace h165 := h165.go l
      replace K12 := K12.thru l
      replace K21 := K21.thru l
      refine x_end ?_
      refine x_tn ?_
      refine ⟨.inl l, ?_⟩
      refine b_q0 6 rfl (by kernel_rfl) (by kernel_rfl) (by kernel_rfl) ?_
      refine v_val F rfl (fun w l => r_move F rfl) (fun a F => ?_)
      refine b_q 7 (by kernel_rfl) rfl (by kernel_rfl) (by kernel_rfl) (by kernel_rfl) (by kernel_rfl) ?_
      refine v_val F rfl (fun w l => r_extract F rfl rfl) (fun a F => ?_)
      refine b_q 8 (by kernel_rfl) rfl (by kernel_rfl) (by kernel_rfl) (by kernel_rfl) (by kernel_rfl) ?_
      refine v_val F rfl (fun w l => r_extract F rfl rfl) (fun a F => ?_)
      refine b_q 9 (by kernel_rfl) rfl (by kernel_rfl) (by kernel_rfl) (by kernel_rfl) (by kernel_rfl) ?_
      refine v_val F rfl (fun w l => r_extract F rfl rfl) (fun a F => ?_)
      refine b_q0 10 rfl (by kernel_rfl) (by kernel_rfl) (by kernel_rfl) ?_
      refine v_val F rfl (fun w l => r_assign F rfl) (fun a F => ?_)
      refine b_q0 11 rfl (by kernel_rfl) (by kernel_rfl) (by kernel_rfl) ?_
      refine v_val F rfl (fun w l => r_assign F rfl) (fun a F => ?_)
      refine b_q0 12 rfl (by kernel_rfl) (by kernel_rfl) (by kernel_rfl) ?_
      refine v_val F rfl (fun w l => r_assign F rfl) (fun a F => ?_)
      refine b_end (by kernel_rfl) ?_
      refine x_tn ?_
      refine x_seq ?_
      refine x_reg ?_
      refine o_move F rfl rfl (fun a F => ?_)
      refine x_end ?_
      refine x_tn ?_
      refine x_blk ?_
      refine x_seq ?_
      refine x_reg ?_
      refine o_eql F rfl rfl rfl (fun a F => ?_)
      refine o_assign F rfl rfl (fun a F => ?_)
      refine x_end ?_
      refine x_tn ?_
      refine x_if F rfl (fun hb219 => ?_) (fun hb219 => ?_)
      ·
       replace hR := ifT hb219 hR
       refine x_seq ?_
       refine x_reg ?_
       refine o_assign F rfl rfl (fun a F => ?_)
       refine o_assign F rfl rfl (fun a F => ?_)
       refine x_end ?_
       refine x_tn ?_
       refine x_ret ?_
       refine x_br ?_
       refine x_br ?_
       refine x_tr ?_
       refine x_tr ?_
       replace hR := l_ret hR hn137
       refine x_br ?_
       refine x_tr ?_
       replace hR := j_ret hR hk135
       refine x_tr ?_
       refine x_res2 F rfl (rv_t F rfl) (rv_t F rfl) ?_
       obtain rfl := Option.some.inj hR
       exact ⟨_, rfl, hB, (.slice none 0 0), [], rfl, Row.nil 1 RInt 2 _ _, (show I64 (7) by decide)⟩
      ·
       replace hR := ifF hb219 hR
       refine x_seq ?_
       refine x_reg ?_
       refine o_eql F rfl rfl rfl (fun a F => ?_)
       refine o_assign F rfl rfl (fun a F => ?_)
       refine x_end ?_
       refine x_tn ?_
       refine x_if F rfl (fun hb220 => ?_) (fun hb220 => ?_)
       ·
        replace hR := ifT hb220 hR
        refine x_reg ?_
        refine o_move F rfl rfl (fun a F => ?_)
        refine o_assign F rfl rfl (fun a F => ?_)
        refine x_end ?_
        refine x_bn ?_
        refine x_bn ?_
        refine x_tn ?_
        refine x_reg ?_
        refine o_inc F rfl rfl rfl ink154 (fun a F => ?_)
        refine o_move F rfl rfl (fun a F => ?_)
        refine x_end ?_
        refine x_tn ?_
        replace hR := l_go hR hn137
        exact ⟨_, Nat.lt_succ_self _, k154 + 1, rest155, z160, v162, rb163, ⟨hd158.1, hd158.2.2⟩, rfl, hR, F.sub (sc rfl (sc rfl (sc rfl (sc rfl (sc rfl (sc rfl sn)))))), hB, h165, h17, h26, K12, K21, d168, d169, (Dj.app' (Dj.symm d171) (Dj.nil' _)), (Dj.app' (Dj.symm d172) (Dj.nil' _))⟩
       ·
        replace hR := ifF hb220 hR
        refine x_skip ?_
        refine x_bn ?_
        refine x_bn ?_
        refine x_tn ?_
        refine x_reg ?_
        refine o_inc F rfl rfl rfl ink154 (fun a F => ?_)
        refine o_move F rfl rfl (fun a F => ?_)
        refine x_end ?_
        refine x_tn ?_
        replace hR := l_go hR hn137
        exact ⟨_, Nat.lt_succ_self _, k154 + 1, rest155, s140, v143, rb144, ⟨hd158.1, hd158.2.2⟩, rfl, hR, F.sub (sc rfl (sc rfl (sc rfl (sc rfl (sc rfl (sc rfl sn)))))), hB, h142, h17, h26, K12, K21, d145, d146, d147, d148⟩
   ·
    intro a w ⟨s149, v152, rb153, ho136, F, hB, h151⟩
    subst ho136
    have hR := then_nx hk135
    refine x_tn ?_
    refine x_seq ?_
    refine x_reg ?_
    refine o_move F rfl rfl (fun a F => ?_)
    refine o_assign F rfl rfl (fun a F => ?_)
    refine o_assign F rfl rfl (fun a F => ?_)
    refine x_end ?_
    refine x_tn ?_
    refine x_ret ?_
    refine x_res2 F rfl (rv_t F rfl) (rv_t F rfl) ?_
    obtain rfl := Option.some.inj hR
    exact ⟨_, rfl, hB, v152, rb153, rfl, h151, (show I64 (0) by decide)⟩
  ·
   replace hR := ifF hb48 hR
   refine x_seq ?_
   refine x_reg ?_
   refine o_move F rfl rfl (fun a F => ?_)
   refine o_assign F rfl rfl (fun a F => ?_)
   refine o_assign F rfl rfl (fun a F => ?_)
   refine x_end ?_
   refine x_tn ?_
   refine x_ret ?_
   refine x_br ?_
   refine x_tr ?_
   refine x_res2 F rfl (rv_t F rfl) (rv_t F rfl) ?_
   obtain rfl := Option.some.inj hR
   exact ⟨_, rfl, hB, (.slice none 0 0), [], rfl, Row.nil 1 RInt 2 _ _, i40⟩
end Go.Proofs.YtfepllddlmhjiaaGreat
