/-
  Functions of the program as plain functions, and that they compute them. Printed by sg.py.
-/
import Derived.Test.YtmgdjaiaekhkgaaGreatS5
namespace Go.Proofs.YtmgdjaiaekhkgaaGreat
set_option linter.unusedVariables false
set_option linter.unusedSimpArgs false
set_option maxRecDepth 100000
open Go.RowKit
def spec_l05Holds (x0 : Template) (x1 : Con) (x2 : List Int) : Option Bool :=
 bnd (ix x0.rels x1.rel) fun z18 =>
 bnd (spec_l01At x2 x1.scope) fun z26 =>
 bnd (spec_l01Has z18 z26) fun z31 =>
 some z31
set_option maxHeartbeats 1000000 in
theorem spec_l05Holds_c {B : Nat → Prop} {x0 : Template} {x1 : Con} {x2 : List Int} (r : Bool) (hR : spec_l05Holds x0 x1 x2 = some r) {v0 : Value} {v1 : Value} {v2 : Value} (w0 : World) (hN : ∀ c, B c → c < w0.heap.size) (A0 : Bo B w0 (Pt 2 RTemplate) v0 x0) (A1 : Bo B w0 (Pt 2 RCon) v1 x1) (A2 : Bo B w0 (Sl 1 RInt) v2 x2) : Calls Tryz.prog 134 #[v0, v1, v2] w0 (Says (.bool r) w0) := by
 unfold spec_l05Holds at hR
 refine x_enter (L := [(0, v0), (1, v1), (2, v2)]) Tryz.func134 rfl rfl rfl (sc rfl (sc rfl (sc rfl sn))) (fun a F => ?_)
 have H := Sep.start hN
 refine x_seq (x_reg (o_assign F rfl rfl fun a F => x_end (x_tn (x_seq ?_))))
 obtain ⟨z18, c19, hR⟩ := bnd_some hR
 obtain ⟨z26, c27, hR⟩ := bnd_some hR
 obtain ⟨z31, c32, hR⟩ := bnd_some hR
 refine xD H (by kernel_rfl) fun w H => b_q0 0 rfl (by kernel_rfl) (by kernel_rfl) (by kernel_rfl) (v_val F rfl (fun w l => r_move F rfl) fun a F => b_q 1 (by kernel_rfl) rfl (by kernel_rfl) (by kernel_rfl) (by kernel_rfl) (by kernel_rfl) (vN F rfl rfl A0 fun a F => b_q 2 (by kernel_rfl) rfl (by kernel_rfl) (by kernel_rfl) (by kernel_rfl) (by kernel_rfl) (vF (s' := 1) fa33_1 F rfl rfl A0 RTemplate.f1 fun a p33 h34 F => b_q 3 (by kernel_rfl) rfl (by kernel_rfl) (by kernel_rfl) (by kernel_rfl) (by kernel_rfl) (vlS Tryz.isAgg31 F rfl rfl H.v h34 fun a v35 h36 F => b_q0 4 rfl (by kernel_rfl) (by kernel_rfl) (by kernel_rfl) (v_val F rfl (fun w l => r_move F rfl) (fun a F => ?_))))))
 refine b_q 5 (by kernel_rfl) rfl (by kernel_rfl) (by kernel_rfl) (by kernel_rfl) (by kernel_rfl) (vN F rfl rfl A1 fun a F => b_q 6 (by kernel_rfl) rfl (by kernel_rfl) (by kernel_rfl) (by kernel_rfl) (by kernel_rfl) (vF (s' := 1) fa165_0 F rfl rfl A1 RCon.f0 fun a p37 h38 F => b_q 7 (by kernel_rfl) rfl (by kernel_rfl) (by kernel_rfl) (by kernel_rfl) (by kernel_rfl) (vlI Tryz.isAgg2 F rfl rfl H.v h38 fun a i39 F => b_q 8 (by kernel_rfl) rfl (by kernel_rfl) (by kernel_rfl) (by kernel_rfl) (by kernel_rfl) (vI Tryz.underlying31 Tryz.sizeOf84 F rfl rfl rfl h36 c19 fun a p40 h41 F => b_q0 9 rfl (by kernel_rfl) (by kernel_rfl) (by kernel_rfl) (v_val F rfl (fun w l => r_move F rfl) fun a F => b_q0 10 rfl (by kernel_rfl) (by kernel_rfl) (by kernel_rfl) ?_)))))
 refine v_val F rfl (fun w l => r_move F rfl) fun a F => b_q 11 (by kernel_rfl) rfl (by kernel_rfl) (by kernel_rfl) (by kernel_rfl) (by kernel_rfl) (vN F rfl rfl A1 fun a F => b_q 12 (by kernel_rfl) rfl (by kernel_rfl) (by kernel_rfl) (by kernel_rfl) (by kernel_rfl) (vF (s' := 1) fa165_1 F rfl rfl A1 RCon.f1 fun a p42 h43 F => b_q 13 (by kernel_rfl) rfl (by kernel_rfl) (by kernel_rfl) (by kernel_rfl) (by kernel_rfl) (vlS Tryz.isAgg42 F rfl rfl H.v h43 fun a v44 h45 F => xE H 14 rfl (by kernel_rfl) (oG F rfl Tryz.call74 rfl (spec_l01At_c z26 c27 _ aA (H.a A2) (H.a h45)) (fun a vv w ⟨v46, hv48, S⟩ F => ?_)))))
 subst vv
 have H := H.r1 S n0
 refine x_end (x_tn (⟨⟨_, H⟩, ?_⟩))
 refine xE H 15 rfl (by kernel_rfl) (oK F rfl Tryz.call55 rfl H (spec_l01Has_c z31 c32 _ aA (H.a h41) (H.l 0 rfl)) fun a w H F => x_end (x_tn (⟨⟨_, H⟩, ?_⟩)))
 refine b_q0 16 rfl (by kernel_rfl) (by kernel_rfl) (by kernel_rfl) (v_val F rfl (fun w l => r_assign F rfl) fun a F => b_end (by kernel_rfl) (x_tn (x_ret (x_res1 F rfl (rv_t F rfl) ?_))))
 obtain rfl := Option.some.inj hR
 exact ⟨rfl, H.bl⟩

def spec_l05Failing (x0 : Template) (x1 : Instance) (x2 : List Int) : Option Int :=
 thn (σ := Unit) (
  forL (σ := Unit) (ρ := Int) (fun (k36 : Nat) (x38 : Con) (s : Unit) =>
    match s with
    | _ =>
    bnd (spec_l05Holds x0 x38 x2) fun z53 =>
    if (!z53) then
     some (.ret ((k36 : Int)))
    else
     some (.go ())) x1.cons 0 ()) fun _ =>
 some ((-1))
set_option maxHeartbeats 1000000 in
theorem spec_l05Failing_c {B : Nat → Prop} {x0 : Template} {x1 : Instance} {x2 : List Int} (r : Int) (hR : spec_l05Failing x0 x1 x2 = some r) {v0 : Value} {v1 : Value} {v2 : Value} (w0 : World) (hN : ∀ c, B c → c < w0.heap.size) (A0 : Bo B w0 (Pt 2 RTemplate) v0 x0) (A1 : Bo B w0 (Pt 2 RInstance) v1 x1) (A2 : Bo B w0 (Sl 1 RInt) v2 x2) : Calls Tryz.prog 73 #[v0, v1, v2] w0 (SaysI r w0) := by
 unfold spec_l05Failing at hR
 refine x_enter (L := [(0, v0), (1, v1), (2, v2)]) Tryz.func73 rfl rfl rfl (sc rfl (sc rfl (sc rfl sn))) (fun a F => ?_)
 have H := Sep.start hN
 refine x_seq (x_reg (o_assign F rfl rfl fun a F => x_end (x_tn (x_seq (x_seq (x_reg (o_assign F rfl rfl fun a F => x_end (x_tn ?_))))))))
 obtain ⟨o30, hR, hk31⟩ := thn_some hR
 refine x_cutQ (fun a w => o30 = .nx () ∧ Sk a 28 [] ∧ Sep [] B w0 w []) ?_ ?_
 ·
  refine x_blk ?_
  obtain ⟨fl34, hf35, hR⟩ := forL_gen hR
  refine x_loop (fun g a w => ∃ (k36 : Nat) (rest37 : List Con), (k36 ≤ x1.cons.length ∧ x1.cons.drop k36 = rest37) ∧ rest37.length = g ∧ forL fl34 rest37 k36 () = some o30 ∧ Sk a 28 [(7, .int .i64 (k36 : Int)), (0, v0), (1, v1), (2, v2)] ∧ Sep [] B w0 w []) x1.cons.length ?_ ?_
  ·
   exact ⟨0, x1.cons, ⟨Nat.zero_le _, rfl⟩, rfl, hR, F.sub (sc rfl (sc rfl (sc rfl (sc rfl sn)))), H⟩
  intro g39 a w ⟨k36, rest37, hd40, hg41, hR, F, H⟩
  cases rest37 with
  | nil =>
   replace hR := forL_nil hR
   have hkk36 := drop_nil hd40.1 hd40.2
   have hlk36 := dec_no hkk36
   refine x_seq (x_seq (x_reg (o_move F rfl rfl fun a F => o_move F rfl rfl fun a F => oN F rfl rfl A1 fun a F => oF (s' := 1) fa58_1 F rfl rfl A1 RInstance.f1 fun a p56 h57 F => olS Tryz.isAgg56 F rfl rfl H.sm h57 fun a v58 h59 F => oL Tryz.underlying56 F rfl rfl h59 fun a i60 F => o_lss F rfl rfl rfl fun a F => x_end ?_)))
   refine x_tn (x_ifF F rfl hlk36 (x_exit (x_te (x_te (x_be (x_tn ?_))))))
   exact ⟨(Option.some.inj hR).symm, F.sub sn, H⟩
  | cons x38 rest37 =>
   subst hg41
   replace hd40 := drop_cons hd40.2
   have hxk36 := ix_nat hd40.2.1
   obtain ⟨ck36, hR, hn33⟩ := forL_cons hR
   rw [hf35] at hR
   have hlk36 := dec_yes hd40.1
   refine x_seq (x_seq (x_reg (o_move F rfl rfl fun a F => o_move F rfl rfl fun a F => oN F rfl rfl A1 fun a F => oF (s' := 1) fa58_1 F rfl rfl A1 RInstance.f1 fun a p42 h43 F => olS Tryz.isAgg56 F rfl rfl H.sm h43 fun a v44 h45 F => oL Tryz.underlying56 F rfl rfl h45 fun a i46 F => o_lss F rfl rfl rfl fun a F => x_end ?_)))
   refine x_tn (x_ifT F rfl hlk36 (x_skip (x_tn (x_seq ?_))))
   have ikk36 := k64 (Nat.le_of_lt hd40.1) i46
   have ink36 := inc64 hd40.1 i46
   refine x_blk (x_seq (x_reg (o_move F rfl rfl fun a F => o_move F rfl rfl fun a F => oN F rfl rfl A1 fun a F => oF (s' := 1) fa58_1 F rfl rfl A1 RInstance.f1 fun a p47 h48 F => olS Tryz.isAgg56 F rfl rfl H.sm h48 fun a v49 h50 F => o_move F rfl rfl fun a F => oI Tryz.underlying56 Tryz.sizeOf165 F rfl rfl rfl h50 hxk36 fun a p51 h52 F => o_move F rfl rfl (fun a F => ?_))))
   obtain ⟨z53, c54, hR⟩ := bnd_some hR
   refine oK F rfl Tryz.call134 rfl H (spec_l05Holds_c z53 c54 _ aA (H.a A0) (H.a h52) (H.a A2)) fun a w H F => o_not F rfl rfl fun a F => x_end (x_tn (x_if F rfl (fun hb55 => ?_) (fun hb55 => ?_)))
   ·
    replace hR := ifT hb55 hR
    refine x_seq (x_reg (o_move F rfl rfl fun a F => o_assign F rfl rfl fun a F => x_end (x_tn (x_ret (x_br (x_tr (x_tr ?_)))))))
    replace hR := l_ret hR hn33
    refine x_br (x_tr ?_)
    replace hR := j_ret hR hk31
    refine x_tr (x_res1 F rfl (rv_t F rfl) ?_)
    obtain rfl := Option.some.inj hR
    exact ⟨⟨rfl, H.bl⟩, ikk36⟩
   replace hR := ifF hb55 hR
   refine x_skip (x_bn (x_tn (x_reg (o_move F rfl rfl fun a F => o_inc F rfl rfl rfl ink36 fun a F => o_assign F rfl rfl fun a F => x_end (x_tn ?_)))))
   replace hR := l_go hR hn33
   exact ⟨_, Nat.lt_succ_self _, k36 + 1, rest37, ⟨hd40.1, hd40.2.2⟩, rfl, hR, F.sub (sc rfl (sc rfl (sc rfl (sc rfl sn)))), H⟩
 intro a w ⟨ho32, F, H⟩
 subst ho32
 have hR := then_nx hk31
 refine x_tn (x_seq (x_reg (o_assign F rfl rfl fun a F => x_end (x_tn (x_ret (x_res1 F rfl (rv_t F rfl) ?_))))))
 obtain rfl := Option.some.inj hR
 exact ⟨⟨rfl, H.bl⟩, (show I64 (-1) by decide)⟩

def spec_CarryBack (N : Nat) (x0 : Template) (x1 : Template) (x2 : Gadgets) (x3 : Instance) (x4 : List Int) : Option ((List Int) × Int) :=
 bnd (spec_l09Asked N (Template.mk x0.size x0.rels) (Template.mk x1.size x1.rels) (Gadgets.mk x2.formulas) (Instance.mk x3.vars x3.cons)) fun z26 =>
 if (!z26) then
  some ([], 1)
 else
  bnd (spec_l09Apply (Gadgets.mk x2.formulas) (Instance.mk x3.vars x3.cons)) fun z31 =>
  if (z31.2.2 != 0) then
   some ([], z31.2.2)
  else
   bnd (spec_l01Tuple x1.size z31.1.vars x4) fun z44 =>
   if (!z44) then
    some ([], 2)
   else
    bnd (spec_l05Failing (Template.mk x1.size x1.rels) (Instance.mk z31.1.vars z31.1.cons) x4) fun z49 =>
    if (decide (0 ≤ z49)) then
     some ([], 4)
    else
     bnd (spec_l01At x4 z31.2.1) fun z54 =>
     some (z54, 0)
set_option maxHeartbeats 1000000 in
theorem spec_CarryBack_c {B : Nat → Prop} {N : Nat} {x0 : Template} {x1 : Template} {x2 : Gadgets} {x3 : Instance} {x4 : List Int} (r : (List Int) × Int) (hR : spec_CarryBack N x0 x1 x2 x3 x4 = some r) {v0 : Value} {v1 : Value} {v2 : Value} {v3 : Value} {v4 : Value} (w0 : World) (hN : ∀ c, B c → c < w0.heap.size) (A0 : Bo B w0 (Agg 2 RTemplate) v0 x0) (A1 : Bo B w0 (Agg 2 RTemplate) v1 x1) (A2 : Bo B w0 (Agg 1 RGadgets) v2 x2) (A3 : Bo B w0 (Agg 2 RInstance) v3 x3) (A4 : Bo B w0 (Sl 1 RInt) v4 x4) : Calls Tryz.prog 35 #[v0, v1, v2, v3, v4] w0 (Gv (fun v w' => ∃ (v1' : Value), v = .tuple #[v1', .int .i64 r.2] ∧ Sep [] B w0 w' [rl 1 RInt 2 v1' r.1] ∧ I64 r.2)) := by
 unfold spec_CarryBack at hR
 refine x_enter (L := [(0, v0), (1, v1), (2, v2), (3, v3), (4, v4)]) Tryz.func35 rfl rfl rfl (sc rfl (sc rfl (sc rfl (sc rfl (sc rfl sn))))) (fun a F => ?_)
 have H := Sep.start hN
 refine x_seq (x_reg ?_)
 obtain ⟨v12, rfl, i11, h13⟩ := RTemplate.o A0
 refine oX F rfl rfl rfl H (fun a w b14 H F => ?_)
 obtain ⟨v16, rfl, i15, h17⟩ := RTemplate.o A1
 refine oX F rfl rfl rfl H (fun a w b18 H F => ?_)
 obtain ⟨v19, rfl, h20⟩ := RGadgets.o A2
 refine oX F rfl rfl rfl H (fun a w b21 H F => ?_)
 obtain ⟨v23, rfl, i22, h24⟩ := RInstance.o A3
 refine oX F rfl rfl rfl H fun a w b25 H F => o_assign F rfl rfl fun a F => o_assign F rfl rfl fun a F => x_end (x_tn (x_seq (x_seq (x_reg ?_))))
 obtain ⟨z26, c27, hR⟩ := bnd_some hR
 refine oK F rfl Tryz.call64 rfl H (spec_l09Asked_c z26 c27 _ aA (RTemplate.b (H.g 3 rfl).bk i11 (H.a h13)) (RTemplate.b (H.g 2 rfl).bk i15 (H.a h17)) (RGadgets.b (H.g 1 rfl).bk (H.a h20)) (RInstance.b (H.g 0 rfl).bk i22 (H.a h24))) fun a w H F => o_not F rfl rfl fun a F => x_end (x_tn (x_if F rfl (fun hb28 => ?_) (fun hb28 => ?_)))
 ·
  replace hR := ifT hb28 hR
  refine x_seq (x_reg (oR0 (R := RInt) Tryz.underlying42 Tryz.sizeOf2 F rfl H fun a w v29 H F => o_assign F rfl rfl fun a F => o_assign F rfl rfl fun a F => x_end (x_tn (x_ret (x_tr (x_res2 F rfl (rv_t F rfl) (rv_t F rfl) ?_))))))
  obtain rfl := Option.some.inj hR
  exact ⟨_, rfl, v29, rfl, (H.s [0] rfl rfl), (show I64 (1) by decide)⟩
 replace hR := ifF hb28 hR
 refine x_skip (x_tn (x_seq (x_reg ?_)))
 obtain ⟨z31, c32, hR⟩ := bnd_some hR
 refine oG F rfl Tryz.call65 rfl (spec_l09Apply_c z31 c32 _ aA (RGadgets.b (H.g 1 rfl).bk (H.a h20)) (RInstance.b (H.g 0 rfl).bk i22 (H.a h24))) (fun a vv w ⟨v34, v36, hv39, S, i33, i38⟩ F => ?_)
 subst vv
 have H := H.rk S ⟨n0, ⟨n0, trivial⟩⟩ rfl
 refine o_move F rfl rfl fun a F => o_extract F rfl rfl rfl fun a F => o_extract F rfl rfl rfl fun a F => o_extract F rfl rfl rfl fun a F => oA Tryz.zeroValue58 F rfl rfl H fun a w b40 H F => oWA (vs := [.int .i64 z31.1.vars, v34]) Tryz.sizeOf58 F rfl rfl rfl H (oc rfl (oc (H.l 1 rfl).one on)) rfl rfl fun w H => o_assign F rfl rfl fun a F => o_assign F rfl rfl fun a F => x_end (x_tn (x_seq ?_))
 refine x_seq (x_reg (o_move F rfl rfl fun a F => o_neq F rfl rfl rfl fun a F => x_end (x_tn (x_if F rfl (fun hb41 => ?_) (fun hb41 => ?_)))))
 ·
  replace hR := ifT hb41 hR
  refine x_seq (x_reg (oR0 (R := RInt) Tryz.underlying42 Tryz.sizeOf2 F rfl H fun a w v42 H F => o_move F rfl rfl fun a F => o_assign F rfl rfl fun a F => o_assign F rfl rfl fun a F => x_end (x_tn (x_ret (x_tr (x_res2 F rfl (rv_t F rfl) (rv_t F rfl) ?_))))))
  obtain rfl := Option.some.inj hR
  exact ⟨_, rfl, v42, rfl, (H.s [0] rfl rfl), i38⟩
 replace hR := ifF hb41 hR
 refine x_skip (x_tn (x_seq (x_seq (x_reg (o_bfield fa33_0 F rfl rfl rfl fun a F => oB Tryz.isAgg2 F rfl rfl (H.b 5 rfl) rfl fun a F => o_bfield fa58_0 F rfl rfl rfl fun a F => oB Tryz.isAgg2 F rfl rfl (H.b 0 rfl) rfl fun a F => o_move F rfl rfl (fun a F => ?_))))))
 obtain ⟨z44, c45, hR⟩ := bnd_some hR
 refine oK F rfl Tryz.call72 rfl H (spec_l01Tuple_c z44 c45 _ aA i15 i33 (H.a A4)) fun a w H F => o_not F rfl rfl fun a F => x_end (x_tn (x_if F rfl (fun hb46 => ?_) (fun hb46 => ?_)))
 ·
  replace hR := ifT hb46 hR
  refine x_seq (x_reg (oR0 (R := RInt) Tryz.underlying42 Tryz.sizeOf2 F rfl H fun a w v47 H F => o_assign F rfl rfl fun a F => o_assign F rfl rfl fun a F => x_end (x_tn (x_ret (x_tr (x_res2 F rfl (rv_t F rfl) (rv_t F rfl) ?_))))))
  obtain rfl := Option.some.inj hR
  exact ⟨_, rfl, v47, rfl, (H.s [0] rfl rfl), (show I64 (2) by decide)⟩
 replace hR := ifF hb46 hR
 refine x_skip (x_tn (x_seq (x_seq (x_reg (o_move F rfl rfl (fun a F => ?_))))))
 obtain ⟨z49, c50, hR⟩ := bnd_some hR
 refine oKI F rfl Tryz.call73 rfl H (spec_l05Failing_c z49 c50 _ aA (RTemplate.b (H.g 5 rfl).bk i15 (H.a h17)) (RInstance.b (H.g 0 rfl).bk i33 (H.l 1 rfl)) (H.a A4)) fun a w H iz49 F => o_geq F rfl rfl rfl fun a F => x_end (x_tn (x_if F rfl (fun hb51 => ?_) (fun hb51 => ?_)))
 ·
  replace hR := ifT hb51 hR
  refine x_seq (x_reg (oR0 (R := RInt) Tryz.underlying42 Tryz.sizeOf2 F rfl H fun a w v52 H F => o_assign F rfl rfl fun a F => o_assign F rfl rfl fun a F => x_end (x_tn (x_ret (x_tr (x_res2 F rfl (rv_t F rfl) (rv_t F rfl) ?_))))))
  obtain rfl := Option.some.inj hR
  exact ⟨_, rfl, v52, rfl, (H.s [0] rfl rfl), (show I64 (4) by decide)⟩
 replace hR := ifF hb51 hR
 refine x_skip (x_tn (x_seq (x_reg (o_move F rfl rfl fun a F => o_move F rfl rfl (fun a F => ?_)))))
 obtain ⟨z54, c55, hR⟩ := bnd_some hR
 refine oG F rfl Tryz.call74 rfl (spec_l01At_c z54 c55 _ aA (H.a A4) (H.l 2 rfl)) (fun a vv w ⟨v56, hv58, S⟩ F => ?_)
 subst vv
 have H := H.r1 S n0
 refine o_assign F rfl rfl fun a F => o_assign F rfl rfl fun a F => x_end (x_tn (x_ret (x_res2 F rfl (rv_t F rfl) (rv_t F rfl) ?_)))
 obtain rfl := Option.some.inj hR
 exact ⟨_, rfl, v56, rfl, (H.s [0] rfl rfl), (show I64 (0) by decide)⟩

def impl_failing_1 (N : Nat) (x0 : Con) (y0 : Template) (y1 : (List Int)) : Option Bool :=
 bnd (ix y0.rels x0.rel) fun z19 =>
 bnd (impl_chosen y1 x0.scope) fun z27 =>
 bnd (impl_Rel_has N z19 z27) fun z32 =>
 some ((!z32))
set_option maxHeartbeats 1000000 in
theorem impl_failing_1_c {B : Nat → Prop} {N : Nat} {x0 : Con} {y0 : Template} {y1 : (List Int)} (r : Bool) (hR : impl_failing_1 N x0 y0 y1 = some r) {v0 : Value} {v1 : Value} {v2 : Value} (w0 : World) (hN : ∀ c, B c → c < w0.heap.size) (A0 : Bo B w0 (Agg 2 RCon) v0 x0) (A1 : Bo B w0 (Pt 2 RTemplate) v1 y0) (A2 : Bo B w0 (Pt 1 (RSl 1 RInt)) v2 y1) : Calls Tryz.prog 139 #[v0, v1, v2] w0 (Says (.bool r) w0) := by
 unfold impl_failing_1 at hR
 refine x_enter (L := [(0, v0), (1, v1), (2, v2)]) Tryz.func139 rfl rfl rfl (sc rfl (sc rfl (sc rfl sn))) (fun a F => ?_)
 have H := Sep.start hN
 refine x_seq (x_reg ?_)
 obtain ⟨v12, rfl, i11, h13⟩ := RCon.o A0
 refine oX F rfl rfl rfl H fun a w b14 H F => o_assign F rfl rfl fun a F => x_end (x_tn (x_seq ?_))
 obtain ⟨z19, c20, hR⟩ := bnd_some hR
 obtain ⟨z27, c28, hR⟩ := bnd_some hR
 obtain ⟨z32, c33, hR⟩ := bnd_some hR
 obtain ⟨w39, rfl⟩ : ∃ x, x = w := ⟨_, rfl⟩
 obtain ⟨X34, N35, g36, e37, H, th38⟩ := H.fz
 have K40 := g36.bk
 refine xD H (by kernel_rfl) fun w H => b_q 0 (by kernel_rfl) rfl (by kernel_rfl) (by kernel_rfl) (by kernel_rfl) (by kernel_rfl) (vF (s' := 1) fa33_1 F rfl rfl (e37 A1) RTemplate.f1 fun a p41 h42 F => b_q 1 (by kernel_rfl) rfl (by kernel_rfl) (by kernel_rfl) (by kernel_rfl) (by kernel_rfl) (vlS Tryz.isAgg31 F rfl rfl H.v h42 fun a v43 h44 F => b_q 2 (by kernel_rfl) rfl (by kernel_rfl) (by kernel_rfl) (by kernel_rfl) (by kernel_rfl) (v_val F rfl (fun w l => r_bfield fa165_0 F rfl rfl) fun a F => b_q 3 (by kernel_rfl) rfl (by kernel_rfl) (by kernel_rfl) (by kernel_rfl) (by kernel_rfl) (vB Tryz.isAgg2 F rfl rfl (K40.v H.sm) rfl fun a F => b_q 4 (by kernel_rfl) rfl (by kernel_rfl) (by kernel_rfl) (by kernel_rfl) (by kernel_rfl) (vI Tryz.underlying31 Tryz.sizeOf84 F rfl rfl rfl h44 c20 (fun a p45 h46 F => ?_))))))
 refine b_q 5 (by kernel_rfl) rfl (by kernel_rfl) (by kernel_rfl) (by kernel_rfl) (by kernel_rfl) (vlA Tryz.isAgg84 Tryz.sizeOf84 F rfl rfl H.v h46 fun a v47 h48 F => b_q 6 (by kernel_rfl) rfl (by kernel_rfl) (by kernel_rfl) (by kernel_rfl) (by kernel_rfl) (vlS Tryz.isAgg42 F rfl rfl H.v (e37 A2) fun a v49 h50 F => b_q 7 (by kernel_rfl) rfl (by kernel_rfl) (by kernel_rfl) (by kernel_rfl) (by kernel_rfl) (v_val F rfl (fun w l => r_bfield fa165_1 F rfl rfl) fun a F => b_q 8 (by kernel_rfl) rfl (by kernel_rfl) (by kernel_rfl) (by kernel_rfl) (by kernel_rfl) (vB Tryz.isAgg42 F rfl rfl (K40.v H.sm) rfl fun a F => xE H 9 rfl (by kernel_rfl) (oG F rfl Tryz.call77 rfl (impl_chosen_c z27 c28 _ aA (H.a h50) (H.a (e37 h13))) (fun a vv w ⟨v51, hv53, S⟩ F => ?_))))))
 subst vv
 have H := H.r1 S n0
 refine x_end (x_tn (⟨⟨_, H⟩, ?_⟩))
 refine xE H 10 rfl (by kernel_rfl) (oK F rfl Tryz.call105 rfl H (impl_Rel_has_c z32 c33 _ aA (H.a h48) (H.l 0 rfl)) fun a w H F => x_end (x_tn (⟨⟨_, H⟩, ?_⟩)))
 refine b_q0 11 rfl (by kernel_rfl) (by kernel_rfl) (by kernel_rfl) (v_val F rfl (fun w l => r_not F rfl) fun a F => b_q0 12 rfl (by kernel_rfl) (by kernel_rfl) (by kernel_rfl) (v_val F rfl (fun w l => r_assign F rfl) fun a F => b_end (by kernel_rfl) (x_tn (x_ret ?_))))
 have H := (th38.1 H (Ns.all ⟨n0, trivial⟩))
 refine x_res1 F rfl (rv_t F rfl) ?_
 obtain rfl := Option.some.inj hR
 exact ⟨rfl, H.bl⟩

def impl_failing (N : Nat) (x0 : Template) (x1 : Instance) (x2 : List Int) : Option Int :=
 bnd (slices_IndexFunc_s_Con_Con x1.cons (fun a0 => impl_failing_1 N a0 (Template.mk x0.size x0.rels) x2)) fun z20 =>
 some z20
set_option maxHeartbeats 1000000 in
theorem impl_failing_c {B : Nat → Prop} {N : Nat} {x0 : Template} {x1 : Instance} {x2 : List Int} (r : Int) (hR : impl_failing N x0 x1 x2 = some r) {v0 : Value} {v1 : Value} {v2 : Value} (w0 : World) (hN : ∀ c, B c → c < w0.heap.size) (A0 : Bo B w0 (Agg 2 RTemplate) v0 x0) (A1 : Bo B w0 (Agg 2 RInstance) v1 x1) (A2 : Bo B w0 (Sl 1 RInt) v2 x2) : Calls Tryz.prog 76 #[v0, v1, v2] w0 (SaysI r w0) := by
 unfold impl_failing at hR
 refine x_enter (L := [(0, v0), (1, v1), (2, v2)]) Tryz.func76 rfl rfl rfl (sc rfl (sc rfl (sc rfl sn))) (fun a F => ?_)
 have H := Sep.start hN
 refine x_seq (x_reg ?_)
 obtain ⟨v12, rfl, i11, h13⟩ := RTemplate.o A0
 refine oX F rfl rfl rfl H (fun a w b14 H F => ?_)
 obtain ⟨v16, rfl, i15, h17⟩ := RInstance.o A1
 refine oX F rfl rfl rfl H fun a w b18 H F => oX F rfl rfl (one_cells (H.a A2).one) H fun a w b19 H F => o_assign F rfl rfl fun a F => x_end (x_tn (x_seq (x_reg (o_bfield fa58_1 F rfl rfl rfl fun a F => oB Tryz.isAgg56 F rfl rfl (H.b 1 rfl) rfl fun a F => o_func F rfl rfl rfl (fun a F => ?_)))))
 obtain ⟨z20, c21, hR⟩ := bnd_some hR
 refine oKI F rfl Tryz.call138 rfl H (slices_IndexFunc_s_Con_Con_c z20 c21 _ aA (H.a h17) Tryz.call139 (fun a0 r h W l1 u0 f0 => impl_failing_1_c r h W aA f0 ((RTemplate.b (H.g 2 rfl).bk i11 (H.a h13)).w l1) ((c1S (H.g 0 rfl).bk (H.a A2)).w l1))) fun a w H iz20 F => o_assign F rfl rfl fun a F => x_end (x_tn (x_ret (x_res1 F rfl (rv_t F rfl) ?_)))
 obtain rfl := Option.some.inj hR
 exact ⟨⟨rfl, H.bl⟩, iz20⟩

def impl_CarryBack (N : Nat) (x0 : Template) (x1 : Template) (x2 : Gadgets) (x3 : Instance) (x4 : List Int) : Option ((List Int) × Int) :=
 bnd (impl_applyFault N (Template.mk x0.size x0.rels) (Template.mk x1.size x1.rels) (Gadgets.mk x2.formulas) (Instance.mk x3.vars x3.cons)) fun z26 =>
 if (z26 != 0) then
  some ([], z26)
 else
  bnd (impl_applied (Gadgets.mk x2.formulas) (Instance.mk x3.vars x3.cons)) fun z30 =>
  if (z30.2.2 != 0) then
   some ([], z30.2.2)
  else
   bnd (impl_areValues x1.size x4 z30.1.vars) fun z42 =>
   if (!z42) then
    some ([], 2)
   else
    bnd (impl_failing N (Template.mk x1.size x1.rels) (Instance.mk z30.1.vars z30.1.cons) x4) fun z46 =>
    if (decide (0 ≤ z46)) then
     some ([], 4)
    else
     bnd (impl_chosen x4 z30.2.1) fun z50 =>
     some (z50, 0)
set_option maxHeartbeats 1000000 in
theorem impl_CarryBack_c {B : Nat → Prop} {N : Nat} {x0 : Template} {x1 : Template} {x2 : Gadgets} {x3 : Instance} {x4 : List Int} (r : (List Int) × Int) (hR : impl_CarryBack N x0 x1 x2 x3 x4 = some r) {v0 : Value} {v1 : Value} {v2 : Value} {v3 : Value} {v4 : Value} (w0 : World) (hN : ∀ c, B c → c < w0.heap.size) (A0 : Bo B w0 (Agg 2 RTemplate) v0 x0) (A1 : Bo B w0 (Agg 2 RTemplate) v1 x1) (A2 : Bo B w0 (Agg 1 RGadgets) v2 x2) (A3 : Bo B w0 (Agg 2 RInstance) v3 x3) (A4 : Bo B w0 (Sl 1 RInt) v4 x4) : Calls Tryz.prog 37 #[v0, v1, v2, v3, v4] w0 (Gv (fun v w' => ∃ (v1' : Value), v = .tuple #[v1', .int .i64 r.2] ∧ Sep [] B w0 w' [rl 1 RInt 2 v1' r.1] ∧ I64 r.2)) := by
 unfold impl_CarryBack at hR
 refine x_enter (L := [(0, v0), (1, v1), (2, v2), (3, v3), (4, v4)]) Tryz.func37 rfl rfl rfl (sc rfl (sc rfl (sc rfl (sc rfl (sc rfl sn))))) (fun a F => ?_)
 have H := Sep.start hN
 refine x_seq (x_reg ?_)
 obtain ⟨v12, rfl, i11, h13⟩ := RTemplate.o A0
 refine oX F rfl rfl rfl H (fun a w b14 H F => ?_)
 obtain ⟨v16, rfl, i15, h17⟩ := RTemplate.o A1
 refine oX F rfl rfl rfl H (fun a w b18 H F => ?_)
 obtain ⟨v19, rfl, h20⟩ := RGadgets.o A2
 refine oX F rfl rfl rfl H (fun a w b21 H F => ?_)
 obtain ⟨v23, rfl, i22, h24⟩ := RInstance.o A3
 refine oX F rfl rfl rfl H fun a w b25 H F => o_assign F rfl rfl fun a F => o_assign F rfl rfl fun a F => x_end (x_tn (x_seq (x_seq (x_reg (oBA Tryz.isAgg33 Tryz.sizeOf33 F rfl rfl (H.b 3 rfl) rfl rfl fun a F => oBA Tryz.isAgg33 Tryz.sizeOf33 F rfl rfl (H.b 2 rfl) rfl rfl fun a F => oBA Tryz.isAgg37 Tryz.sizeOf37 F rfl rfl (H.b 1 rfl) rfl rfl (fun a F => ?_))))))
 refine oBA Tryz.isAgg58 Tryz.sizeOf58 F rfl rfl (H.b 0 rfl) rfl rfl (fun a F => ?_)
 obtain ⟨z26, c27, hR⟩ := bnd_some hR
 refine oKI F rfl Tryz.call67 rfl H (impl_applyFault_c z26 c27 _ aA (RTemplate.m i11 (H.a h13)) (RTemplate.m i15 (H.a h17)) (RGadgets.m (H.a h20)) (RInstance.m i22 (H.a h24))) fun a w H iz26 F => o_assign F rfl rfl fun a F => x_end (x_tn (x_seq (x_reg (o_move F rfl rfl fun a F => o_neq F rfl rfl rfl fun a F => x_end (x_tn (x_if F rfl (fun hb28 => ?_) (fun hb28 => ?_)))))))
 ·
  replace hR := ifT hb28 hR
  refine x_seq (x_reg (o_move F rfl rfl fun a F => o_assign F rfl rfl fun a F => o_assign F rfl rfl fun a F => x_end (x_tn (x_ret (x_tr (x_res2 F rfl (rv_t F rfl) (rv_t F rfl) ?_))))))
  obtain rfl := Option.some.inj hR
  exact ⟨_, rfl, (.slice none 0 0), rfl, ((H.nl 1 RInt 2).s [0] rfl rfl), iz26⟩
 replace hR := ifF hb28 hR
 refine x_skip (x_tn (x_seq (x_reg (oBA Tryz.isAgg37 Tryz.sizeOf37 F rfl rfl (H.b 1 rfl) rfl rfl fun a F => oBA Tryz.isAgg58 Tryz.sizeOf58 F rfl rfl (H.b 0 rfl) rfl rfl (fun a F => ?_)))))
 obtain ⟨z30, c31, hR⟩ := bnd_some hR
 refine oG F rfl Tryz.call68 rfl (impl_applied_c z30 c31 _ aA (RGadgets.m (H.a h20)) (RInstance.m i22 (H.a h24))) (fun a vv w ⟨v33, v35, hv38, S, i32, i37⟩ F => ?_)
 subst vv
 have H := H.rk S ⟨n0, ⟨n0, trivial⟩⟩ rfl
 refine o_move F rfl rfl fun a F => o_extract F rfl rfl rfl fun a F => o_extract F rfl rfl rfl fun a F => o_extract F rfl rfl rfl fun a F => oA Tryz.zeroValue58 F rfl rfl H fun a w b39 H F => oWA (vs := [.int .i64 z30.1.vars, v33]) Tryz.sizeOf58 F rfl rfl rfl H (oc rfl (oc (H.l 1 rfl).one on)) rfl rfl fun w H => o_assign F rfl rfl fun a F => o_assign F rfl rfl fun a F => x_end (x_tn (x_seq ?_))
 refine x_blk (x_seq (x_reg (o_move F rfl rfl fun a F => o_neq F rfl rfl rfl fun a F => o_assign F rfl rfl fun a F => x_end (x_tn (x_if F rfl (fun hb40 => ?_) (fun hb40 => ?_))))))
 ·
  replace hR := ifT hb40 hR
  refine x_seq (x_reg (o_move F rfl rfl fun a F => o_assign F rfl rfl fun a F => o_assign F rfl rfl fun a F => x_end (x_tn (x_ret (x_br (x_tr (x_res2 F rfl (rv_t F rfl) (rv_t F rfl) ?_)))))))
  obtain rfl := Option.some.inj hR
  exact ⟨_, rfl, (.slice none 0 0), rfl, ((H.nl 1 RInt 2).s [0] rfl rfl), i37⟩
 replace hR := ifF hb40 hR
 refine x_seq (x_reg (o_bfield fa33_0 F rfl rfl rfl fun a F => oB Tryz.isAgg2 F rfl rfl (H.b 5 rfl) rfl fun a F => o_move F rfl rfl fun a F => o_bfield fa58_0 F rfl rfl rfl fun a F => oB Tryz.isAgg2 F rfl rfl (H.b 0 rfl) rfl (fun a F => ?_)))
 obtain ⟨z42, c43, hR⟩ := bnd_some hR
 refine oK F rfl Tryz.call75 rfl H (impl_areValues_c z42 c43 _ aA i15 (H.a A4) i32) fun a w H F => o_not F rfl rfl fun a F => o_assign F rfl rfl fun a F => x_end (x_tn (x_if F rfl (fun hb44 => ?_) (fun hb44 => ?_)))
 ·
  replace hR := ifT hb44 hR
  refine x_seq (x_reg (o_assign F rfl rfl fun a F => o_assign F rfl rfl fun a F => x_end (x_tn (x_ret (x_br (x_tr (x_res2 F rfl (rv_t F rfl) (rv_t F rfl) ?_)))))))
  obtain rfl := Option.some.inj hR
  exact ⟨_, rfl, (.slice none 0 0), rfl, ((H.nl 1 RInt 2).s [0] rfl rfl), (show I64 (2) by decide)⟩
 replace hR := ifF hb44 hR
 refine x_seq (x_reg (oBA Tryz.isAgg33 Tryz.sizeOf33 F rfl rfl (H.b 5 rfl) rfl rfl fun a F => oBA Tryz.isAgg58 Tryz.sizeOf58 F rfl rfl (H.b 0 rfl) rfl rfl fun a F => o_move F rfl rfl (fun a F => ?_)))
 obtain ⟨z46, c47, hR⟩ := bnd_some hR
 refine oKI F rfl Tryz.call76 rfl H (impl_failing_c z46 c47 _ aA (RTemplate.m i15 (H.a h17)) (RInstance.m i32 (H.l 1 rfl)) (H.a A4)) fun a w H iz46 F => o_geq F rfl rfl rfl fun a F => o_assign F rfl rfl fun a F => x_end (x_tn (x_if F rfl (fun hb48 => ?_) (fun hb48 => ?_)))
 ·
  replace hR := ifT hb48 hR
  refine x_seq (x_reg (o_assign F rfl rfl fun a F => o_assign F rfl rfl fun a F => x_end (x_tn (x_ret (x_br (x_tr (x_res2 F rfl (rv_t F rfl) (rv_t F rfl) ?_)))))))
  obtain rfl := Option.some.inj hR
  exact ⟨_, rfl, (.slice none 0 0), rfl, ((H.nl 1 RInt 2).s [0] rfl rfl), (show I64 (4) by decide)⟩
 replace hR := ifF hb48 hR
 refine x_skip (x_bn (x_tn (x_seq (x_reg (o_move F rfl rfl fun a F => o_move F rfl rfl (fun a F => ?_))))))
 obtain ⟨z50, c51, hR⟩ := bnd_some hR
 refine oG F rfl Tryz.call77 rfl (impl_chosen_c z50 c51 _ aA (H.a A4) (H.l 2 rfl)) (fun a vv w ⟨v52, hv54, S⟩ F => ?_)
 subst vv
 have H := H.r1 S n0
 refine o_assign F rfl rfl fun a F => o_assign F rfl rfl fun a F => x_end (x_tn (x_ret (x_res2 F rfl (rv_t F rfl) (rv_t F rfl) ?_)))
 obtain rfl := Option.some.inj hR
 exact ⟨_, rfl, v52, rfl, (H.s [0] rfl rfl), (show I64 (0) by decide)⟩
end Go.Proofs.YtmgdjaiaekhkgaaGreat
