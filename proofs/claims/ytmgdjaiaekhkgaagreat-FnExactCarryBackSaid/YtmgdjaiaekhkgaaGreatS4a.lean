/-
  Functions of the program as plain functions, and that they compute them. Printed by sg.py.
-/
import Derived.Test.YtmgdjaiaekhkgaaGreatS3
namespace Go.Proofs.YtmgdjaiaekhkgaaGreat
set_option linter.unusedVariables false
set_option linter.unusedSimpArgs false
set_option maxRecDepth 100000
open Go.RowKit
def spec_l01Mapped (x0 : List Int) (x1 : List Int) : Option (List Int) :=
 thn (σ := (List Int)) (
  forL (σ := (List Int)) (ρ := (List Int)) (fun (k44 : Nat) (x46 : Int) (s38 : (List Int)) =>
   bnd (ix x1 x46) fun z54 =>
   bnd (ap s38 ([z54])) fun z61 =>
   some (.go z61)) x0 0 []) fun s41 =>
 some s41
set_option maxHeartbeats 1000000 in
theorem spec_l01Mapped_c {B : Nat → Prop} {x0 : List Int} {x1 : List Int} (r : (List Int)) (hR : spec_l01Mapped x0 x1 = some r) {v0 : Value} {v1 : Value} (w0 : World) (hN : ∀ c, B c → c < w0.heap.size) (A0 : Bo B w0 (Sl 1 RInt) v0 x0) (A1 : Bo B w0 (Sl 1 RInt) v1 x1) : Calls Tryz.prog 126 #[v0, v1] w0 (Gv (fun v w' => ∃ (v1' : Value), v = v1' ∧ Sep [] B w0 w' [rl 1 RInt 2 v1' r])) := by
 unfold spec_l01Mapped at hR
 refine x_enter (L := [(0, v0), (1, v1)]) Tryz.func126 rfl rfl rfl (sc rfl (sc rfl sn)) (fun a F => ?_)
 have H := Sep.start hN
 refine x_seq (x_reg (o_assign F rfl rfl fun a F => x_end (x_tn (x_seq (x_reg (oR0 (R := RInt) Tryz.underlying42 Tryz.sizeOf2 F rfl H fun a w v11 H F => o_assign F rfl rfl fun a F => x_end (x_tn ?_)))))))
 refine x_seq (x_seq (x_reg (o_assign F rfl rfl fun a F => x_end (x_tn ?_))))
 obtain ⟨o32, hR, hk33⟩ := thn_some hR
 refine x_cutQ (fun a w => ∃ (s41 : List Int) (v43 : Value), o32 = .nx s41 ∧ Sk a 25 [(5, v43)] ∧ Sep [] B w0 w [rl 1 RInt 2 v43 s41]) ?_ ?_
 ·
  refine x_blk ?_
  obtain ⟨fl36, hf37, hR⟩ := forL_gen hR
  refine x_loop (fun g a w => ∃ (k44 : Nat) (rest45 : List Int) (s38 : List Int) (v40 : Value), (k44 ≤ x0.length ∧ x0.drop k44 = rest45) ∧ rest45.length = g ∧ forL fl36 rest45 k44 s38 = some o32 ∧ Sk a 25 [(6, .int .i64 (k44 : Int)), (0, v0), (1, v1), (5, v40)] ∧ Sep [] B w0 w [rl 1 RInt 2 v40 s38]) x0.length ?_ ?_
  ·
   exact ⟨0, x0, [], v11, ⟨Nat.zero_le _, rfl⟩, rfl, hR, F.sub (sc rfl (sc rfl (sc rfl (sc rfl sn)))), H⟩
  intro g47 a w ⟨k44, rest45, s38, v40, hd48, hg49, hR, F, H⟩
  cases rest45 with
  | nil =>
   replace hR := forL_nil hR
   have hkk44 := drop_nil hd48.1 hd48.2
   have hlk44 := dec_no hkk44
   refine x_seq (x_seq (x_reg (o_move F rfl rfl fun a F => o_move F rfl rfl fun a F => oL Tryz.underlying42 F rfl rfl A0 fun a i65 F => o_lss F rfl rfl rfl fun a F => x_end (x_tn (x_ifF F rfl hlk44 (x_exit ?_))))))
   refine x_te (x_te (x_be (x_tn ?_)))
   exact ⟨s38, v40, (Option.some.inj hR).symm, F.sub (sc rfl sn), H⟩
  | cons x46 rest45 =>
   subst hg49
   replace hd48 := drop_cons hd48.2
   have hxk44 := ix_nat hd48.2.1
   obtain ⟨ck44, hR, hn35⟩ := forL_cons hR
   rw [hf37] at hR
   have hlk44 := dec_yes hd48.1
   refine x_seq (x_seq (x_reg (o_move F rfl rfl fun a F => o_move F rfl rfl fun a F => oL Tryz.underlying42 F rfl rfl A0 fun a i50 F => o_lss F rfl rfl rfl fun a F => x_end (x_tn (x_ifT F rfl hlk44 (x_skip ?_))))))
   refine x_tn (x_seq ?_)
   have ikk44 := k64 (Nat.le_of_lt hd48.1) i50
   have ink44 := inc64 hd48.1 i50
   refine x_blk (x_reg (o_move F rfl rfl fun a F => o_move F rfl rfl fun a F => o_move F rfl rfl fun a F => o_move F rfl rfl fun a F => oI Tryz.underlying42 Tryz.sizeOf2 F rfl rfl rfl A0 hxk44 fun a p51 h52 F => olI Tryz.isAgg2 F rfl rfl H.sm h52 (fun a i53 F => ?_)))
   obtain ⟨z54, c55, hR⟩ := bnd_some hR
   refine oI Tryz.underlying42 Tryz.sizeOf2 F rfl rfl rfl A1 c55 fun a p56 h57 F => olI Tryz.isAgg2 F rfl rfl H.sm h57 fun a i58 F => oR1z (R := RInt) (y := z54) Tryz.underlying42 Tryz.sizeOf2 Tryz.zeroValue2 rfl rfl F rfl rfl H (Eo.int i58) (fun a w v59 H F => ?_)
   obtain ⟨z61, c62, hR⟩ := bnd_some hR
   refine oPL (sz := 1) (R := RInt) (z := (.int .i64 0)) (bytes := 8) Tryz.underlying42 (by kernel_rfl) rfl rfl F rfl rfl rfl (H.s [1, 0] rfl rfl) c62 fun a w v63 H F => o_assign F rfl rfl fun a F => x_end (x_bn (x_tn (x_reg (o_move F rfl rfl fun a F => o_inc F rfl rfl rfl ink44 fun a F => o_assign F rfl rfl fun a F => x_end (x_tn ?_)))))
   replace hR := l_go hR hn35
   exact ⟨_, Nat.lt_succ_self _, k44 + 1, rest45, z61, v63, ⟨hd48.1, hd48.2.2⟩, rfl, hR, F.sub (sc rfl (sc rfl (sc rfl (sc rfl sn)))), H⟩
 intro a w ⟨s41, v43, ho34, F, H⟩
 subst ho34
 have hR := then_nx hk33
 refine x_tn (x_seq (x_reg (o_move F rfl rfl fun a F => o_assign F rfl rfl fun a F => x_end (x_tn (x_ret (x_res1 F rfl (rv_t F rfl) ?_))))))
 obtain rfl := Option.some.inj hR
 exact ⟨_, rfl, v43, rfl, H⟩

def spec_l03Moved (x0 : List Atom) (x1 : List Int) : Option (List Atom) :=
 thn (σ := (List Atom)) (
  forL (σ := (List Atom)) (ρ := (List Atom)) (fun (k79 : Nat) (x81 : Atom) (s73 : (List Atom)) =>
   bnd (spec_l01Mapped x81.args x1) fun z97 =>
   bnd (ap s73 ([(Atom.mk x81.rel z97)])) fun z105 =>
   some (.go z105)) x0 0 []) fun s76 =>
 some s76
set_option maxHeartbeats 1000000 in
theorem spec_l03Moved_c {B : Nat → Prop} {x0 : List Atom} {x1 : List Int} (r : (List Atom)) (hR : spec_l03Moved x0 x1 = some r) {v0 : Value} {v1 : Value} (w0 : World) (hN : ∀ c, B c → c < w0.heap.size) (A0 : Bo B w0 (Sl 2 RAtom) v0 x0) (A1 : Bo B w0 (Sl 1 RInt) v1 x1) : Calls Tryz.prog 116 #[v0, v1] w0 (Gv (fun v w' => ∃ (v1' : Value), v = v1' ∧ Sep [] B w0 w' [rl 2 RAtom 158 v1' r])) := by
 unfold spec_l03Moved at hR
 refine x_enter (L := [(0, v0), (1, v1)]) Tryz.func116 rfl rfl rfl (sc rfl (sc rfl sn)) (fun a F => ?_)
 have H := Sep.start hN
 refine x_seq (x_reg (o_assign F rfl rfl fun a F => x_end (x_tn (x_seq (x_reg (oR0 (R := RAtom) Tryz.underlying93 Tryz.sizeOf158 F rfl H fun a w v11 H F => o_assign F rfl rfl fun a F => x_end (x_tn ?_)))))))
 refine x_seq (x_seq (x_reg (o_assign F rfl rfl fun a F => x_end (x_tn ?_))))
 obtain ⟨o67, hR, hk68⟩ := thn_some hR
 refine x_cutQ (fun a w => ∃ (s76 : List Atom) (v78 : Value), o67 = .nx s76 ∧ Sk a 31 [(5, v78)] ∧ Sep [] B w0 w [rl 2 RAtom 158 v78 s76]) ?_ ?_
 ·
  refine x_blk ?_
  obtain ⟨fl71, hf72, hR⟩ := forL_gen hR
  refine x_loop (fun g a w => ∃ (k79 : Nat) (rest80 : List Atom) (s73 : List Atom) (v75 : Value), (k79 ≤ x0.length ∧ x0.drop k79 = rest80) ∧ rest80.length = g ∧ forL fl71 rest80 k79 s73 = some o67 ∧ Sk a 31 [(6, .int .i64 (k79 : Int)), (0, v0), (1, v1), (5, v75)] ∧ Sep [] B w0 w [rl 2 RAtom 158 v75 s73]) x0.length ?_ ?_
  ·
   exact ⟨0, x0, [], v11, ⟨Nat.zero_le _, rfl⟩, rfl, hR, F.sub (sc rfl (sc rfl (sc rfl (sc rfl sn)))), H⟩
  intro g82 a w ⟨k79, rest80, s73, v75, hd83, hg84, hR, F, H⟩
  cases rest80 with
  | nil =>
   replace hR := forL_nil hR
   have hkk79 := drop_nil hd83.1 hd83.2
   have hlk79 := dec_no hkk79
   refine x_seq (x_seq (x_reg (o_move F rfl rfl fun a F => o_move F rfl rfl fun a F => oL Tryz.underlying93 F rfl rfl A0 fun a i135 F => o_lss F rfl rfl rfl fun a F => x_end (x_tn (x_ifF F rfl hlk79 (x_exit ?_))))))
   refine x_te (x_te (x_be (x_tn ?_)))
   exact ⟨s73, v75, (Option.some.inj hR).symm, F.sub (sc rfl sn), H⟩
  | cons x81 rest80 =>
   subst hg84
   replace hd83 := drop_cons hd83.2
   have hxk79 := ix_nat hd83.2.1
   obtain ⟨ck79, hR, hn70⟩ := forL_cons hR
   rw [hf72] at hR
   have hlk79 := dec_yes hd83.1
   refine x_seq (x_seq (x_reg (o_move F rfl rfl fun a F => o_move F rfl rfl fun a F => oL Tryz.underlying93 F rfl rfl A0 fun a i85 F => o_lss F rfl rfl rfl fun a F => x_end (x_tn (x_ifT F rfl hlk79 (x_skip ?_))))))
   refine x_tn (x_seq ?_)
   have ikk79 := k64 (Nat.le_of_lt hd83.1) i85
   have ink79 := inc64 hd83.1 i85
   refine x_blk ?_
   obtain ⟨z97, c98, hR⟩ := bnd_some hR
   obtain ⟨z105, c106, hR⟩ := bnd_some hR
   refine xD H (by kernel_rfl) fun w H => b_q0 0 rfl (by kernel_rfl) (by kernel_rfl) (by kernel_rfl) (v_val F rfl (fun w l => r_move F rfl) fun a F => b_q0 1 rfl (by kernel_rfl) (by kernel_rfl) (by kernel_rfl) (v_val F rfl (fun w l => r_move F rfl) fun a F => b_q0 2 rfl (by kernel_rfl) (by kernel_rfl) (by kernel_rfl) (v_val F rfl (fun w l => r_move F rfl) fun a F => b_q 3 (by kernel_rfl) rfl (by kernel_rfl) (by kernel_rfl) (by kernel_rfl) (by kernel_rfl) (vI Tryz.underlying93 Tryz.sizeOf158 F rfl rfl rfl A0 hxk79 fun a p116 h117 F => b_q 4 (by kernel_rfl) rfl (by kernel_rfl) (by kernel_rfl) (by kernel_rfl) (by kernel_rfl) (vF (s' := 1) fa158_0 F rfl rfl h117 RAtom.f0 (fun a p118 h119 F => ?_))))))
   refine b_q 5 (by kernel_rfl) rfl (by kernel_rfl) (by kernel_rfl) (by kernel_rfl) (by kernel_rfl) (vlI Tryz.isAgg2 F rfl rfl H.v h119 fun a i120 F => b_q0 6 rfl (by kernel_rfl) (by kernel_rfl) (by kernel_rfl) (v_val F rfl (fun w l => r_move F rfl) fun a F => b_q0 7 rfl (by kernel_rfl) (by kernel_rfl) (by kernel_rfl) (v_val F rfl (fun w l => r_move F rfl) fun a F => b_q 8 (by kernel_rfl) rfl (by kernel_rfl) (by kernel_rfl) (by kernel_rfl) (by kernel_rfl) (vI Tryz.underlying93 Tryz.sizeOf158 F rfl rfl rfl A0 hxk79 fun a p121 h122 F => b_q 9 (by kernel_rfl) rfl (by kernel_rfl) (by kernel_rfl) (by kernel_rfl) (by kernel_rfl) (vF (s' := 1) fa158_1 F rfl rfl h122 RAtom.f1 fun a p123 h124 F => b_q 10 (by kernel_rfl) rfl (by kernel_rfl) (by kernel_rfl) (by kernel_rfl) (by kernel_rfl) ?_)))))
   refine vlS Tryz.isAgg42 F rfl rfl H.v h124 fun a v125 h126 F => b_q0 11 rfl (by kernel_rfl) (by kernel_rfl) (by kernel_rfl) (v_val F rfl (fun w l => r_move F rfl) fun a F => xE H 12 rfl (by kernel_rfl) (oG F rfl Tryz.call126 rfl (spec_l01Mapped_c z97 c98 _ aA (H.a h126) (H.a A1)) (fun a vv w ⟨v127, hv129, S⟩ F => ?_)))
   subst vv
   have H := H.r1 S n0
   refine x_end (x_tn (⟨⟨_, H⟩, ?_⟩))
   refine xE H 13 rfl (by kernel_rfl) (o_build Tryz.underlying158 Tryz.zeroValue158 (fun w => by simp [Tryz.sizeOf2, Tryz.sizeOf42]; rfl) F rfl rfl rfl rfl rfl (oc rfl (oc (H.l 0 rfl).one on)) rfl rfl fun a F => x_end (x_tn (⟨⟨_, H⟩, ?_⟩)))
   refine xE H 14 rfl (by kernel_rfl) ?_
   have H := (RAtom.w i120 H)
   refine oR1L (R := RAtom) (y := (Atom.mk x81.rel z97)) Tryz.underlying93 Tryz.sizeOf158 Tryz.zeroValue158 rfl rfl F rfl rfl H El.agg fun a w v130 H F => x_end (x_tn (⟨⟨_, H⟩, ?_⟩))
   refine xE H 15 rfl (by kernel_rfl) (oPL (sz := 2) (R := RAtom) (z := (.agg #[.int .i64 0, (.slice none 0 0)])) (bytes := 32) Tryz.underlying93 (by kernel_rfl) rfl rfl F rfl rfl rfl (H.s [1, 0] rfl rfl) c106 fun a w v133 H F => x_end (x_tn (⟨⟨_, H⟩, ?_⟩)))
   refine b_q0 16 rfl (by kernel_rfl) (by kernel_rfl) (by kernel_rfl) (v_val F rfl (fun w l => r_assign F rfl) fun a F => b_end (by kernel_rfl) (x_bn (x_tn (x_reg (o_move F rfl rfl fun a F => o_inc F rfl rfl rfl ink79 fun a F => o_assign F rfl rfl fun a F => x_end (x_tn ?_))))))
   replace hR := l_go hR hn70
   exact ⟨_, Nat.lt_succ_self _, k79 + 1, rest80, z105, v133, ⟨hd83.1, hd83.2.2⟩, rfl, hR, F.sub (sc rfl (sc rfl (sc rfl (sc rfl sn)))), H⟩
 intro a w ⟨s76, v78, ho69, F, H⟩
 subst ho69
 have hR := then_nx hk68
 refine x_tn (x_seq (x_reg (o_move F rfl rfl fun a F => o_assign F rfl rfl fun a F => x_end (x_tn (x_ret (x_res1 F rfl (rv_t F rfl) ?_))))))
 obtain rfl := Option.some.inj hR
 exact ⟨_, rfl, v78, rfl, H⟩

def impl_renamed (x0 : List Atom) (x1 : Int → Option Int) : Option (List Atom) :=
 thn (σ := (List Atom)) (
  forL (σ := (List Atom)) (ρ := (List Atom)) (fun (k136 : Nat) (x138 : Atom) (s130 : (List Atom)) =>
   thn (σ := (List Int)) (
    forL (σ := (List Int)) (ρ := (Ctl ((List Atom)) (List Atom))) (fun (k213 : Nat) (x215 : Int) (s207 : (List Int)) =>
     bnd (x1 x215) fun z222 =>
     bnd (ap s207 ([z222])) fun z226 =>
     some (.go z226)) x138.args 0 []) fun s210 =>
   bnd (ap s130 ([(Atom.mk x138.rel s210)])) fun z245 =>
   some (.go z245)) x0 0 []) fun s133 =>
 some s133
set_option maxHeartbeats 1000000 in
theorem impl_renamed_c {B : Nat → Prop} {x0 : List Atom} {x1 : Int → Option Int} (r : (List Atom)) (hR : impl_renamed x0 x1 = some r) {v0 : Value} {g1 : FuncId} {lb1 : List Value} (w0 : World) (hN : ∀ c, B c → c < w0.heap.size) (A0 : Bo B w0 (Sl 2 RAtom) v0 x0) (hg1 : ∀ args w, (callFunc g1 args).run Tryz.prog w = .ok (.enter g1 args) w) (hp1 : ∀ (a0 : Int) (r : Int), x1 a0 = some r → ∀ W, Below w0.heap.size w0 W → I64 a0 → Calls Tryz.prog g1 ([.int .i64 a0] ++ lb1 : List Value).toArray W (SaysI r W)) : Calls Tryz.prog 117 #[v0, .func (.func g1) #[] lb1.toArray] w0 (Gv (fun v w' => ∃ (v1' : Value), v = v1' ∧ Sep [] B w0 w' [rl 2 RAtom 158 v1' r])) := by
 unfold impl_renamed at hR
 refine x_enter (L := [(0, v0), (1, .func (.func g1) #[] lb1.toArray)]) Tryz.func117 rfl rfl rfl (sc rfl (sc rfl sn)) (fun a F => ?_)
 have H := Sep.start hN
 refine x_seq (x_reg (o_assign F rfl rfl fun a F => x_end (x_tn (x_seq (x_reg (oR0 (R := RAtom) Tryz.underlying93 Tryz.sizeOf158 F rfl H fun a w v11 H F => o_assign F rfl rfl fun a F => x_end (x_tn ?_)))))))
 refine x_seq (x_seq (x_reg (o_move F rfl rfl fun a F => oL Tryz.underlying93 F rfl rfl A0 fun a i13 F => o_move F rfl rfl fun a F => x_end (x_tn ?_))))
 obtain ⟨o124, hR, hk125⟩ := thn_some hR
 refine x_cutQ (fun a w => ∃ (s133 : List Atom) (v135 : Value), o124 = .nx s133 ∧ Sk a 43 [(5, v135)] ∧ Sep [] B w0 w [rl 2 RAtom 158 v135 s133]) ?_ ?_
 ·
  refine x_blk ?_
  obtain ⟨fl128, hf129, hR⟩ := forL_gen hR
  refine x_loop (fun g a w => ∃ (k136 : Nat) (rest137 : List Atom) (s130 : List Atom) (v132 : Value), (k136 ≤ x0.length ∧ x0.drop k136 = rest137) ∧ rest137.length = g ∧ forL fl128 rest137 k136 s130 = some o124 ∧ Sk a 43 [(14, .int .i64 (k136 : Int)), (1, .func (.func g1) #[] lb1.toArray), (5, v132), (12, v0), (13, .int .i64 (x0.length : Int))] ∧ Sep [] B w0 w [rl 2 RAtom 158 v132 s130]) x0.length ?_ ?_
  ·
   exact ⟨0, x0, [], v11, ⟨Nat.zero_le _, rfl⟩, rfl, hR, F.sub (sc rfl (sc rfl (sc rfl (sc rfl (sc rfl sn))))), H⟩
  intro g139 a w ⟨k136, rest137, s130, v132, hd140, hg141, hR, F, H⟩
  cases rest137 with
  | nil =>
   replace hR := forL_nil hR
   have hkk136 := drop_nil hd140.1 hd140.2
   have hlk136 := dec_no hkk136
   refine x_seq (x_reg (o_lss F rfl rfl rfl fun a F => x_end (x_tn (x_seq (x_ifF F rfl hlk136 (x_exit (x_te (x_te (x_be ?_)))))))))
   refine x_tn ?_
   exact ⟨s130, v132, (Option.some.inj hR).symm, F.sub (sc rfl sn), H⟩
  | cons x138 rest137 =>
   subst hg141
   replace hd140 := drop_cons hd140.2
   have hxk136 := ix_nat hd140.2.1
   obtain ⟨ck136, hR, hn127⟩ := forL_cons hR
   rw [hf129] at hR
   have hlk136 := dec_yes hd140.1
   refine x_seq (x_reg (o_lss F rfl rfl rfl fun a F => x_end (x_tn (x_seq (x_ifT F rfl hlk136 (x_skip (x_tn (x_seq ?_))))))))
   have ikk136 := k64 (Nat.le_of_lt hd140.1) i13
   have ink136 := inc64 hd140.1 i13
   refine x_blk (x_seq (x_reg (oI Tryz.underlying93 Tryz.sizeOf158 F rfl rfl rfl A0 hxk136 fun a p142 h143 F => olA Tryz.isAgg158 Tryz.sizeOf158 F rfl rfl H.sm h143 fun a v144 h145 F => oA Tryz.zeroValue158 F rfl rfl H (fun a w b146 H F => ?_))))
   obtain ⟨v148, rfl, i147, h149⟩ := RAtom.o h145
   refine oWA (vs := [.int .i64 x138.rel, v148]) Tryz.sizeOf158 F rfl rfl rfl H (oc rfl (oc (H.a h149).one on)) rfl rfl fun w H => x_end (x_tn (x_seq (x_reg (o_bfield fa158_0 F rfl rfl rfl fun a F => oB Tryz.isAgg2 F rfl rfl (H.b 0 rfl) rfl fun a F => o_build Tryz.underlying158 Tryz.zeroValue158 (fun w => by simp [Tryz.sizeOf2, Tryz.sizeOf42]; rfl) F rfl rfl rfl rfl rfl (oc rfl on) rfl rfl fun a F => oA Tryz.zeroValue158 F rfl rfl H fun a w b150 H F => oWA (vs := [.int .i64 x138.rel, (.slice none 0 0)]) Tryz.sizeOf158 F rfl rfl rfl H (oc rfl (oc rfl on)) rfl rfl fun w H => x_end ?_))))
   refine x_tn (x_seq (x_seq (x_reg (o_bfield fa158_1 F rfl rfl rfl fun a F => oB Tryz.isAgg42 F rfl rfl (H.b 1 rfl) rfl fun a F => oL Tryz.underlying42 F rfl rfl h149 fun a i151 F => o_move F rfl rfl fun a F => x_end (x_tn ?_)))))
   obtain ⟨o201, hR, hk202⟩ := thn_some hR
   refine x_cutQ (fun a w => ∃ (s210 : List Int) (v212 : Value), o201 = .nx s210 ∧ Sk a 43 [(1, .func (.func g1) #[] lb1.toArray), (5, v132), (8, .pointer (some ⟨b150, 0, none⟩)), (12, v0), (13, .int .i64 (x0.length : Int)), (14, .int .i64 (k136 : Int))] ∧ Sep [] B w0 w [rl 1 RInt 2 v212 s210, bx b150 [.int .i64 x138.rel, v212] 158, rl 2 RAtom 158 v132 s130]) ?_ ?_
   ·
    refine x_blk ?_
    obtain ⟨fl205, hf206, hR⟩ := forL_gen hR
    refine x_loop (fun g a w => ∃ (k213 : Nat) (rest214 : List Int) (s207 : List Int) (v209 : Value), (k213 ≤ x138.args.length ∧ x138.args.drop k213 = rest214) ∧ rest214.length = g ∧ forL fl205 rest214 k213 s207 = some o201 ∧ Sk a 43 [(24, .int .i64 (k213 : Int)), (1, .func (.func g1) #[] lb1.toArray), (5, v132), (8, .pointer (some ⟨b150, 0, none⟩)), (12, v0), (13, .int .i64 (x0.length : Int)), (14, .int .i64 (k136 : Int)), (22, v148), (23, .int .i64 (x138.args.length : Int))] ∧ Sep [] B w0 w [rl 1 RInt 2 v209 s207, bx b150 [.int .i64 x138.rel, v209] 158, rl 2 RAtom 158 v132 s130]) x138.args.length ?_ ?_
    ·
     exact ⟨0, x138.args, [], (.slice none 0 0), ⟨Nat.zero_le _, rfl⟩, rfl, hR, F.sub (sc rfl (sc rfl (sc rfl (sc rfl (sc rfl (sc rfl (sc rfl (sc rfl (sc rfl sn))))))))), ((H.nl 1 RInt 2).s [0, 1, 3] rfl rfl)⟩
    intro g216 a w ⟨k213, rest214, s207, v209, hd217, hg218, hR, F, H⟩
    cases rest214 with
    | nil =>
     replace hR := forL_nil hR
     have hkk213 := drop_nil hd217.1 hd217.2
     have hlk213 := dec_no hkk213
     refine x_seq (x_reg (o_lss F rfl rfl rfl fun a F => x_end (x_tn (x_seq (x_ifF F rfl hlk213 (x_exit (x_te (x_te (x_be ?_)))))))))
     refine x_tn ?_
     exact ⟨s207, v209, (Option.some.inj hR).symm, F.sub (sc rfl (sc rfl (sc rfl (sc rfl (sc rfl (sc rfl sn)))))), H⟩
    | cons x215 rest214 =>
     subst hg218
     replace hd217 := drop_cons hd217.2
     have hxk213 := ix_nat hd217.2.1
     obtain ⟨ck213, hR, hn204⟩ := forL_cons hR
     rw [hf206] at hR
     have hlk213 := dec_yes hd217.1
     refine x_seq (x_reg (o_lss F rfl rfl rfl fun a F => x_end (x_tn (x_seq (x_ifT F rfl hlk213 (x_skip (x_tn (x_seq ?_))))))))
     have ikk213 := k64 (Nat.le_of_lt hd217.1) i151
     have ink213 := inc64 hd217.1 i151
     refine x_blk (x_seq (x_reg (oI Tryz.underlying42 Tryz.sizeOf2 F rfl rfl rfl h149 hxk213 fun a p219 h220 F => olI Tryz.isAgg2 F rfl rfl H.sm h220 fun a i221 F => o_assign F rfl rfl fun a F => x_end (x_tn ?_))))
     obtain ⟨z222, c223, hR⟩ := bnd_some hR
     obtain ⟨z226, c227, hR⟩ := bnd_some hR
     refine xD H (by kernel_rfl) fun w H => dp (fun G => ∀ (v237 : Value) (a : Act) (w : World), Sk a 43 [(1, .func (.func g1) #[] lb1.toArray), (5, v132), (8, .pointer (some ⟨b150, 0, none⟩)), (12, v0), (13, .int .i64 (x0.length : Int)), (14, .int .i64 (k136 : Int)), (22, v148), (23, .int .i64 (x138.args.length : Int)), (24, .int .i64 (k213 : Int)), (29, v209), (33, v237)] → Sep [] B w0 w [rl 1 RInt 2 v237 ([z222]), rl 1 RInt 2 v209 s207, bx b150 [.int .i64 x138.rel, v209] 158, rl 2 RAtom 158 v132 s130] → ∀ ls, ls = #[true, true, true, true, true, true, false, false, false] → G 3 ls a w) ?_ (fun H238 => ?_)
     ·
      intro v237 a w F H ls hls
      subst hls
      refine xE H 6 rfl (by kernel_rfl) (oPL (sz := 1) (R := RInt) (z := (.int .i64 0)) (bytes := 8) Tryz.underlying42 (by kernel_rfl) rfl rfl F rfl rfl rfl (H.s [1, 0, 2, 3] rfl rfl) c227 fun a w v239 H F => x_end (x_tn (⟨⟨_, H⟩, ?_⟩)))
      refine b_q 7 (by kernel_rfl) rfl (by kernel_rfl) (by kernel_rfl) (by kernel_rfl) (by kernel_rfl) (v_val F rfl (fun w l => r_bfield fa158_1 F rfl rfl) fun a F => xE H 8 rfl (by kernel_rfl) (oW Tryz.sizeOf42 F rfl rfl rfl (H.s [1, 0, 2] rfl rfl) ((H.s [1, 0, 2] rfl rfl).l 1 rfl).one rfl rfl fun w H => x_end (x_tn (⟨⟨_, H⟩, ?_⟩))))
      refine b_end (by kernel_rfl) (x_bn (x_tn (x_reg (o_inc F rfl rfl rfl ink213 fun a F => o_move F rfl rfl fun a F => x_end (x_tn ?_)))))
      replace hR := l_go hR hn204
      exact ⟨_, Nat.lt_succ_self _, k213 + 1, rest214, z226, v239, ⟨hd217.1, hd217.2.2⟩, rfl, hR, F.sub (sc rfl (sc rfl (sc rfl (sc rfl (sc rfl (sc rfl (sc rfl (sc rfl (sc rfl sn))))))))), (H.s [1, 0, 2] rfl rfl)⟩
     refine dp (fun G => ∀ (a : Act) (w : World), Sk a 43 [(1, .func (.func g1) #[] lb1.toArray), (5, v132), (8, .pointer (some ⟨b150, 0, none⟩)), (12, v0), (13, .int .i64 (x0.length : Int)), (14, .int .i64 (k136 : Int)), (22, v148), (23, .int .i64 (x138.args.length : Int)), (24, .int .i64 (k213 : Int)), (29, v209), (32, .int .i64 z222)] → Sep [] B w0 w [rl 1 RInt 2 v209 s207, bx b150 [.int .i64 x138.rel, v209] 158, rl 2 RAtom 158 v132 s130] → I64 z222 → ∀ ls, ls = #[true, true, true, true, true, false, false, false, false] → G 4 ls a w) ?_ (fun H233 => ?_)
     ·
      intro a w F H i232 ls hls
      subst hls
      refine xE H 5 rfl (by kernel_rfl) (oR1z (R := RInt) (y := z222) Tryz.underlying42 Tryz.sizeOf2 Tryz.zeroValue2 rfl rfl F rfl rfl H (Eo.int i232) fun a w v234 H F => x_end (x_tn (⟨⟨_, H⟩, ?_⟩)))
      exact H238 v234 _ _ (F.sub (sc rfl (sc rfl (sc rfl (sc rfl (sc rfl (sc rfl (sc rfl (sc rfl (sc rfl (sc rfl (sc rfl sn)))))))))))) H _ (by kernel_rfl)
     refine b_q 0 (by kernel_rfl) rfl (by kernel_rfl) (by kernel_rfl) (by kernel_rfl) (by kernel_rfl) (v_val F rfl (fun w l => r_bfield fa158_1 F rfl rfl) fun a F => b_q0 2 rfl (by kernel_rfl) (by kernel_rfl) (by kernel_rfl) (v_val F rfl (fun w l => r_move F rfl) fun a F => b_q0 3 rfl (by kernel_rfl) (by kernel_rfl) (by kernel_rfl) (v_val F rfl (fun w l => r_move F rfl) fun a F => b_es [1, 4] (by kernel_rfl) (by simp) ⟨⟨_, rfl, ?_⟩, ⟨_, rfl, ?_⟩, trivial⟩)))
     ·
      refine xEs H (oB Tryz.isAgg42 F rfl rfl (H.b 1 rfl) rfl fun a F => x_end (x_tn (⟨⟨_, H⟩, ?_⟩)))
      refine xE H 4 rfl (by kernel_rfl) (oKIV F rfl rfl hg1 rfl H (hp1 _ z222 c223 _ H.bl i221) fun a w H iz222 F => x_end (x_tn (⟨⟨_, H⟩, ?_⟩)))
      exact H233 _ _ (F.sub (sc rfl (sc rfl (sc rfl (sc rfl (sc rfl (sc rfl (sc rfl (sc rfl (sc rfl (sc rfl (sc rfl sn)))))))))))) H iz222 _ (by kernel_rfl)
     refine xEs H (oKIV F rfl rfl hg1 rfl H (hp1 _ z222 c223 _ H.bl i221) fun a w H iz222 F => x_end (x_tn (⟨⟨_, H⟩, ?_⟩)))
     refine b_es [1, 5] (by kernel_rfl) (by simp) ⟨⟨_, rfl, ?_⟩, ⟨_, rfl, ?_⟩, trivial⟩
     ·
      refine xEs H (oB Tryz.isAgg42 F rfl rfl (H.b 1 rfl) rfl fun a F => x_end (x_tn (⟨⟨_, H⟩, ?_⟩)))
      exact H233 _ _ (F.sub (sc rfl (sc rfl (sc rfl (sc rfl (sc rfl (sc rfl (sc rfl (sc rfl (sc rfl (sc rfl (sc rfl sn)))))))))))) H iz222 _ (by kernel_rfl)
     refine xEs H (oR1z (R := RInt) (y := z222) Tryz.underlying42 Tryz.sizeOf2 Tryz.zeroValue2 rfl rfl F rfl rfl H (Eo.int iz222) fun a w v230 H F => x_end (x_tn (⟨⟨_, H⟩, ?_⟩)))
     refine xE H 1 rfl (by kernel_rfl) (oB Tryz.isAgg42 F rfl rfl (H.b 2 rfl) rfl fun a F => x_end (x_tn (⟨⟨_, H⟩, ?_⟩)))
     exact H238 v230 _ _ (F.sub (sc rfl (sc rfl (sc rfl (sc rfl (sc rfl (sc rfl (sc rfl (sc rfl (sc rfl (sc rfl (sc rfl sn)))))))))))) H _ (by kernel_rfl)
   intro a w ⟨s210, v212, ho203, F, H⟩
   subst ho203
   have hR := then_nx hk202
   refine x_tn (x_reg (o_move F rfl rfl fun a F => oBA Tryz.isAgg158 Tryz.sizeOf158 F rfl rfl (H.b 1 rfl) rfl rfl (fun a F => ?_)))
   have H := (RAtom.w i147 H)
   refine oR1L (R := RAtom) (y := (Atom.mk x138.rel s210)) Tryz.underlying93 Tryz.sizeOf158 Tryz.zeroValue158 rfl rfl F rfl rfl H El.agg (fun a w v242 H F => ?_)
   obtain ⟨z245, c246, hR⟩ := bnd_some hR
   refine oPL (sz := 2) (R := RAtom) (z := (.agg #[.int .i64 0, (.slice none 0 0)])) (bytes := 32) Tryz.underlying93 (by kernel_rfl) rfl rfl F rfl rfl rfl (H.s [2, 0, 1] rfl rfl) c246 fun a w v247 H F => o_assign F rfl rfl fun a F => x_end (x_bn (x_tn (x_reg (o_inc F rfl rfl rfl ink136 fun a F => o_move F rfl rfl fun a F => x_end (x_tn ?_)))))
   replace hR := l_go hR hn127
   exact ⟨_, Nat.lt_succ_self _, k136 + 1, rest137, z245, v247, ⟨hd140.1, hd140.2.2⟩, rfl, hR, F.sub (sc rfl (sc rfl (sc rfl (sc rfl (sc rfl sn))))), (H.s [0] rfl rfl)⟩
 intro a w ⟨s133, v135, ho126, F, H⟩
 subst ho126
 have hR := then_nx hk125
 refine x_tn (x_seq (x_reg (o_move F rfl rfl fun a F => o_assign F rfl rfl fun a F => x_end (x_tn (x_ret (x_res1 F rfl (rv_t F rfl) ?_))))))
 obtain rfl := Option.some.inj hR
 exact ⟨_, rfl, v135, rfl, H⟩
end Go.Proofs.YtmgdjaiaekhkgaaGreat
