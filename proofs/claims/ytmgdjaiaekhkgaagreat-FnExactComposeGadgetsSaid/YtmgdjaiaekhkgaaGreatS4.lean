/-
  Functions of the program as plain functions, and that they compute them. Printed by sg.py.
-/
import Derived.Test.YtmgdjaiaekhkgaaGreatS3
namespace Go.Proofs.YtmgdjaiaekhkgaaGreat
set_option linter.unusedVariables false
set_option linter.unusedSimpArgs false
set_option maxRecDepth 100000
open Go.RowKit
def spec_l01Mapped (x0 : List Int) (x1 : List Int) : Option (List Int) :=
 thn (σ := (List Int)) (
  forL (σ := (List Int)) (ρ := (List Int)) (fun (k44 : Nat) (x46 : Int) (s38 : (List Int)) =>
   bnd (ix x1 x46) fun z54 =>
   bnd (ap s38 ([z54])) fun z61 =>
   some (.go z61)) x0 0 []) fun s41 =>
 some s41
set_option maxHeartbeats 1000000 in
theorem spec_l01Mapped_c {B : Nat → Prop} {x0 : List Int} {x1 : List Int} (r : (List Int)) (hR : spec_l01Mapped x0 x1 = some r) {v0 : Value} {v1 : Value} (w0 : World) (hN : ∀ c, B c → c < w0.heap.size) (A0 : Bo B w0 (Sl 1 RInt) v0 x0) (A1 : Bo B w0 (Sl 1 RInt) v1 x1) : Calls Tryz.prog 126 #[v0, v1] w0 (Gv (fun v w' => ∃ (v1' : Value), v = v1' ∧ Sep [] B w0 w' [rl 1 RInt 2 v1' r])) := by
 unfold spec_l01Mapped at hR
 refine x_enter (L := [(0, v0), (1, v1)]) Tryz.func126 rfl rfl rfl (sc rfl (sc rfl sn)) (fun a F => ?_)
 have H := Sep.start hN
 refine x_seq ?_
 refine x_reg ?_
 refine o_assign F rfl rfl (fun a F => ?_)
 refine x_end ?_
 refine x_tn ?_
 refine x_seq ?_
 refine x_reg ?_
 refine oR0 (R := RInt) Tryz.underlying42 Tryz.sizeOf2 F rfl H (fun a w v11 H F => ?_)
 refine o_assign F rfl rfl (fun a F => ?_)
 refine x_end ?_
 refine x_tn ?_
 refine x_seq ?_
 refine x_seq ?_
 refine x_reg ?_
 refine o_assign F rfl rfl (fun a F => ?_)
 refine x_end ?_
 refine x_tn ?_
 obtain ⟨o32, hR, hk33⟩ := thn_some hR
 refine x_cutQ (fun a w => ∃ (s41 : List Int) (v43 : Value), o32 = .nx s41 ∧ Sk a 25 [(5, v43)] ∧ Sep [] B w0 w [rl 1 RInt 2 v43 s41]) ?_ ?_
 ·
  refine x_blk ?_
  obtain ⟨fl36, hf37, hR⟩ := forL_gen hR
  refine x_loop (fun g a w => ∃ (k44 : Nat) (rest45 : List Int) (s38 : List Int) (v40 : Value), (k44 ≤ x0.length ∧ x0.drop k44 = rest45) ∧ rest45.length = g ∧ forL fl36 rest45 k44 s38 = some o32 ∧ Sk a 25 [(6, .int .i64 (k44 : Int)), (0, v0), (1, v1), (5, v40)] ∧ Sep [] B w0 w [rl 1 RInt 2 v40 s38]) x0.length ?_ ?_
  ·
   exact ⟨0, x0, [], v11, ⟨Nat.zero_le _, rfl⟩, rfl, hR, F.sub (sc rfl (sc rfl (sc rfl (sc rfl sn)))), H⟩
  intro g47 a w ⟨k44, rest45, s38, v40, hd48, hg49, hR, F, H⟩
  cases rest45 with
  | nil =>
   replace hR := forL_nil hR
   have hkk44 := drop_nil hd48.1 hd48.2
   have hlk44 := dec_no hkk44
   refine x_seq ?_
   refine x_seq ?_
   refine x_reg ?_
   refine o_move F rfl rfl (fun a F => ?_)
   refine o_move F rfl rfl (fun a F => ?_)
   refine oL Tryz.underlying42 F rfl rfl A0 (fun a i65 F => ?_)
   refine o_lss F rfl rfl rfl (fun a F => ?_)
   refine x_end ?_
   refine x_tn ?_
   refine x_ifF F rfl hlk44 ?_
   refine x_exit ?_
   refine x_te ?_
   refine x_te ?_
   refine x_be ?_
   refine x_tn ?_
   exact ⟨s38, v40, (Option.some.inj hR).symm, F.sub (sc rfl sn), H⟩
  | cons x46 rest45 =>
   subst hg49
   replace hd48 := drop_cons hd48.2
   have hxk44 := ix_nat hd48.2.1
   obtain ⟨ck44, hR, hn35⟩ := forL_cons hR
   rw [hf37] at hR
   have hlk44 := dec_yes hd48.1
   refine x_seq ?_
   refine x_seq ?_
   refine x_reg ?_
   refine o_move F rfl rfl (fun a F => ?_)
   refine o_move F rfl rfl (fun a F => ?_)
   refine oL Tryz.underlying42 F rfl rfl A0 (fun a i50 F => ?_)
   refine o_lss F rfl rfl rfl (fun a F => ?_)
   refine x_end ?_
   refine x_tn ?_
   refine x_ifT F rfl hlk44 ?_
   refine x_skip ?_
   refine x_tn ?_
   refine x_seq ?_
   have ikk44 := k64 (Nat.le_of_lt hd48.1) i50
   have ink44 := inc64 hd48.1 i50
   refine x_blk ?_
   refine x_reg ?_
   refine o_move F rfl rfl (fun a F => ?_)
   refine o_move F rfl rfl (fun a F => ?_)
   refine o_move F rfl rfl (fun a F => ?_)
   refine o_move F rfl rfl (fun a F => ?_)
   refine oI Tryz.underlying42 Tryz.sizeOf2 F rfl rfl rfl A0 hxk44 (fun a p51 h52 F => ?_)
   refine olI Tryz.isAgg2 F rfl rfl H.sm h52 (fun a i53 F => ?_)
   obtain ⟨z54, c55, hR⟩ := bnd_some hR
   refine oI Tryz.underlying42 Tryz.sizeOf2 F rfl rfl rfl A1 c55 (fun a p56 h57 F => ?_)
   refine olI Tryz.isAgg2 F rfl rfl H.sm h57 (fun a i58 F => ?_)
   refine oR1z (R := RInt) (y := z54) Tryz.underlying42 Tryz.sizeOf2 Tryz.zeroValue2 rfl rfl F rfl rfl H (Eo.int i58) (fun a w v59 H F => ?_)
   obtain ⟨z61, c62, hR⟩ := bnd_some hR
   refine oPL (sz := 1) (R := RInt) (z := (.int .i64 0)) (bytes := 8) Tryz.underlying42 (by kernel_rfl) rfl rfl F rfl rfl rfl (H.s [1, 0] rfl rfl) c62 (fun a w v63 H F => ?_)
   refine o_assign F rfl rfl (fun a F => ?_)
   refine x_end ?_
   refine x_bn ?_
   refine x_tn ?_
   refine x_reg ?_
   refine o_move F rfl rfl (fun a F => ?_)
   refine o_inc F rfl rfl rfl ink44 (fun a F => ?_)
   refine o_assign F rfl rfl (fun a F => ?_)
   refine x_end ?_
   refine x_tn ?_
   replace hR := l_go hR hn35
   exact ⟨_, Nat.lt_succ_self _, k44 + 1, rest45, z61, v63, ⟨hd48.1, hd48.2.2⟩, rfl, hR, F.sub (sc rfl (sc rfl (sc rfl (sc rfl sn)))), H⟩
 intro a w ⟨s41, v43, ho34, F, H⟩
 subst ho34
 have hR := then_nx hk33
 refine x_tn ?_
 refine x_seq ?_
 refine x_reg ?_
 refine o_move F rfl rfl (fun a F => ?_)
 refine o_assign F rfl rfl (fun a F => ?_)
 refine x_end ?_
 refine x_tn ?_
 refine x_ret ?_
 refine x_res1 F rfl (rv_t F rfl) ?_
 obtain rfl := Option.some.inj hR
 exact ⟨_, rfl, v43, rfl, H⟩

def spec_l03Moved (x0 : List Atom) (x1 : List Int) : Option (List Atom) :=
 thn (σ := (List Atom)) (
  forL (σ := (List Atom)) (ρ := (List Atom)) (fun (k79 : Nat) (x81 : Atom) (s73 : (List Atom)) =>
   bnd (spec_l01Mapped x81.args x1) fun z97 =>
   bnd (ap s73 ([(Atom.mk x81.rel z97)])) fun z105 =>
   some (.go z105)) x0 0 []) fun s76 =>
 some s76
set_option maxHeartbeats 1000000 in
theorem spec_l03Moved_c {B : Nat → Prop} {x0 : List Atom} {x1 : List Int} (r : (List Atom)) (hR : spec_l03Moved x0 x1 = some r) {v0 : Value} {v1 : Value} (w0 : World) (hN : ∀ c, B c → c < w0.heap.size) (A0 : Bo B w0 (Sl 2 RAtom) v0 x0) (A1 : Bo B w0 (Sl 1 RInt) v1 x1) : Calls Tryz.prog 116 #[v0, v1] w0 (Gv (fun v w' => ∃ (v1' : Value), v = v1' ∧ Sep [] B w0 w' [rl 2 RAtom 158 v1' r])) := by
 unfold spec_l03Moved at hR
 refine x_enter (L := [(0, v0), (1, v1)]) Tryz.func116 rfl rfl rfl (sc rfl (sc rfl sn)) (fun a F => ?_)
 have H := Sep.start hN
 refine x_seq ?_
 refine x_reg ?_
 refine o_assign F rfl rfl (fun a F => ?_)
 refine x_end ?_
 refine x_tn ?_
 refine x_seq ?_
 refine x_reg ?_
 refine oR0 (R := RAtom) Tryz.underlying93 Tryz.sizeOf158 F rfl H (fun a w v11 H F => ?_)
 refine o_assign F rfl rfl (fun a F => ?_)
 refine x_end ?_
 refine x_tn ?_
 refine x_seq ?_
 refine x_seq ?_
 refine x_reg ?_
 refine o_assign F rfl rfl (fun a F => ?_)
 refine x_end ?_
 refine x_tn ?_
 obtain ⟨o67, hR, hk68⟩ := thn_some hR
 refine x_cutQ (fun a w => ∃ (s76 : List Atom) (v78 : Value), o67 = .nx s76 ∧ Sk a 31 [(5, v78)] ∧ Sep [] B w0 w [rl 2 RAtom 158 v78 s76]) ?_ ?_
 ·
  refine x_blk ?_
  obtain ⟨fl71, hf72, hR⟩ := forL_gen hR
  refine x_loop (fun g a w => ∃ (k79 : Nat) (rest80 : List Atom) (s73 : List Atom) (v75 : Value), (k79 ≤ x0.length ∧ x0.drop k79 = rest80) ∧ rest80.length = g ∧ forL fl71 rest80 k79 s73 = some o67 ∧ Sk a 31 [(6, .int .i64 (k79 : Int)), (0, v0), (1, v1), (5, v75)] ∧ Sep [] B w0 w [rl 2 RAtom 158 v75 s73]) x0.length ?_ ?_
  ·
   exact ⟨0, x0, [], v11, ⟨Nat.zero_le _, rfl⟩, rfl, hR, F.sub (sc rfl (sc rfl (sc rfl (sc rfl sn)))), H⟩
  intro g82 a w ⟨k79, rest80, s73, v75, hd83, hg84, hR, F, H⟩
  cases rest80 with
  | nil =>
   replace hR := forL_nil hR
   have hkk79 := drop_nil hd83.1 hd83.2
   have hlk79 := dec_no hkk79
   refine x_seq ?_
   refine x_seq ?_
   refine x_reg ?_
   refine o_move F rfl rfl (fun a F => ?_)
   refine o_move F rfl rfl (fun a F => ?_)
   refine oL Tryz.underlying93 F rfl rfl A0 (fun a i135 F => ?_)
   refine o_lss F rfl rfl rfl (fun a F => ?_)
   refine x_end ?_
   refine x_tn ?_
   refine x_ifF F rfl hlk79 ?_
   refine x_exit ?_
   refine x_te ?_
   refine x_te ?_
   refine x_be ?_
   refine x_tn ?_
   exact ⟨s73, v75, (Option.some.inj hR).symm, F.sub (sc rfl sn), H⟩
  | cons x81 rest80 =>
   subst hg84
   replace hd83 := drop_cons hd83.2
   have hxk79 := ix_nat hd83.2.1
   obtain ⟨ck79, hR, hn70⟩ := forL_cons hR
   rw [hf72] at hR
   have hlk79 := dec_yes hd83.1
   refine x_seq ?_
   refine x_seq ?_
   refine x_reg ?_
   refine o_move F rfl rfl (fun a F => ?_)
   refine o_move F rfl rfl (fun a F => ?_)
   refine oL Tryz.underlying93 F rfl rfl A0 (fun a i85 F => ?_)
   refine o_lss F rfl rfl rfl (fun a F => ?_)
   refine x_end ?_
   refine x_tn ?_
   refine x_ifT F rfl hlk79 ?_
   refine x_skip ?_
   refine x_tn ?_
   refine x_seq ?_
   have ikk79 := k64 (Nat.le_of_lt hd83.1) i85
   have ink79 := inc64 hd83.1 i85
   refine x_blk ?_
   obtain ⟨z97, c98, hR⟩ := bnd_some hR
   obtain ⟨z105, c106, hR⟩ := bnd_some hR
   refine xD H (by kernel_rfl) (fun w H => ?_)
   refine b_q0 0 rfl (by kernel_rfl) (by kernel_rfl) (by kernel_rfl) ?_
   refine v_val F rfl (fun w l => r_move F rfl) (fun a F => ?_)
   refine b_q0 1 rfl (by kernel_rfl) (by kernel_rfl) (by kernel_rfl) ?_
   refine v_val F rfl (fun w l => r_move F rfl) (fun a F => ?_)
   refine b_q0 2 rfl (by kernel_rfl) (by kernel_rfl) (by kernel_rfl) ?_
   refine v_val F rfl (fun w l => r_move F rfl) (fun a F => ?_)
   refine b_q 3 (by kernel_rfl) rfl (by kernel_rfl) (by kernel_rfl) (by kernel_rfl) (by kernel_rfl) ?_
   refine vI Tryz.underlying93 Tryz.sizeOf158 F rfl rfl rfl A0 hxk79 (fun a p116 h117 F => ?_)
   refine b_q 4 (by kernel_rfl) rfl (by kernel_rfl) (by kernel_rfl) (by kernel_rfl) (by kernel_rfl) ?_
   refine vF (s' := 1) fa158_0 F rfl rfl h117 RAtom.f0 (fun a p118 h119 F => ?_)
   refine b_q 5 (by kernel_rfl) rfl (by kernel_rfl) (by kernel_rfl) (by kernel_rfl) (by kernel_rfl) ?_
   refine vlI Tryz.isAgg2 F rfl rfl H.v h119 (fun a i120 F => ?_)
   refine b_q0 6 rfl (by kernel_rfl) (by kernel_rfl) (by kernel_rfl) ?_
   refine v_val F rfl (fun w l => r_move F rfl) (fun a F => ?_)
   refine b_q0 7 rfl (by kernel_rfl) (by kernel_rfl) (by kernel_rfl) ?_
   refine v_val F rfl (fun w l => r_move F rfl) (fun a F => ?_)
   refine b_q 8 (by kernel_rfl) rfl (by kernel_rfl) (by kernel_rfl) (by kernel_rfl) (by kernel_rfl) ?_
   refine vI Tryz.underlying93 Tryz.sizeOf158 F rfl rfl rfl A0 hxk79 (fun a p121 h122 F => ?_)
   refine b_q 9 (by kernel_rfl) rfl (by kernel_rfl) (by kernel_rfl) (by kernel_rfl) (by kernel_rfl) ?_
   refine vF (s' := 1) fa158_1 F rfl rfl h122 RAtom.f1 (fun a p123 h124 F => ?_)
   refine b_q 10 (by kernel_rfl) rfl (by kernel_rfl) (by kernel_rfl) (by kernel_rfl) (by kernel_rfl) ?_
   refine vlS Tryz.isAgg42 F rfl rfl H.v h124 (fun a v125 h126 F => ?_)
   refine b_q0 11 rfl (by kernel_rfl) (by kernel_rfl) (by kernel_rfl) ?_
   refine v_val F rfl (fun w l => r_move F rfl) (fun a F => ?_)
   refine xE H 12 rfl (by kernel_rfl) ?_
   refine oG F rfl Tryz.call126 rfl (spec_l01Mapped_c z97 c98 _ aA (H.a h126) (H.a A1)) (fun a vv w ⟨v127, hv129, S⟩ F => ?_)
   subst vv
   have H := H.r1 S n0
   refine x_end ?_
   refine x_tn ?_
   refine ⟨⟨_, H⟩, ?_⟩
   refine xE H 13 rfl (by kernel_rfl) ?_
   refine o_build Tryz.underlying158 Tryz.zeroValue158 (fun w => by simp [Tryz.sizeOf2, Tryz.sizeOf42]; rfl) F rfl rfl rfl rfl rfl (oc rfl (oc (H.l 0 rfl).one on)) rfl rfl (fun a F => ?_)
   refine x_end ?_
   refine x_tn ?_
   refine ⟨⟨_, H⟩, ?_⟩
   refine xE H 14 rfl (by kernel_rfl) ?_
   have H := (RAtom.w i120 H)
   refine oR1L (R := RAtom) (y := (Atom.mk x81.rel z97)) Tryz.underlying93 Tryz.sizeOf158 Tryz.zeroValue158 rfl rfl F rfl rfl H El.agg (fun a w v130 H F => ?_)
   refine x_end ?_
   refine x_tn ?_
   refine ⟨⟨_, H⟩, ?_⟩
   refine xE H 15 rfl (by kernel_rfl) ?_
   refine oPL (sz := 2) (R := RAtom) (z := (.agg #[.int .i64 0, (.slice none 0 0)])) (bytes := 32) Tryz.underlying93 (by kernel_rfl) rfl rfl F rfl rfl rfl (H.s [1, 0] rfl rfl) c106 (fun a w v133 H F => ?_)
   refine x_end ?_
   refine x_tn ?_
   refine ⟨⟨_, H⟩, ?_⟩
   refine b_q0 16 rfl (by kernel_rfl) (by kernel_rfl) (by kernel_rfl) ?_
   refine v_val F rfl (fun w l => r_assign F rfl) (fun a F => ?_)
   refine b_end (by kernel_rfl) ?_
   refine x_bn ?_
   refine x_tn ?_
   refine x_reg ?_
   refine o_move F rfl rfl (fun a F => ?_)
   refine o_inc F rfl rfl rfl ink79 (fun a F => ?_)
   refine o_assign F rfl rfl (fun a F => ?_)
   refine x_end ?_
   refine x_tn ?_
   replace hR := l_go hR hn70
   exact ⟨_, Nat.lt_succ_self _, k79 + 1, rest80, z105, v133, ⟨hd83.1, hd83.2.2⟩, rfl, hR, F.sub (sc rfl (sc rfl (sc rfl (sc rfl sn)))), H⟩
 intro a w ⟨s76, v78, ho69, F, H⟩
 subst ho69
 have hR := then_nx hk68
 refine x_tn ?_
 refine x_seq ?_
 refine x_reg ?_
 refine o_move F rfl rfl (fun a F => ?_)
 refine o_assign F rfl rfl (fun a F => ?_)
 refine x_end ?_
 refine x_tn ?_
 refine x_ret ?_
 refine x_res1 F rfl (rv_t F rfl) ?_
 obtain rfl := Option.some.inj hR
 exact ⟨_, rfl, v78, rfl, H⟩

def spec_l09Through (x0 : Formula) (x1 : Gadgets) : Option Formula :=
 thn (σ := Int × (List Atom)) (
  forL (σ := Int × (List Atom)) (ρ := Formula) (fun (k456 : Nat) (x458 : Atom) (s : Int × (List Atom)) =>
    match s with
    | (s446, s448) =>
    if (x458.rel == (-1)) then
     bnd (spec_l00Own x458.args) fun z484 =>
     bnd (ap s448 ([(Atom.mk x458.rel z484)])) fun z492 =>
     some (.go (s446, z492))
    else
     bnd (ix x1.formulas x458.rel) fun z542 =>
     bnd (spec_l00Own x458.args) fun z550 =>
     thn (σ := (List Int) × Int) (
      forI (σ := (List Int) × Int) (ρ := (Ctl (Int × (List Atom)) Formula)) (fun (k607 : Nat) (s : (List Int) × Int) =>
        match s with
        | (s597, s600) =>
        bnd (ap s597 ([s600])) fun z618 =>
        bnd (ck (s600 + 1)) fun z622 =>
        some (.go (z618, z622))) (z542.vars - z542.free).toNat 0 (z550, s446)) fun (s602, s605) =>
     bnd (spec_l03Moved z542.atoms s602) fun z631 =>
     bnd (ap s448 z631) fun z636 =>
     some (.go (s605, z636))) x0.atoms 0 (x0.vars, [])) fun (s451, s453) =>
 some ((Formula.mk x0.free s451 s453))
set_option maxHeartbeats 1000000 in
theorem spec_l09Through_c {B : Nat → Prop} {x0 : Formula} {x1 : Gadgets} (r : Formula) (hR : spec_l09Through x0 x1 = some r) {v0 : Value} {v1 : Value} (w0 : World) (hN : ∀ c, B c → c < w0.heap.size) (A0 : Bo B w0 (Pt 3 RFormula) v0 x0) (A1 : Bo B w0 (Pt 1 RGadgets) v1 x1) : Calls Tryz.prog 60 #[v0, v1] w0 (Gv (fun v w' => ∃ (v1' : Value), v = .agg #[.int .i64 r.free, .int .i64 r.vars, v1'] ∧ Sep [] B w0 w' [rl 2 RAtom 158 v1' r.atoms] ∧ I64 r.free ∧ I64 r.vars)) := by
 unfold spec_l09Through at hR
 refine x_enter (L := [(0, v0), (1, v1)]) Tryz.func60 rfl rfl rfl (sc rfl (sc rfl sn)) (fun a F => ?_)
 have H := Sep.start hN
 refine x_seq ?_
 refine x_reg ?_
 refine oA Tryz.zeroValue95 F rfl rfl H (fun a w b11 H F => ?_)
 refine x_end ?_
 refine x_tn ?_
 refine x_seq ?_
 refine xD H (by kernel_rfl) (fun w H => ?_)
 refine b_q0 0 rfl (by kernel_rfl) (by kernel_rfl) (by kernel_rfl) ?_
 refine v_val F rfl (fun w l => r_move F rfl) (fun a F => ?_)
 refine b_q 1 (by kernel_rfl) rfl (by kernel_rfl) (by kernel_rfl) (by kernel_rfl) (by kernel_rfl) ?_
 refine vN F rfl rfl A0 (fun a F => ?_)
 refine b_q 2 (by kernel_rfl) rfl (by kernel_rfl) (by kernel_rfl) (by kernel_rfl) (by kernel_rfl) ?_
 refine vF (s' := 1) fa95_0 F rfl rfl A0 RFormula.f0 (fun a p19 h20 F => ?_)
 refine b_q 3 (by kernel_rfl) rfl (by kernel_rfl) (by kernel_rfl) (by kernel_rfl) (by kernel_rfl) ?_
 refine vlI Tryz.isAgg2 F rfl rfl H.v h20 (fun a i21 F => ?_)
 refine b_q0 4 rfl (by kernel_rfl) (by kernel_rfl) (by kernel_rfl) ?_
 refine v_val F rfl (fun w l => r_move F rfl) (fun a F => ?_)
 refine b_q 5 (by kernel_rfl) rfl (by kernel_rfl) (by kernel_rfl) (by kernel_rfl) (by kernel_rfl) ?_
 refine vN F rfl rfl A0 (fun a F => ?_)
 refine b_q 6 (by kernel_rfl) rfl (by kernel_rfl) (by kernel_rfl) (by kernel_rfl) (by kernel_rfl) ?_
 refine vF (s' := 1) fa95_1 F rfl rfl A0 RFormula.f1 (fun a p22 h23 F => ?_)
 refine b_q 7 (by kernel_rfl) rfl (by kernel_rfl) (by kernel_rfl) (by kernel_rfl) (by kernel_rfl) ?_
 refine vlI Tryz.isAgg2 F rfl rfl H.v h23 (fun a i24 F => ?_)
 refine b_q 8 (by kernel_rfl) rfl (by kernel_rfl) (by kernel_rfl) (by kernel_rfl) (by kernel_rfl) ?_
 refine v_val F rfl (fun w l => r_build Tryz.underlying95 Tryz.zeroValue95 (fun w => by simp [Tryz.sizeOf2, Tryz.sizeOf93]; rfl) F rfl rfl rfl rfl (oc rfl (oc rfl on)) rfl rfl) (fun a F => ?_)
 refine xE H 9 rfl (by kernel_rfl) ?_
 refine oA Tryz.zeroValue95 F rfl rfl H (fun a w b25 H F => ?_)
 refine x_end ?_
 refine x_tn ?_
 refine ⟨⟨_, H⟩, ?_⟩
 refine xE H 10 rfl (by kernel_rfl) ?_
 refine oWA (vs := [.int .i64 x0.free, .int .i64 x0.vars, (.slice none 0 0)]) Tryz.sizeOf95 F rfl rfl rfl H (oc rfl (oc rfl (oc rfl on))) rfl rfl (fun w H => ?_)
 refine x_end ?_
 refine x_tn ?_
 refine ⟨⟨_, H⟩, ?_⟩
 refine b_end (by kernel_rfl) ?_
 refine x_tn ?_
 refine x_seq ?_
 refine x_seq ?_
 refine x_reg ?_
 refine o_assign F rfl rfl (fun a F => ?_)
 refine x_end ?_
 refine x_tn ?_
 obtain ⟨o440, hR, hk441⟩ := thn_some hR
 refine x_cutQ (fun a w => ∃ (s451 : Int) (s453 : List Atom) (v455 : Value), o440 = .nx (s451, s453) ∧ Sk a 101 [(4, .pointer (some ⟨b11, 0, none⟩)), (5, .pointer (some ⟨b25, 0, none⟩))] ∧ Sep [] B w0 w [rl 2 RAtom 158 v455 s453, bx b25 [.int .i64 x0.free, .int .i64 s451, v455] 95, bx b11 [.int .i64 0, .int .i64 0, (.slice none 0 0)] 95] ∧ I64 s451) ?_ ?_
 ·
  refine x_blk ?_
  obtain ⟨fl444, hf445, hR⟩ := forL_gen hR
  refine x_loop (fun g a w => ∃ (k456 : Nat) (rest457 : List Atom) (s446 : Int) (s448 : List Atom) (v450 : Value), (k456 ≤ x0.atoms.length ∧ x0.atoms.drop k456 = rest457) ∧ rest457.length = g ∧ forL fl444 rest457 k456 (s446, s448) = some o440 ∧ Sk a 101 [(6, .int .i64 (k456 : Int)), (0, v0), (1, v1), (4, .pointer (some ⟨b11, 0, none⟩)), (5, .pointer (some ⟨b25, 0, none⟩))] ∧ Sep [] B w0 w [rl 2 RAtom 158 v450 s448, bx b25 [.int .i64 x0.free, .int .i64 s446, v450] 95, bx b11 [.int .i64 0, .int .i64 0, (.slice none 0 0)] 95] ∧ I64 s446) x0.atoms.length ?_ ?_
  ·
   exact ⟨0, x0.atoms, x0.vars, [], (.slice none 0 0), ⟨Nat.zero_le _, rfl⟩, rfl, hR, F.sub (sc rfl (sc rfl (sc rfl (sc rfl (sc rfl sn))))), (H.nl 2 RAtom 158), i24⟩
  intro g459 a w ⟨k456, rest457, s446, s448, v450, hd460, hg461, hR, F, H, i447⟩
  cases rest457 with
  | nil =>
   replace hR := forL_nil hR
   have hkk456 := drop_nil hd460.1 hd460.2
   have hlk456 := dec_no hkk456
   refine x_seq ?_
   refine x_seq ?_
   refine x_reg ?_
   refine o_move F rfl rfl (fun a F => ?_)
   refine o_move F rfl rfl (fun a F => ?_)
   refine oN F rfl rfl A0 (fun a F => ?_)
   refine oF (s' := 1) fa95_2 F rfl rfl A0 RFormula.f2 (fun a p662 h663 F => ?_)
   refine olS Tryz.isAgg93 F rfl rfl H.sm h663 (fun a v664 h665 F => ?_)
   refine oL Tryz.underlying93 F rfl rfl h665 (fun a i666 F => ?_)
   refine o_lss F rfl rfl rfl (fun a F => ?_)
   refine x_end ?_
   refine x_tn ?_
   refine x_ifF F rfl hlk456 ?_
   refine x_exit ?_
   refine x_te ?_
   refine x_te ?_
   refine x_be ?_
   refine x_tn ?_
   exact ⟨s446, s448, v450, (Option.some.inj hR).symm, F.sub (sc rfl (sc rfl sn)), H, i447⟩
  | cons x458 rest457 =>
   subst hg461
   replace hd460 := drop_cons hd460.2
   have hxk456 := ix_nat hd460.2.1
   obtain ⟨ck456, hR, hn443⟩ := forL_cons hR
   rw [hf445] at hR
   have hlk456 := dec_yes hd460.1
   refine x_seq ?_
   refine x_seq ?_
   refine x_reg ?_
   refine o_move F rfl rfl (fun a F => ?_)
   refine o_move F rfl rfl (fun a F => ?_)
   refine oN F rfl rfl A0 (fun a F => ?_)
   refine oF (s' := 1) fa95_2 F rfl rfl A0 RFormula.f2 (fun a p462 h463 F => ?_)
   refine olS Tryz.isAgg93 F rfl rfl H.sm h463 (fun a v464 h465 F => ?_)
   refine oL Tryz.underlying93 F rfl rfl h465 (fun a i466 F => ?_)
   refine o_lss F rfl rfl rfl (fun a F => ?_)
   refine x_end ?_
   refine x_tn ?_
   refine x_ifT F rfl hlk456 ?_
   refine x_skip ?_
   refine x_tn ?_
   refine x_seq ?_
   have ikk456 := k64 (Nat.le_of_lt hd460.1) i466
   have ink456 := inc64 hd460.1 i466
   refine x_blk ?_
   refine x_seq ?_
   refine x_reg ?_
   refine o_move F rfl rfl (fun a F => ?_)
   refine oN F rfl rfl A0 (fun a F => ?_)
   refine oF (s' := 1) fa95_2 F rfl rfl A0 RFormula.f2 (fun a p467 h468 F => ?_)
   refine olS Tryz.isAgg93 F rfl rfl H.sm h468 (fun a v469 h470 F => ?_)
   refine o_move F rfl rfl (fun a F => ?_)
   refine oI Tryz.underlying93 Tryz.sizeOf158 F rfl rfl rfl h470 hxk456 (fun a p471 h472 F => ?_)
   refine o_assign F rfl rfl (fun a F => ?_)
   refine x_end ?_
   refine x_tn ?_
   refine x_seq ?_
   refine x_seq ?_
   refine x_reg ?_
   refine o_move F rfl rfl (fun a F => ?_)
   refine oN F rfl rfl h472 (fun a F => ?_)
   refine oF (s' := 1) fa158_0 F rfl rfl h472 RAtom.f0 (fun a p473 h474 F => ?_)
   refine olI Tryz.isAgg2 F rfl rfl H.sm h474 (fun a i475 F => ?_)
   refine o_eql F rfl rfl rfl (fun a F => ?_)
   refine x_end ?_
   refine x_tn ?_
   refine x_if F rfl (fun hb476 => ?_) (fun hb476 => ?_)
   ·
    replace hR := ifT hb476 hR
    refine x_seq ?_
    obtain ⟨z484, c485, hR⟩ := bnd_some hR
    obtain ⟨z492, c493, hR⟩ := bnd_some hR
    refine xD H (by kernel_rfl) (fun w H => ?_)
    refine dp (fun G => ∀ (v531 : Value) (a : Act) (w : World), Sk a 101 [(0, v0), (1, v1), (4, .pointer (some ⟨b11, 0, none⟩)), (5, .pointer (some ⟨b25, 0, none⟩)), (6, .int .i64 (k456 : Int)), (41, v450), (52, v531)] → Sep [] B w0 w [rl 2 RAtom 158 v531 ([(Atom.mk x458.rel z484)]), rl 2 RAtom 158 v450 s448, bx b25 [.int .i64 x0.free, .int .i64 s446, v450] 95, bx b11 [.int .i64 0, .int .i64 0, (.slice none 0 0)] 95] → ∀ ls, ls = #[true, true, true, true, true, true, true, true, true, true, true, true, true, false, false, false] → G 3 ls a w) ?_ (fun H532 => ?_)
    ·
     intro v531 a w F H ls hls
     subst hls
     refine xE H 13 rfl (by kernel_rfl) ?_
     refine oPL (sz := 2) (R := RAtom) (z := (.agg #[.int .i64 0, (.slice none 0 0)])) (bytes := 32) Tryz.underlying93 (by kernel_rfl) rfl rfl F rfl rfl rfl (H.s [1, 0, 2, 3] rfl rfl) c493 (fun a w v533 H F => ?_)
     refine x_end ?_
     refine x_tn ?_
     refine ⟨⟨_, H⟩, ?_⟩
     refine b_q 14 (by kernel_rfl) rfl (by kernel_rfl) (by kernel_rfl) (by kernel_rfl) (by kernel_rfl) ?_
     refine v_val F rfl (fun w l => r_bfield fa95_2 F rfl rfl) (fun a F => ?_)
     refine xE H 15 rfl (by kernel_rfl) ?_
     refine oW Tryz.sizeOf93 F rfl rfl rfl (H.s [1, 0, 2] rfl rfl) ((H.s [1, 0, 2] rfl rfl).l 1 rfl).one rfl rfl (fun w H => ?_)
     refine x_end ?_
     refine x_tn ?_
     refine ⟨⟨_, H⟩, ?_⟩
     refine b_end (by kernel_rfl) ?_
     refine x_tn ?_
     refine x_exit ?_
     refine x_te ?_
     refine x_be ?_
     refine x_tn ?_
     refine x_reg ?_
     refine o_move F rfl rfl (fun a F => ?_)
     refine o_inc F rfl rfl rfl ink456 (fun a F => ?_)
     refine o_assign F rfl rfl (fun a F => ?_)
     refine x_end ?_
     refine x_tn ?_
     replace hR := l_go hR hn443
     exact ⟨_, Nat.lt_succ_self _, k456 + 1, rest457, s446, z492, v533, ⟨hd460.1, hd460.2.2⟩, rfl, hR, F.sub (sc rfl (sc rfl (sc rfl (sc rfl (sc rfl sn))))), (H.s [1, 0, 2] rfl rfl), i447⟩
    refine dp (fun G => ∀ (v525 : Value) (a : Act) (w : World), Sk a 101 [(0, v0), (1, v1), (4, .pointer (some ⟨b11, 0, none⟩)), (5, .pointer (some ⟨b25, 0, none⟩)), (6, .int .i64 (k456 : Int)), (41, v450), (51, (.agg #[.int .i64 x458.rel, v525]))] → Sep [] B w0 w [rl 1 RInt 2 v525 z484, rl 2 RAtom 158 v450 s448, bx b25 [.int .i64 x0.free, .int .i64 s446, v450] 95, bx b11 [.int .i64 0, .int .i64 0, (.slice none 0 0)] 95] → I64 x458.rel → ∀ ls, ls = #[true, true, true, true, true, true, true, true, true, true, true, true, false, false, false, false] → G 4 ls a w) ?_ (fun H526 => ?_)
    ·
     intro v525 a w F H i523 ls hls
     subst hls
     refine xE H 12 rfl (by kernel_rfl) ?_
     have H := (RAtom.w i523 H)
     refine oR1L (R := RAtom) (y := (Atom.mk x458.rel z484)) Tryz.underlying93 Tryz.sizeOf158 Tryz.zeroValue158 rfl rfl F rfl rfl H El.agg (fun a w v527 H F => ?_)
     refine x_end ?_
     refine x_tn ?_
     refine ⟨⟨_, H⟩, ?_⟩
     exact H532 v527 _ _ (F.sub (sc rfl (sc rfl (sc rfl (sc rfl (sc rfl (sc rfl (sc rfl sn)))))))) H _ (by kernel_rfl)
    refine dp (fun G => ∀ (v521 : Value) (a : Act) (w : World), Sk a 101 [(0, v0), (1, v1), (4, .pointer (some ⟨b11, 0, none⟩)), (5, .pointer (some ⟨b25, 0, none⟩)), (6, .int .i64 (k456 : Int)), (41, v450), (45, .int .i64 x458.rel), (50, v521)] → Sep [] B w0 w [rl 1 RInt 2 v521 z484, rl 2 RAtom 158 v450 s448, bx b25 [.int .i64 x0.free, .int .i64 s446, v450] 95, bx b11 [.int .i64 0, .int .i64 0, (.slice none 0 0)] 95] → I64 x458.rel → ∀ ls, ls = #[true, true, true, true, true, true, true, true, true, true, true, false, false, false, false, false] → G 5 ls a w) ?_ (fun H522 => ?_)
    ·
     intro v521 a w F H i519 ls hls
     subst hls
     refine xE H 11 rfl (by kernel_rfl) ?_
     refine o_build Tryz.underlying158 Tryz.zeroValue158 (fun w => by simp [Tryz.sizeOf2, Tryz.sizeOf42]; rfl) F rfl rfl rfl rfl rfl (oc rfl (oc (H.l 0 rfl).one on)) rfl rfl (fun a F => ?_)
     refine x_end ?_
     refine x_tn ?_
     refine ⟨⟨_, H⟩, ?_⟩
     exact H526 v521 _ _ (F.sub (sc rfl (sc rfl (sc rfl (sc rfl (sc rfl (sc rfl (sc rfl sn)))))))) H i519 _ (by kernel_rfl)
    refine b_q 0 (by kernel_rfl) rfl (by kernel_rfl) (by kernel_rfl) (by kernel_rfl) (by kernel_rfl) ?_
    refine v_val F rfl (fun w l => r_bfield fa95_2 F rfl rfl) (fun a F => ?_)
    refine b_q0 2 rfl (by kernel_rfl) (by kernel_rfl) (by kernel_rfl) ?_
    refine v_val F rfl (fun w l => r_move F rfl) (fun a F => ?_)
    refine b_q 3 (by kernel_rfl) rfl (by kernel_rfl) (by kernel_rfl) (by kernel_rfl) (by kernel_rfl) ?_
    refine vN F rfl rfl h472 (fun a F => ?_)
    refine b_q 4 (by kernel_rfl) rfl (by kernel_rfl) (by kernel_rfl) (by kernel_rfl) (by kernel_rfl) ?_
    refine vF (s' := 1) fa158_0 F rfl rfl h472 RAtom.f0 (fun a p503 h504 F => ?_)
    refine b_q 5 (by kernel_rfl) rfl (by kernel_rfl) (by kernel_rfl) (by kernel_rfl) (by kernel_rfl) ?_
    refine vlI Tryz.isAgg2 F rfl rfl H.v h504 (fun a i505 F => ?_)
    refine b_q0 6 rfl (by kernel_rfl) (by kernel_rfl) (by kernel_rfl) ?_
    refine v_val F rfl (fun w l => r_move F rfl) (fun a F => ?_)
    refine b_q 7 (by kernel_rfl) rfl (by kernel_rfl) (by kernel_rfl) (by kernel_rfl) (by kernel_rfl) ?_
    refine vN F rfl rfl h472 (fun a F => ?_)
    refine b_q 8 (by kernel_rfl) rfl (by kernel_rfl) (by kernel_rfl) (by kernel_rfl) (by kernel_rfl) ?_
    refine vF (s' := 1) fa158_1 F rfl rfl h472 RAtom.f1 (fun a p506 h507 F => ?_)
    refine b_q 9 (by kernel_rfl) rfl (by kernel_rfl) (by kernel_rfl) (by kernel_rfl) (by kernel_rfl) ?_
    refine vlS Tryz.isAgg42 F rfl rfl H.v h507 (fun a v508 h509 F => ?_)
    refine b_es [1, 10] (by kernel_rfl) (by simp) ⟨⟨_, rfl, ?_⟩, ⟨_, rfl, ?_⟩, trivial⟩
    ·
     refine xEs H ?_
     refine oB Tryz.isAgg93 F rfl rfl (H.b 1 rfl) rfl (fun a F => ?_)
     refine x_end ?_
     refine x_tn ?_
     refine ⟨⟨_, H⟩, ?_⟩
     refine xE H 10 rfl (by kernel_rfl) ?_
     refine oG F rfl Tryz.call115 rfl (spec_l00Own_c z484 c485 _ aA (H.a h509)) (fun a vv w ⟨v510, hv512, S⟩ F => ?_)
     subst vv
     have H := H.r1 S n0
     refine x_end ?_
     refine x_tn ?_
     refine ⟨⟨_, H⟩, ?_⟩
     exact H522 v510 _ _ (F.sub (sc rfl (sc rfl (sc rfl (sc rfl (sc rfl (sc rfl (sc rfl (sc rfl sn))))))))) H i505 _ (by kernel_rfl)
    refine xEs H ?_
    refine oG F rfl Tryz.call115 rfl (spec_l00Own_c z484 c485 _ aA (H.a h509)) (fun a vv w ⟨v513, hv515, S⟩ F => ?_)
    subst vv
    have H := H.r1 S n0
    refine x_end ?_
    refine x_tn ?_
    refine ⟨⟨_, H⟩, ?_⟩
    refine b_es [1, 11] (by kernel_rfl) (by simp) ⟨⟨_, rfl, ?_⟩, ⟨_, rfl, ?_⟩, trivial⟩
    ·
     refine xEs H ?_
     refine oB Tryz.isAgg93 F rfl rfl (H.b 2 rfl) rfl (fun a F => ?_)
     refine x_end ?_
     refine x_tn ?_
     refine ⟨⟨_, H⟩, ?_⟩
     exact H522 v513 _ _ (F.sub (sc rfl (sc rfl (sc rfl (sc rfl (sc rfl (sc rfl (sc rfl (sc rfl sn))))))))) H i505 _ (by kernel_rfl)
    refine xEs H ?_
    refine o_build Tryz.underlying158 Tryz.zeroValue158 (fun w => by simp [Tryz.sizeOf2, Tryz.sizeOf42]; rfl) F rfl rfl rfl rfl rfl (oc rfl (oc (H.l 0 rfl).one on)) rfl rfl (fun a F => ?_)
    refine x_end ?_
    refine x_tn ?_
    refine ⟨⟨_, H⟩, ?_⟩
    refine b_es [1, 12] (by kernel_rfl) (by simp) ⟨⟨_, rfl, ?_⟩, ⟨_, rfl, ?_⟩, trivial⟩
    ·
     refine xEs H ?_
     refine oB Tryz.isAgg93 F rfl rfl (H.b 2 rfl) rfl (fun a F => ?_)
     refine x_end ?_
     refine x_tn ?_
     refine ⟨⟨_, H⟩, ?_⟩
     exact H526 v513 _ _ (F.sub (sc rfl (sc rfl (sc rfl (sc rfl (sc rfl (sc rfl (sc rfl sn)))))))) H i505 _ (by kernel_rfl)
    refine xEs H ?_
    have H := (RAtom.w i505 H)
    refine oR1L (R := RAtom) (y := (Atom.mk x458.rel z484)) Tryz.underlying93 Tryz.sizeOf158 Tryz.zeroValue158 rfl rfl F rfl rfl H El.agg (fun a w v516 H F => ?_)
    refine x_end ?_
    refine x_tn ?_
    refine ⟨⟨_, H⟩, ?_⟩
    refine xE H 1 rfl (by kernel_rfl) ?_
    refine oB Tryz.isAgg93 F rfl rfl (H.b 2 rfl) rfl (fun a F => ?_)
    refine x_end ?_
    refine x_tn ?_
    refine ⟨⟨_, H⟩, ?_⟩
    exact H532 v516 _ _ (F.sub (sc rfl (sc rfl (sc rfl (sc rfl (sc rfl (sc rfl (sc rfl sn)))))))) H _ (by kernel_rfl)
   replace hR := ifF hb476 hR
   refine x_skip ?_
   refine x_tn ?_
   refine x_seq ?_
   refine xQ H (by kernel_rfl) (by kernel_rfl) ?_
   refine q_val F rfl (fun w l => r_move F rfl) (fun a F => ?_)
   refine qN F rfl rfl A1 (fun a F => ?_)
   refine qF (s' := 1) fa37_0 F rfl rfl A1 RGadgets.f0 (fun a p535 h536 F => ?_)
   refine qlS Tryz.isAgg35 F rfl rfl H.q h536 (fun a v537 h538 F => ?_)
   refine q_val F rfl (fun w l => r_move F rfl) (fun a F => ?_)
   refine qN F rfl rfl h472 (fun a F => ?_)
   refine qF (s' := 1) fa158_0 F rfl rfl h472 RAtom.f0 (fun a p539 h540 F => ?_)
   refine qlI Tryz.isAgg2 F rfl rfl H.q h540 (fun a i541 F => ?_)
   obtain ⟨z542, c543, hR⟩ := bnd_some hR
   refine qI Tryz.underlying35 Tryz.sizeOf95 F rfl rfl rfl h538 c543 (fun a p544 h545 F => ?_)
   refine q_val F rfl (fun w l => r_assign F rfl) (fun a F => ?_)
   refine q_end (fun w H => ?_)
   refine x_tn ?_
   refine x_seq ?_
   refine x_reg ?_
   refine o_move F rfl rfl (fun a F => ?_)
   refine oN F rfl rfl h472 (fun a F => ?_)
   refine oF (s' := 1) fa158_1 F rfl rfl h472 RAtom.f1 (fun a p546 h547 F => ?_)
   refine olS Tryz.isAgg42 F rfl rfl H.sm h547 (fun a v548 h549 F => ?_)
   obtain ⟨z550, c551, hR⟩ := bnd_some hR
   refine oG F rfl Tryz.call115 rfl (spec_l00Own_c z550 c551 _ aA (H.a h549)) (fun a vv w ⟨v552, hv554, S⟩ F => ?_)
   subst vv
   have H := H.r1 S n0
   refine o_assign F rfl rfl (fun a F => ?_)
   refine x_end ?_
   refine x_tn ?_
   refine x_seq ?_
   refine x_seq ?_
   refine x_reg ?_
   refine o_move F rfl rfl (fun a F => ?_)
   refine oN F rfl rfl h545 (fun a F => ?_)
   refine oF (s' := 1) fa95_0 F rfl rfl h545 RFormula.f0 (fun a p555 h556 F => ?_)
   refine olI Tryz.isAgg2 F rfl rfl H.sm h556 (fun a i557 F => ?_)
   refine o_assign F rfl rfl (fun a F => ?_)
   refine x_end ?_
   refine x_tn ?_
   obtain ⟨o591, hR, hk592⟩ := thn_some hR
   refine x_cutQ (fun a w => ∃ (s602 : List Int) (v604 : Value) (s605 : Int), o591 = .nx (s602, s605) ∧ Sk a 101 [(0, v0), (1, v1), (4, .pointer (some ⟨b11, 0, none⟩)), (5, .pointer (some ⟨b25, 0, none⟩)), (6, .int .i64 (k456 : Int)), (8, p544), (9, v604)] ∧ Sep [] B w0 w [rl 1 RInt 2 v604 s602, rl 2 RAtom 158 v450 s448, bx b25 [.int .i64 x0.free, .int .i64 s605, v450] 95, bx b11 [.int .i64 0, .int .i64 0, (.slice none 0 0)] 95] ∧ I64 s605) ?_ ?_
   ·
    refine x_blk ?_
    obtain ⟨fl595, hf596, hR⟩ := forI_gen hR
    have F := F.eq (t := 10) rfl (show Value.int .i64 z542.free = Value.int .i64 (z542.free + ((0 : Nat) : Int)) by rw [Int.ofNat_zero, Int.add_zero])
    refine x_loop (fun g a w => ∃ (k607 : Nat) (s597 : List Int) (v599 : Value) (s600 : Int), k607 + g = (z542.vars - z542.free).toNat ∧ forI fl595 g k607 (s597, s600) = some o591 ∧ Sk a 101 [(10, .int .i64 (z542.free + (k607 : Int))), (0, v0), (1, v1), (4, .pointer (some ⟨b11, 0, none⟩)), (5, .pointer (some ⟨b25, 0, none⟩)), (6, .int .i64 (k456 : Int)), (8, p544), (9, v599)] ∧ Sep [] B w0 w [rl 1 RInt 2 v599 s597, rl 2 RAtom 158 v450 s448, bx b25 [.int .i64 x0.free, .int .i64 s600, v450] 95, bx b11 [.int .i64 0, .int .i64 0, (.slice none 0 0)] 95] ∧ I64 s600) (z542.vars - z542.free).toNat ?_ ?_
    ·
     exact ⟨0, z550, v552, s446, (Nat.zero_add _), hR, F.sub (sc rfl (sc rfl (sc rfl (sc rfl (sc rfl (sc rfl (sc rfl (sc rfl sn)))))))), H, i447⟩
    intro g610 a w ⟨k607, s597, v599, s600, hd611, hR, F, H, i601⟩
    cases g610 with
    | zero =>
     replace hR := forI_zero hR
     have hlk607 := dec_noIO hd611
     refine x_seq ?_
     refine x_seq ?_
     refine x_reg ?_
     refine o_move F rfl rfl (fun a F => ?_)
     refine o_move F rfl rfl (fun a F => ?_)
     refine oN F rfl rfl h545 (fun a F => ?_)
     refine oF (s' := 1) fa95_1 F rfl rfl h545 RFormula.f1 (fun a p624 h625 F => ?_)
     refine olI Tryz.isAgg2 F rfl rfl H.sm h625 (fun a i626 F => ?_)
     refine o_lss F rfl rfl rfl (fun a F => ?_)
     refine x_end ?_
     refine x_tn ?_
     refine x_ifF F rfl hlk607 ?_
     refine x_exit ?_
     refine x_te ?_
     refine x_te ?_
     refine x_be ?_
     refine x_tn ?_
     exact ⟨s597, v599, s600, (Option.some.inj hR).symm, F.sub (sc rfl (sc rfl (sc rfl (sc rfl (sc rfl (sc rfl (sc rfl sn))))))), H, i601⟩
    | succ g610 =>
     obtain ⟨ck607, hR, hn594⟩ := forI_succ hR
     rw [hf596] at hR
     have hlk607 := dec_yesIO hd611
     refine x_seq ?_
     refine x_seq ?_
     refine x_reg ?_
     refine o_move F rfl rfl (fun a F => ?_)
     refine o_move F rfl rfl (fun a F => ?_)
     refine oN F rfl rfl h545 (fun a F => ?_)
     refine oF (s' := 1) fa95_1 F rfl rfl h545 RFormula.f1 (fun a p613 h614 F => ?_)
     refine olI Tryz.isAgg2 F rfl rfl H.sm h614 (fun a i615 F => ?_)
     refine o_lss F rfl rfl rfl (fun a F => ?_)
     refine x_end ?_
     refine x_tn ?_
     refine x_ifT F rfl hlk607 ?_
     refine x_skip ?_
     refine x_tn ?_
     refine x_seq ?_
     have ikk607 := k64O hd611 i557 i615
     have ink607 := inc64O hd611 i557 i615
     refine x_blk ?_
     refine x_seq ?_
     refine x_reg ?_
     refine o_move F rfl rfl (fun a F => ?_)
     refine o_bfield fa95_1 F rfl rfl rfl (fun a F => ?_)
     refine oB Tryz.isAgg2 F rfl rfl (H.b 2 rfl) rfl (fun a F => ?_)
     refine oR1z (R := RInt) (y := s600) Tryz.underlying42 Tryz.sizeOf2 Tryz.zeroValue2 rfl rfl F rfl rfl H (Eo.int i601) (fun a w v616 H F => ?_)
     obtain ⟨z618, c619, hR⟩ := bnd_some hR
     refine oPL (sz := 1) (R := RInt) (z := (.int .i64 0)) (bytes := 8) Tryz.underlying42 (by kernel_rfl) rfl rfl F rfl rfl rfl (H.s [1, 0, 2, 3, 4] rfl rfl) c619 (fun a w v620 H F => ?_)
     refine o_assign F rfl rfl (fun a F => ?_)
     refine x_end ?_
     refine x_tn ?_
     refine x_reg ?_
     refine o_bfield fa95_1 F rfl rfl rfl (fun a F => ?_)
     refine oB Tryz.isAgg2 F rfl rfl (H.b 2 rfl) rfl (fun a F => ?_)
     obtain ⟨z622, c623, hR⟩ := bnd_some hR
     refine o_add F rfl rfl rfl c623 (fun a F => ?_)
     refine o_bfield fa95_1 F rfl rfl rfl (fun a F => ?_)
     refine oW Tryz.sizeOf2 F rfl rfl rfl (H.s [2, 0, 1, 3] rfl rfl) rfl rfl rfl (fun w H => ?_)
     refine x_end ?_
     refine x_bn ?_
     refine x_tn ?_
     refine x_reg ?_
     refine o_move F rfl rfl (fun a F => ?_)
     refine o_incO F rfl rfl rfl ink607 (fun a F => ?_)
     refine o_assign F rfl rfl (fun a F => ?_)
     refine x_end ?_
     refine x_tn ?_
     replace hR := l_go hR hn594
     exact ⟨_, Nat.lt_succ_self _, k607 + 1, z618, v620, z622, (by omega), hR, F.sub (sc rfl (sc rfl (sc rfl (sc rfl (sc rfl (sc rfl (sc rfl (sc rfl sn)))))))), (H.s [1, 2, 0, 3] rfl rfl), (ck64 c623)⟩
   intro a w ⟨s602, v604, s605, ho593, F, H, i606⟩
   subst ho593
   have hR := then_nx hk592
   refine x_tn ?_
   obtain ⟨z631, c632, hR⟩ := bnd_some hR
   obtain ⟨z636, c637, hR⟩ := bnd_some hR
   refine xD H (by kernel_rfl) (fun w H => ?_)
   refine dp (fun G => ∀ (v658 : Value) (a : Act) (w : World), Sk a 101 [(0, v0), (1, v1), (4, .pointer (some ⟨b11, 0, none⟩)), (5, .pointer (some ⟨b25, 0, none⟩)), (6, .int .i64 (k456 : Int)), (91, v450), (97, v658)] → Sep [] B w0 w [rl 2 RAtom 158 v658 z631, rl 2 RAtom 158 v450 s448, bx b25 [.int .i64 x0.free, .int .i64 s605, v450] 95, bx b11 [.int .i64 0, .int .i64 0, (.slice none 0 0)] 95] → ∀ ls, ls = #[true, true, true, true, true, true, true, true, false, false, false] → G 3 ls a w) ?_ (fun H659 => ?_)
   ·
    intro v658 a w F H ls hls
    subst hls
    refine xE H 8 rfl (by kernel_rfl) ?_
    refine oPL (sz := 2) (R := RAtom) (z := (.agg #[.int .i64 0, (.slice none 0 0)])) (bytes := 32) Tryz.underlying93 (by kernel_rfl) rfl rfl F rfl rfl rfl (H.s [1, 0, 2, 3] rfl rfl) c637 (fun a w v660 H F => ?_)
    refine x_end ?_
    refine x_tn ?_
    refine ⟨⟨_, H⟩, ?_⟩
    refine b_q 9 (by kernel_rfl) rfl (by kernel_rfl) (by kernel_rfl) (by kernel_rfl) (by kernel_rfl) ?_
    refine v_val F rfl (fun w l => r_bfield fa95_2 F rfl rfl) (fun a F => ?_)
    refine xE H 10 rfl (by kernel_rfl) ?_
    refine oW Tryz.sizeOf93 F rfl rfl rfl (H.s [1, 0, 2] rfl rfl) ((H.s [1, 0, 2] rfl rfl).l 1 rfl).one rfl rfl (fun w H => ?_)
    refine x_end ?_
    refine x_tn ?_
    refine ⟨⟨_, H⟩, ?_⟩
    refine b_end (by kernel_rfl) ?_
    refine x_bn ?_
    refine x_tn ?_
    refine x_reg ?_
    refine o_move F rfl rfl (fun a F => ?_)
    refine o_inc F rfl rfl rfl ink456 (fun a F => ?_)
    refine o_assign F rfl rfl (fun a F => ?_)
    refine x_end ?_
    refine x_tn ?_
    replace hR := l_go hR hn443
    exact ⟨_, Nat.lt_succ_self _, k456 + 1, rest457, s605, z636, v660, ⟨hd460.1, hd460.2.2⟩, rfl, hR, F.sub (sc rfl (sc rfl (sc rfl (sc rfl (sc rfl sn))))), (H.s [1, 0, 2] rfl rfl), i606⟩
   refine b_q 0 (by kernel_rfl) rfl (by kernel_rfl) (by kernel_rfl) (by kernel_rfl) (by kernel_rfl) ?_
   refine v_val F rfl (fun w l => r_bfield fa95_2 F rfl rfl) (fun a F => ?_)
   refine b_q0 2 rfl (by kernel_rfl) (by kernel_rfl) (by kernel_rfl) ?_
   refine v_val F rfl (fun w l => r_move F rfl) (fun a F => ?_)
   refine b_q 3 (by kernel_rfl) rfl (by kernel_rfl) (by kernel_rfl) (by kernel_rfl) (by kernel_rfl) ?_
   refine vN F rfl rfl h545 (fun a F => ?_)
   refine b_q 4 (by kernel_rfl) rfl (by kernel_rfl) (by kernel_rfl) (by kernel_rfl) (by kernel_rfl) ?_
   refine vF (s' := 1) fa95_2 F rfl rfl h545 RFormula.f2 (fun a p647 h648 F => ?_)
   refine b_q 5 (by kernel_rfl) rfl (by kernel_rfl) (by kernel_rfl) (by kernel_rfl) (by kernel_rfl) ?_
   refine vlS Tryz.isAgg93 F rfl rfl H.v h648 (fun a v649 h650 F => ?_)
   refine b_q0 6 rfl (by kernel_rfl) (by kernel_rfl) (by kernel_rfl) ?_
   refine v_val F rfl (fun w l => r_move F rfl) (fun a F => ?_)
   refine b_es [1, 7] (by kernel_rfl) (by simp) ⟨⟨_, rfl, ?_⟩, ⟨_, rfl, ?_⟩, trivial⟩
   ·
    refine xEs H ?_
    refine oB Tryz.isAgg93 F rfl rfl (H.b 2 rfl) rfl (fun a F => ?_)
    refine x_end ?_
    refine x_tn ?_
    refine ⟨⟨_, H⟩, ?_⟩
    refine xE H 7 rfl (by kernel_rfl) ?_
    refine oG F rfl Tryz.call116 rfl (spec_l03Moved_c z631 c632 _ aA (H.a h650) (H.l 0 rfl)) (fun a vv w ⟨v651, hv653, S⟩ F => ?_)
    subst vv
    have H := H.r1 S n0
    refine x_end ?_
    refine x_tn ?_
    refine ⟨⟨_, H⟩, ?_⟩
    exact H659 v651 _ _ (F.sub (sc rfl (sc rfl (sc rfl (sc rfl (sc rfl (sc rfl (sc rfl sn)))))))) (H.s [0, 2, 3, 4] rfl rfl) _ (by kernel_rfl)
   refine xEs H ?_
   refine oG F rfl Tryz.call116 rfl (spec_l03Moved_c z631 c632 _ aA (H.a h650) (H.l 0 rfl)) (fun a vv w ⟨v654, hv656, S⟩ F => ?_)
   subst vv
   have H := H.r1 S n0
   refine x_end ?_
   refine x_tn ?_
   refine ⟨⟨_, H⟩, ?_⟩
   refine xE H 1 rfl (by kernel_rfl) ?_
   refine oB Tryz.isAgg93 F rfl rfl (H.b 3 rfl) rfl (fun a F => ?_)
   refine x_end ?_
   refine x_tn ?_
   refine ⟨⟨_, H⟩, ?_⟩
   exact H659 v654 _ _ (F.sub (sc rfl (sc rfl (sc rfl (sc rfl (sc rfl (sc rfl (sc rfl sn)))))))) (H.s [0, 2, 3, 4] rfl rfl) _ (by kernel_rfl)
 intro a w ⟨s451, s453, v455, ho442, F, H, i452⟩
 subst ho442
 have hR := then_nx hk441
 refine x_tn ?_
 refine x_seq ?_
 refine x_reg ?_
 refine oBA Tryz.isAgg95 Tryz.sizeOf95 F rfl rfl (H.b 1 rfl) rfl rfl (fun a F => ?_)
 refine oWA (vs := [.int .i64 x0.free, .int .i64 s451, v455]) Tryz.sizeOf95 F rfl rfl rfl (H.s [2, 0, 1] rfl rfl) (oc rfl (oc rfl (oc ((H.s [2, 0, 1] rfl rfl).l 1 rfl).one on))) rfl rfl (fun w H => ?_)
 refine x_end ?_
 refine x_tn ?_
 refine x_ret ?_
 refine x_res1 F rfl (rv_cA (arr := #[.int .i64 x0.free, .int .i64 s451, v455]) F Tryz.isAgg95 Tryz.sizeOf95 rfl (H.b 0 rfl)) ?_
 obtain rfl := Option.some.inj hR
 exact ⟨_, rfl, v455, rfl, (H.s [1] rfl rfl), i21, i452⟩

def spec_l03Told (x0 : Formula) : Option (Formula × Int) :=
 thn (σ := Bool) (
  if (decide (8 < x0.vars)) then  some (.nx true) else  some (.nx (decide (16 < (x0.atoms.length : Int))))) fun s18 =>
 if s18 then
  some ((Formula.mk 0 0 ([])), 3)
 else
  some ((Formula.mk x0.free x0.vars x0.atoms), 0)
set_option maxHeartbeats 1000000 in
theorem spec_l03Told_c {B : Nat → Prop} {x0 : Formula} (r : Formula × Int) (hR : spec_l03Told x0 = some r) {v0_atoms : Value} {X0 : List Nat} (w0 : World) (hN : ∀ c, B c → c < w0.heap.size) (S0 : Sep X0 B w0 w0 [rl 2 RAtom 158 v0_atoms x0.atoms]) (hx0_free : I64 x0.free) (hx0_vars : I64 x0.vars) : Calls Tryz.prog 59 #[(.agg #[.int .i64 x0.free, .int .i64 x0.vars, v0_atoms])] w0 (Gv (fun v w' => ∃ (v1' : Value), v = .tuple #[.agg #[.int .i64 r.1.free, .int .i64 r.1.vars, v1'], .int .i64 r.2] ∧ Sep X0 B w0 w' [rl 2 RAtom 158 v1' r.1.atoms] ∧ I64 r.1.free ∧ I64 r.1.vars ∧ I64 r.2)) := by
 unfold spec_l03Told at hR
 refine x_enter (L := [(0, (.agg #[.int .i64 x0.free, .int .i64 x0.vars, v0_atoms]))]) Tryz.func59 rfl rfl rfl (sc rfl sn) (fun a F => ?_)
 have H := S0
 refine x_seq ?_
 refine x_reg ?_
 refine oX F rfl rfl rfl H (fun a w b11 H F => ?_)
 refine oA Tryz.zeroValue95 F rfl rfl H (fun a w b12 H F => ?_)
 refine o_assign F rfl rfl (fun a F => ?_)
 refine x_end ?_
 refine x_tn ?_
 refine x_seq ?_
 refine x_seq ?_
 obtain ⟨o15, hR, hk16⟩ := thn_some hR
 refine x_cutQ (fun a w => ∃ (s18 : Bool), o15 = .nx s18 ∧ Sk a 15 [(1, .pointer (some ⟨b11, 0, none⟩)), (2, .pointer (some ⟨b12, 0, none⟩)), (12, .bool s18)] ∧ Sep X0 B w0 w [bx b12 [.int .i64 0, .int .i64 0, (.slice none 0 0)] 95, bx b11 [.int .i64 x0.free, .int .i64 x0.vars, v0_atoms] 95, rl 2 RAtom 158 v0_atoms x0.atoms]) ?_ ?_
 ·
  refine x_reg ?_
  refine o_bfield fa95_1 F rfl rfl rfl (fun a F => ?_)
  refine oB Tryz.isAgg2 F rfl rfl (H.b 1 rfl) rfl (fun a F => ?_)
  refine o_gtr F rfl rfl rfl (fun a F => ?_)
  refine o_move F rfl rfl (fun a F => ?_)
  rcases bcases (decide (8 < x0.vars)) with hb19 | hb19
  ·
   replace hR := ifT hb19 hR
   have F := F.eq (t := 7) rfl (congrArg Value.bool hb19)
   refine o_no F rfl rfl (fun a F => ?_)
   refine o_no F rfl rfl (fun a F => ?_)
   refine o_no F rfl rfl (fun a F => ?_)
   refine o_no F rfl rfl (fun a F => ?_)
   refine o_pickt F rfl rfl rfl (fun a F => ?_)
   refine x_end ?_
   refine x_tn ?_
   exact ⟨true, (Option.some.inj hR).symm, F.sub (sc rfl (sc rfl (sc rfl sn))), H⟩
  replace hR := ifF hb19 hR
  have F := F.eq (t := 7) rfl (congrArg Value.bool hb19)
  refine o_bfield fa95_2 F rfl rfl rfl (fun a F => ?_)
  refine oB Tryz.isAgg93 F rfl rfl (H.b 1 rfl) rfl (fun a F => ?_)
  refine oL Tryz.underlying93 F rfl rfl (H.l 2 rfl) (fun a i20 F => ?_)
  refine o_gtr F rfl rfl rfl (fun a F => ?_)
  refine o_pickf F rfl rfl rfl (fun a F => ?_)
  refine x_end ?_
  refine x_tn ?_
  exact ⟨(decide (16 < (x0.atoms.length : Int))), (Option.some.inj hR).symm, F.sub (sc rfl (sc rfl (sc rfl sn))), H⟩
 intro a w ⟨s18, ho17, F, H⟩
 subst ho17
 have hR := then_nx hk16
 refine x_tn ?_
 refine x_if F rfl (fun hb21 => ?_) (fun hb21 => ?_)
 ·
  replace hR := ifT hb21 hR
  refine x_seq ?_
  refine x_reg ?_
  refine o_build Tryz.underlying95 Tryz.zeroValue95 (fun w => by simp [Tryz.sizeOf2, Tryz.sizeOf93]; rfl) F rfl rfl rfl rfl rfl on rfl rfl (fun a F => ?_)
  refine oWA (vs := [.int .i64 0, .int .i64 0, (.slice none 0 0)]) Tryz.sizeOf95 F rfl rfl rfl H (oc rfl (oc rfl (oc rfl on))) rfl rfl (fun w H => ?_)
  refine o_assign F rfl rfl (fun a F => ?_)
  refine x_end ?_
  refine x_tn ?_
  refine x_ret ?_
  refine x_tr ?_
  refine x_res2 F rfl (rv_cA (arr := #[.int .i64 0, .int .i64 0, (.slice none 0 0)]) F Tryz.isAgg95 Tryz.sizeOf95 rfl (H.b 0 rfl)) (rv_t F rfl) ?_
  obtain rfl := Option.some.inj hR
  exact ⟨_, rfl, (.slice none 0 0), rfl, ((H.nl 2 RAtom 158).s [0] rfl rfl), (show I64 0 by decide), (show I64 0 by decide), (show I64 (3) by decide)⟩
 replace hR := ifF hb21 hR
 refine x_skip ?_
 refine x_tn ?_
 refine x_seq ?_
 refine x_reg ?_
 refine oBA Tryz.isAgg95 Tryz.sizeOf95 F rfl rfl (H.b 1 rfl) rfl rfl (fun a F => ?_)
 refine oWA (vs := [.int .i64 x0.free, .int .i64 x0.vars, v0_atoms]) Tryz.sizeOf95 F rfl rfl rfl H (oc rfl (oc rfl (oc (H.l 2 rfl).one on))) rfl rfl (fun w H => ?_)
 refine o_assign F rfl rfl (fun a F => ?_)
 refine x_end ?_
 refine x_tn ?_
 refine x_ret ?_
 refine x_res2 F rfl (rv_cA (arr := #[.int .i64 x0.free, .int .i64 x0.vars, v0_atoms]) F Tryz.isAgg95 Tryz.sizeOf95 rfl (H.b 0 rfl)) (rv_t F rfl) ?_
 obtain rfl := Option.some.inj hR
 exact ⟨_, rfl, v0_atoms, rfl, (H.s [2] rfl rfl), hx0_free, hx0_vars, (show I64 (0) by decide)⟩

def spec_ComposeGadgets (N : Nat) (x0 : Template) (x1 : Template) (x2 : Template) (x3 : Gadgets) (x4 : Gadgets) : Option (Gadgets × Int) :=
 thn (σ := Bool) (
  bnd (spec_l09Ok N (Template.mk x0.size x0.rels) (Template.mk x1.size x1.rels) (Gadgets.mk x3.formulas)) fun z39 =>
  if (!z39) then  some (.nx true) else  bnd (spec_l09Ok N (Template.mk x1.size x1.rels) (Template.mk x2.size x2.rels) (Gadgets.mk x4.formulas)) fun z42 =>
   some (.nx (!z42))) fun s38 =>
 if s38 then
  some ((Gadgets.mk ([])), 1)
 else
  thn (σ := (List Formula)) (
   forL (σ := (List Formula)) (ρ := Gadgets × Int) (fun (k126 : Nat) (x128 : Formula) (s120 : (List Formula)) =>
    bnd (spec_l09Through x128 (Gadgets.mk x4.formulas)) fun z135 =>
    bnd (spec_l03Told (Formula.mk z135.free z135.vars z135.atoms)) fun z142 =>
    if (z142.2 != 0) then
     some (.ret ((Gadgets.mk ([])), z142.2))
    else
     bnd (ap s120 ([(Formula.mk z142.1.free z142.1.vars z142.1.atoms)])) fun z159 =>
     some (.go z159)) x3.formulas 0 []) fun s123 =>
  some ((Gadgets.mk s123), 0)
set_option maxHeartbeats 1000000 in
theorem spec_ComposeGadgets_c {B : Nat → Prop} {N : Nat} {x0 : Template} {x1 : Template} {x2 : Template} {x3 : Gadgets} {x4 : Gadgets} (r : Gadgets × Int) (hR : spec_ComposeGadgets N x0 x1 x2 x3 x4 = some r) {v0 : Value} {v1 : Value} {v2 : Value} {v3 : Value} {v4 : Value} (w0 : World) (hN : ∀ c, B c → c < w0.heap.size) (A0 : Bo B w0 (Agg 2 RTemplate) v0 x0) (A1 : Bo B w0 (Agg 2 RTemplate) v1 x1) (A2 : Bo B w0 (Agg 2 RTemplate) v2 x2) (A3 : Bo B w0 (Agg 1 RGadgets) v3 x3) (A4 : Bo B w0 (Agg 1 RGadgets) v4 x4) : Calls Tryz.prog 25 #[v0, v1, v2, v3, v4] w0 (Gv (fun v w' => ∃ (v1' : Value), v = .tuple #[.agg #[v1'], .int .i64 r.2] ∧ Sep [] B w0 w' [rl 3 RFormula 95 v1' r.1.formulas] ∧ I64 r.2)) := by
 unfold spec_ComposeGadgets at hR
 refine x_enter (L := [(0, v0), (1, v1), (2, v2), (3, v3), (4, v4)]) Tryz.func25 rfl rfl rfl (sc rfl (sc rfl (sc rfl (sc rfl (sc rfl sn))))) (fun a F => ?_)
 have H := Sep.start hN
 refine x_seq ?_
 refine x_reg ?_
 obtain ⟨v12, rfl, i11, h13⟩ := RTemplate.o A0
 refine oX F rfl rfl rfl H (fun a w b14 H F => ?_)
 obtain ⟨v16, rfl, i15, h17⟩ := RTemplate.o A1
 refine oX F rfl rfl rfl H (fun a w b18 H F => ?_)
 obtain ⟨v20, rfl, i19, h21⟩ := RTemplate.o A2
 refine oX F rfl rfl rfl H (fun a w b22 H F => ?_)
 obtain ⟨v23, rfl, h24⟩ := RGadgets.o A3
 refine oX F rfl rfl rfl H (fun a w b25 H F => ?_)
 obtain ⟨v26, rfl, h27⟩ := RGadgets.o A4
 refine oX F rfl rfl rfl H (fun a w b28 H F => ?_)
 refine oA Tryz.zeroValue37 F rfl rfl H (fun a w b29 H F => ?_)
 refine o_assign F rfl rfl (fun a F => ?_)
 refine x_end ?_
 refine x_tn ?_
 refine x_seq ?_
 refine x_seq ?_
 obtain ⟨o35, hR, hk36⟩ := thn_some hR
 refine x_cutQ (fun a w => ∃ (s38 : Bool), o35 = .nx s38 ∧ Sk a 51 [(8, .pointer (some ⟨b25, 0, none⟩)), (9, .pointer (some ⟨b28, 0, none⟩)), (10, .pointer (some ⟨b29, 0, none⟩)), (21, .bool s38)] ∧ Sep [] B w0 w [bx b29 [(.slice none 0 0)] 37, bx b28 [v26] 37, bx b25 [v23] 37]) ?_ ?_
 ·
  refine x_reg ?_
  obtain ⟨z39, c40, hR⟩ := bnd_some hR
  refine oK F rfl Tryz.call44 rfl H (spec_l09Ok_c z39 c40 _ aA (RTemplate.b (H.g 5 rfl).bk i11 (H.a h13)) (RTemplate.b (H.g 4 rfl).bk i15 (H.a h17)) (RGadgets.b (H.g 2 rfl).bk (H.a h24))) (fun a w H F => ?_)
  refine o_not F rfl rfl (fun a F => ?_)
  refine o_move F rfl rfl (fun a F => ?_)
  rcases bcases (!z39) with hb41 | hb41
  ·
   replace hR := ifT hb41 hR
   have F := F.eq (t := 18) rfl (congrArg Value.bool hb41)
   refine o_no F rfl rfl (fun a F => ?_)
   refine o_no F rfl rfl (fun a F => ?_)
   refine o_pickt F rfl rfl rfl (fun a F => ?_)
   refine x_end ?_
   refine x_tn ?_
   exact ⟨true, (Option.some.inj hR).symm, F.sub (sc rfl (sc rfl (sc rfl (sc rfl sn)))), (H.s [0, 1, 2] rfl rfl)⟩
  replace hR := ifF hb41 hR
  have F := F.eq (t := 18) rfl (congrArg Value.bool hb41)
  obtain ⟨z42, c43, hR⟩ := bnd_some hR
  refine oK F rfl Tryz.call44 rfl H (spec_l09Ok_c z42 c43 _ aA (RTemplate.b (H.g 4 rfl).bk i15 (H.a h17)) (RTemplate.b (H.g 3 rfl).bk i19 (H.a h21)) (RGadgets.b (H.g 1 rfl).bk (H.a h27))) (fun a w H F => ?_)
  refine o_not F rfl rfl (fun a F => ?_)
  refine o_pickf F rfl rfl rfl (fun a F => ?_)
  refine x_end ?_
  refine x_tn ?_
  exact ⟨(!z42), (Option.some.inj hR).symm, F.sub (sc rfl (sc rfl (sc rfl (sc rfl sn)))), (H.s [0, 1, 2] rfl rfl)⟩
 intro a w ⟨s38, ho37, F, H⟩
 subst ho37
 have hR := then_nx hk36
 refine x_tn ?_
 refine x_if F rfl (fun hb44 => ?_) (fun hb44 => ?_)
 ·
  replace hR := ifT hb44 hR
  refine x_seq ?_
  refine x_reg ?_
  refine o_build Tryz.underlying37 Tryz.zeroValue37 (fun w => by simp [Tryz.sizeOf35]; rfl) F rfl rfl rfl rfl rfl on rfl rfl (fun a F => ?_)
  refine oWA (vs := [(.slice none 0 0)]) Tryz.sizeOf37 F rfl rfl rfl H (oc rfl on) rfl rfl (fun w H => ?_)
  refine o_assign F rfl rfl (fun a F => ?_)
  refine x_end ?_
  refine x_tn ?_
  refine x_ret ?_
  refine x_tr ?_
  refine x_res2 F rfl (rv_cA (arr := #[(.slice none 0 0)]) F Tryz.isAgg37 Tryz.sizeOf37 rfl (H.b 0 rfl)) (rv_t F rfl) ?_
  obtain rfl := Option.some.inj hR
  exact ⟨_, rfl, (.slice none 0 0), rfl, ((H.nl 3 RFormula 95).s [0] rfl rfl), (show I64 (1) by decide)⟩
 replace hR := ifF hb44 hR
 refine x_skip ?_
 refine x_tn ?_
 refine x_seq ?_
 refine x_reg ?_
 refine o_build Tryz.underlying37 Tryz.zeroValue37 (fun w => by simp [Tryz.sizeOf35]; rfl) F rfl rfl rfl rfl rfl on rfl rfl (fun a F => ?_)
 refine oA Tryz.zeroValue37 F rfl rfl H (fun a w b46 H F => ?_)
 refine oWA (vs := [(.slice none 0 0)]) Tryz.sizeOf37 F rfl rfl rfl H (oc rfl on) rfl rfl (fun w H => ?_)
 refine x_end ?_
 refine x_tn ?_
 refine x_seq ?_
 refine x_seq ?_
 refine x_reg ?_
 refine o_assign F rfl rfl (fun a F => ?_)
 refine x_end ?_
 refine x_tn ?_
 obtain ⟨o114, hR, hk115⟩ := thn_some hR
 refine x_cutQ (fun a w => ∃ (s123 : List Formula) (v125 : Value), o114 = .nx s123 ∧ Sk a 51 [(10, .pointer (some ⟨b29, 0, none⟩)), (12, .pointer (some ⟨b46, 0, none⟩))] ∧ Sep [] B w0 w [rl 3 RFormula 95 v125 s123, bx b46 [v125] 37, bx b29 [(.slice none 0 0)] 37]) ?_ ?_
 ·
  refine x_blk ?_
  obtain ⟨fl118, hf119, hR⟩ := forL_gen hR
  refine x_loop (fun g a w => ∃ (k126 : Nat) (rest127 : List Formula) (s120 : List Formula) (v122 : Value), (k126 ≤ x3.formulas.length ∧ x3.formulas.drop k126 = rest127) ∧ rest127.length = g ∧ forL fl118 rest127 k126 s120 = some o114 ∧ Sk a 51 [(13, .int .i64 (k126 : Int)), (8, .pointer (some ⟨b25, 0, none⟩)), (9, .pointer (some ⟨b28, 0, none⟩)), (10, .pointer (some ⟨b29, 0, none⟩)), (12, .pointer (some ⟨b46, 0, none⟩))] ∧ Sep [] B w0 w [rl 3 RFormula 95 v122 s120, bx b46 [v122] 37, bx b29 [(.slice none 0 0)] 37, bx b28 [v26] 37, bx b25 [v23] 37]) x3.formulas.length ?_ ?_
  ·
   exact ⟨0, x3.formulas, [], (.slice none 0 0), ⟨Nat.zero_le _, rfl⟩, rfl, hR, F.sub (sc rfl (sc rfl (sc rfl (sc rfl (sc rfl sn))))), (H.nl 3 RFormula 95)⟩
  intro g129 a w ⟨k126, rest127, s120, v122, hd130, hg131, hR, F, H⟩
  cases rest127 with
  | nil =>
   replace hR := forL_nil hR
   have hkk126 := drop_nil hd130.1 hd130.2
   have hlk126 := dec_no hkk126
   refine x_seq ?_
   refine x_seq ?_
   refine x_reg ?_
   refine o_move F rfl rfl (fun a F => ?_)
   refine o_bfield fa37_0 F rfl rfl rfl (fun a F => ?_)
   refine oB Tryz.isAgg35 F rfl rfl (H.b 4 rfl) rfl (fun a F => ?_)
   refine oL Tryz.underlying35 F rfl rfl h24 (fun a i163 F => ?_)
   refine o_lss F rfl rfl rfl (fun a F => ?_)
   refine x_end ?_
   refine x_tn ?_
   refine x_ifF F rfl hlk126 ?_
   refine x_exit ?_
   refine x_te ?_
   refine x_te ?_
   refine x_be ?_
   refine x_tn ?_
   exact ⟨s120, v122, (Option.some.inj hR).symm, F.sub (sc rfl (sc rfl sn)), (H.s [0, 1, 2] rfl rfl)⟩
  | cons x128 rest127 =>
   subst hg131
   replace hd130 := drop_cons hd130.2
   have hxk126 := ix_nat hd130.2.1
   obtain ⟨ck126, hR, hn117⟩ := forL_cons hR
   rw [hf119] at hR
   have hlk126 := dec_yes hd130.1
   refine x_seq ?_
   refine x_seq ?_
   refine x_reg ?_
   refine o_move F rfl rfl (fun a F => ?_)
   refine o_bfield fa37_0 F rfl rfl rfl (fun a F => ?_)
   refine oB Tryz.isAgg35 F rfl rfl (H.b 4 rfl) rfl (fun a F => ?_)
   refine oL Tryz.underlying35 F rfl rfl h24 (fun a i132 F => ?_)
   refine o_lss F rfl rfl rfl (fun a F => ?_)
   refine x_end ?_
   refine x_tn ?_
   refine x_ifT F rfl hlk126 ?_
   refine x_skip ?_
   refine x_tn ?_
   refine x_seq ?_
   have ikk126 := k64 (Nat.le_of_lt hd130.1) i132
   have ink126 := inc64 hd130.1 i132
   refine x_blk ?_
   refine x_seq ?_
   refine x_reg ?_
   refine o_bfield fa37_0 F rfl rfl rfl (fun a F => ?_)
   refine oB Tryz.isAgg35 F rfl rfl (H.b 4 rfl) rfl (fun a F => ?_)
   refine o_move F rfl rfl (fun a F => ?_)
   refine oI Tryz.underlying35 Tryz.sizeOf95 F rfl rfl rfl h24 hxk126 (fun a p133 h134 F => ?_)
   obtain ⟨z135, c136, hR⟩ := bnd_some hR
   refine oG F rfl Tryz.call60 rfl (spec_l09Through_c z135 c136 _ aA (H.a h134) (RGadgets.b (H.g 3 rfl).bk (H.a h27))) (fun a vv w ⟨v139, hv141, S, i137, i138⟩ F => ?_)
   subst vv
   have H := H.r1 S n0
   obtain ⟨z142, c143, hR⟩ := bnd_some hR
   obtain ⟨X144, K145, bk146⟩ := Sep.lend (K := [rl 2 RAtom 158 v139 z135.atoms]) (L := [rl 3 RFormula 95 v122 s120, bx b46 [v122] 37, bx b29 [(.slice none 0 0)] 37, bx b28 [v26] 37, bx b25 [v23] 37]) H
   refine oG F rfl Tryz.call59 rfl (spec_l03Told_c z142 c143 _ H.hN K145 i137 i138) (fun a vv w ⟨v149, hv152, S, i147, i148, i151⟩ F => ?_)
   subst vv
   have H : Sep [] B w0 w [rl 2 RAtom 158 v149 z142.1.atoms, rl 3 RFormula 95 v122 s120, bx b46 [v122] 37, bx b29 [(.slice none 0 0)] 37, bx b28 [v26] 37, bx b25 [v23] 37] := bk146 S
   refine o_move F rfl rfl (fun a F => ?_)
   refine o_extract F rfl rfl rfl (fun a F => ?_)
   refine o_extract F rfl rfl rfl (fun a F => ?_)
   refine oA Tryz.zeroValue95 F rfl rfl H (fun a w b153 H F => ?_)
   refine oWA (vs := [.int .i64 z142.1.free, .int .i64 z142.1.vars, v149]) Tryz.sizeOf95 F rfl rfl rfl H (oc rfl (oc rfl (oc (H.l 1 rfl).one on))) rfl rfl (fun w H => ?_)
   refine o_assign F rfl rfl (fun a F => ?_)
   refine x_end ?_
   refine x_tn ?_
   refine x_seq ?_
   refine x_seq ?_
   refine x_reg ?_
   refine o_move F rfl rfl (fun a F => ?_)
   refine o_neq F rfl rfl rfl (fun a F => ?_)
   refine x_end ?_
   refine x_tn ?_
   refine x_if F rfl (fun hb154 => ?_) (fun hb154 => ?_)
   ·
    replace hR := ifT hb154 hR
    refine x_seq ?_
    refine x_reg ?_
    refine o_build Tryz.underlying37 Tryz.zeroValue37 (fun w => by simp [Tryz.sizeOf35]; rfl) F rfl rfl rfl rfl rfl on rfl rfl (fun a F => ?_)
    refine o_move F rfl rfl (fun a F => ?_)
    refine oWA (vs := [(.slice none 0 0)]) Tryz.sizeOf37 F rfl rfl rfl (H.s [4, 0, 1, 2, 3, 5, 6] rfl rfl) (oc rfl on) rfl rfl (fun w H => ?_)
    refine o_assign F rfl rfl (fun a F => ?_)
    refine x_end ?_
    refine x_tn ?_
    refine x_ret ?_
    refine x_tr ?_
    refine x_br ?_
    refine x_tr ?_
    refine x_tr ?_
    replace hR := l_ret hR hn117
    refine x_br ?_
    refine x_tr ?_
    replace hR := j_ret hR hk115
    refine x_tr ?_
    refine x_res2 F rfl (rv_cA (arr := #[(.slice none 0 0)]) F Tryz.isAgg37 Tryz.sizeOf37 rfl (H.b 0 rfl)) (rv_t F rfl) ?_
    obtain rfl := Option.some.inj hR
    exact ⟨_, rfl, (.slice none 0 0), rfl, ((H.nl 3 RFormula 95).s [0] rfl rfl), i151⟩
   replace hR := ifF hb154 hR
   refine x_skip ?_
   refine x_tn ?_
   refine x_reg ?_
   refine o_bfield fa37_0 F rfl rfl rfl (fun a F => ?_)
   refine oB Tryz.isAgg35 F rfl rfl (H.b 3 rfl) rfl (fun a F => ?_)
   refine oBA Tryz.isAgg95 Tryz.sizeOf95 F rfl rfl (H.b 0 rfl) rfl rfl (fun a F => ?_)
   have H := (RFormula.w i147 i148 (H.s [1, 0, 2, 3, 4, 5, 6] rfl rfl))
   refine oR1L (R := RFormula) (y := (Formula.mk z142.1.free z142.1.vars z142.1.atoms)) Tryz.underlying35 Tryz.sizeOf95 Tryz.zeroValue95 rfl rfl F rfl rfl H El.agg (fun a w v156 H F => ?_)
   obtain ⟨z159, c160, hR⟩ := bnd_some hR
   refine oPL (sz := 3) (R := RFormula) (z := (.agg #[.int .i64 0, .int .i64 0, (.slice none 0 0)])) (bytes := 40) Tryz.underlying35 (by kernel_rfl) rfl rfl F rfl rfl rfl (H.s [2, 0, 1, 3, 4, 5, 6] rfl rfl) c160 (fun a w v161 H F => ?_)
   refine o_bfield fa37_0 F rfl rfl rfl (fun a F => ?_)
   refine oW Tryz.sizeOf35 F rfl rfl rfl (H.s [2, 0, 1, 3, 4, 5] rfl rfl) ((H.s [2, 0, 1, 3, 4, 5] rfl rfl).l 1 rfl).one rfl rfl (fun w H => ?_)
   refine x_end ?_
   refine x_bn ?_
   refine x_tn ?_
   refine x_reg ?_
   refine o_move F rfl rfl (fun a F => ?_)
   refine o_inc F rfl rfl rfl ink126 (fun a F => ?_)
   refine o_assign F rfl rfl (fun a F => ?_)
   refine x_end ?_
   refine x_tn ?_
   replace hR := l_go hR hn117
   exact ⟨_, Nat.lt_succ_self _, k126 + 1, rest127, z159, v161, ⟨hd130.1, hd130.2.2⟩, rfl, hR, F.sub (sc rfl (sc rfl (sc rfl (sc rfl (sc rfl sn))))), (H.s [1, 0, 3, 4, 5] rfl rfl)⟩
 intro a w ⟨s123, v125, ho116, F, H⟩
 subst ho116
 have hR := then_nx hk115
 refine x_tn ?_
 refine x_seq ?_
 refine x_reg ?_
 refine oBA Tryz.isAgg37 Tryz.sizeOf37 F rfl rfl (H.b 1 rfl) rfl rfl (fun a F => ?_)
 refine oWA (vs := [v125]) Tryz.sizeOf37 F rfl rfl rfl (H.s [2, 0, 1] rfl rfl) (oc ((H.s [2, 0, 1] rfl rfl).l 1 rfl).one on) rfl rfl (fun w H => ?_)
 refine o_assign F rfl rfl (fun a F => ?_)
 refine x_end ?_
 refine x_tn ?_
 refine x_ret ?_
 refine x_res2 F rfl (rv_cA (arr := #[v125]) F Tryz.isAgg37 Tryz.sizeOf37 rfl (H.b 0 rfl)) (rv_t F rfl) ?_
 obtain rfl := Option.some.inj hR
 exact ⟨_, rfl, v125, rfl, (H.s [1] rfl rfl), (show I64 (0) by decide)⟩

def impl_renamed (x0 : List Atom) (x1 : Int → Option Int) : Option (List Atom) :=
 thn (σ := (List Atom)) (
  forL (σ := (List Atom)) (ρ := (List Atom)) (fun (k136 : Nat) (x138 : Atom) (s130 : (List Atom)) =>
   thn (σ := (List Int)) (
    forL (σ := (List Int)) (ρ := (Ctl ((List Atom)) (List Atom))) (fun (k213 : Nat) (x215 : Int) (s207 : (List Int)) =>
     bnd (x1 x215) fun z222 =>
     bnd (ap s207 ([z222])) fun z226 =>
     some (.go z226)) x138.args 0 []) fun s210 =>
   bnd (ap s130 ([(Atom.mk x138.rel s210)])) fun z245 =>
   some (.go z245)) x0 0 []) fun s133 =>
 some s133
set_option maxHeartbeats 1000000 in
theorem impl_renamed_c {B : Nat → Prop} {x0 : List Atom} {x1 : Int → Option Int} (r : (List Atom)) (hR : impl_renamed x0 x1 = some r) {v0 : Value} {g1 : FuncId} {lb1 : List Value} (w0 : World) (hN : ∀ c, B c → c < w0.heap.size) (A0 : Bo B w0 (Sl 2 RAtom) v0 x0) (hg1 : ∀ args w, (callFunc g1 args).run Tryz.prog w = .ok (.enter g1 args) w) (hp1 : ∀ (a0 : Int) (r : Int), x1 a0 = some r → ∀ W, Below w0.heap.size w0 W → I64 a0 → Calls Tryz.prog g1 ([.int .i64 a0] ++ lb1 : List Value).toArray W (SaysI r W)) : Calls Tryz.prog 117 #[v0, .func (.func g1) #[] lb1.toArray] w0 (Gv (fun v w' => ∃ (v1' : Value), v = v1' ∧ Sep [] B w0 w' [rl 2 RAtom 158 v1' r])) := by
 unfold impl_renamed at hR
 refine x_enter (L := [(0, v0), (1, .func (.func g1) #[] lb1.toArray)]) Tryz.func117 rfl rfl rfl (sc rfl (sc rfl sn)) (fun a F => ?_)
 have H := Sep.start hN
 refine x_seq ?_
 refine x_reg ?_
 refine o_assign F rfl rfl (fun a F => ?_)
 refine x_end ?_
 refine x_tn ?_
 refine x_seq ?_
 refine x_reg ?_
 refine oR0 (R := RAtom) Tryz.underlying93 Tryz.sizeOf158 F rfl H (fun a w v11 H F => ?_)
 refine o_assign F rfl rfl (fun a F => ?_)
 refine x_end ?_
 refine x_tn ?_
 refine x_seq ?_
 refine x_seq ?_
 refine x_reg ?_
 refine o_move F rfl rfl (fun a F => ?_)
 refine oL Tryz.underlying93 F rfl rfl A0 (fun a i13 F => ?_)
 refine o_move F rfl rfl (fun a F => ?_)
 refine x_end ?_
 refine x_tn ?_
 obtain ⟨o124, hR, hk125⟩ := thn_some hR
 refine x_cutQ (fun a w => ∃ (s133 : List Atom) (v135 : Value), o124 = .nx s133 ∧ Sk a 43 [(5, v135)] ∧ Sep [] B w0 w [rl 2 RAtom 158 v135 s133]) ?_ ?_
 ·
  refine x_blk ?_
  obtain ⟨fl128, hf129, hR⟩ := forL_gen hR
  refine x_loop (fun g a w => ∃ (k136 : Nat) (rest137 : List Atom) (s130 : List Atom) (v132 : Value), (k136 ≤ x0.length ∧ x0.drop k136 = rest137) ∧ rest137.length = g ∧ forL fl128 rest137 k136 s130 = some o124 ∧ Sk a 43 [(14, .int .i64 (k136 : Int)), (1, .func (.func g1) #[] lb1.toArray), (5, v132), (12, v0), (13, .int .i64 (x0.length : Int))] ∧ Sep [] B w0 w [rl 2 RAtom 158 v132 s130]) x0.length ?_ ?_
  ·
   exact ⟨0, x0, [], v11, ⟨Nat.zero_le _, rfl⟩, rfl, hR, F.sub (sc rfl (sc rfl (sc rfl (sc rfl (sc rfl sn))))), H⟩
  intro g139 a w ⟨k136, rest137, s130, v132, hd140, hg141, hR, F, H⟩
  cases rest137 with
  | nil =>
   replace hR := forL_nil hR
   have hkk136 := drop_nil hd140.1 hd140.2
   have hlk136 := dec_no hkk136
   refine x_seq ?_
   refine x_reg ?_
   refine o_lss F rfl rfl rfl (fun a F => ?_)
   refine x_end ?_
   refine x_tn ?_
   refine x_seq ?_
   refine x_ifF F rfl hlk136 ?_
   refine x_exit ?_
   refine x_te ?_
   refine x_te ?_
   refine x_be ?_
   refine x_tn ?_
   exact ⟨s130, v132, (Option.some.inj hR).symm, F.sub (sc rfl sn), H⟩
  | cons x138 rest137 =>
   subst hg141
   replace hd140 := drop_cons hd140.2
   have hxk136 := ix_nat hd140.2.1
   obtain ⟨ck136, hR, hn127⟩ := forL_cons hR
   rw [hf129] at hR
   have hlk136 := dec_yes hd140.1
   refine x_seq ?_
   refine x_reg ?_
   refine o_lss F rfl rfl rfl (fun a F => ?_)
   refine x_end ?_
   refine x_tn ?_
   refine x_seq ?_
   refine x_ifT F rfl hlk136 ?_
   refine x_skip ?_
   refine x_tn ?_
   refine x_seq ?_
   have ikk136 := k64 (Nat.le_of_lt hd140.1) i13
   have ink136 := inc64 hd140.1 i13
   refine x_blk ?_
   refine x_seq ?_
   refine x_reg ?_
   refine oI Tryz.underlying93 Tryz.sizeOf158 F rfl rfl rfl A0 hxk136 (fun a p142 h143 F => ?_)
   refine olA Tryz.isAgg158 Tryz.sizeOf158 F rfl rfl H.sm h143 (fun a v144 h145 F => ?_)
   refine oA Tryz.zeroValue158 F rfl rfl H (fun a w b146 H F => ?_)
   obtain ⟨v148, rfl, i147, h149⟩ := RAtom.o h145
   refine oWA (vs := [.int .i64 x138.rel, v148]) Tryz.sizeOf158 F rfl rfl rfl H (oc rfl (oc (H.a h149).one on)) rfl rfl (fun w H => ?_)
   refine x_end ?_
   refine x_tn ?_
   refine x_seq ?_
   refine x_reg ?_
   refine o_bfield fa158_0 F rfl rfl rfl (fun a F => ?_)
   refine oB Tryz.isAgg2 F rfl rfl (H.b 0 rfl) rfl (fun a F => ?_)
   refine o_build Tryz.underlying158 Tryz.zeroValue158 (fun w => by simp [Tryz.sizeOf2, Tryz.sizeOf42]; rfl) F rfl rfl rfl rfl rfl (oc rfl on) rfl rfl (fun a F => ?_)
   refine oA Tryz.zeroValue158 F rfl rfl H (fun a w b150 H F => ?_)
   refine oWA (vs := [.int .i64 x138.rel, (.slice none 0 0)]) Tryz.sizeOf158 F rfl rfl rfl H (oc rfl (oc rfl on)) rfl rfl (fun w H => ?_)
   refine x_end ?_
   refine x_tn ?_
   refine x_seq ?_
   refine x_seq ?_
   refine x_reg ?_
   refine o_bfield fa158_1 F rfl rfl rfl (fun a F => ?_)
   refine oB Tryz.isAgg42 F rfl rfl (H.b 1 rfl) rfl (fun a F => ?_)
   refine oL Tryz.underlying42 F rfl rfl h149 (fun a i151 F => ?_)
   refine o_move F rfl rfl (fun a F => ?_)
   refine x_end ?_
   refine x_tn ?_
   obtain ⟨o201, hR, hk202⟩ := thn_some hR
   refine x_cutQ (fun a w => ∃ (s210 : List Int) (v212 : Value), o201 = .nx s210 ∧ Sk a 43 [(1, .func (.func g1) #[] lb1.toArray), (5, v132), (8, .pointer (some ⟨b150, 0, none⟩)), (12, v0), (13, .int .i64 (x0.length : Int)), (14, .int .i64 (k136 : Int))] ∧ Sep [] B w0 w [rl 1 RInt 2 v212 s210, bx b150 [.int .i64 x138.rel, v212] 158, rl 2 RAtom 158 v132 s130]) ?_ ?_
   ·
    refine x_blk ?_
    obtain ⟨fl205, hf206, hR⟩ := forL_gen hR
    refine x_loop (fun g a w => ∃ (k213 : Nat) (rest214 : List Int) (s207 : List Int) (v209 : Value), (k213 ≤ x138.args.length ∧ x138.args.drop k213 = rest214) ∧ rest214.length = g ∧ forL fl205 rest214 k213 s207 = some o201 ∧ Sk a 43 [(24, .int .i64 (k213 : Int)), (1, .func (.func g1) #[] lb1.toArray), (5, v132), (8, .pointer (some ⟨b150, 0, none⟩)), (12, v0), (13, .int .i64 (x0.length : Int)), (14, .int .i64 (k136 : Int)), (22, v148), (23, .int .i64 (x138.args.length : Int))] ∧ Sep [] B w0 w [rl 1 RInt 2 v209 s207, bx b150 [.int .i64 x138.rel, v209] 158, rl 2 RAtom 158 v132 s130]) x138.args.length ?_ ?_
    ·
     exact ⟨0, x138.args, [], (.slice none 0 0), ⟨Nat.zero_le _, rfl⟩, rfl, hR, F.sub (sc rfl (sc rfl (sc rfl (sc rfl (sc rfl (sc rfl (sc rfl (sc rfl (sc rfl sn))))))))), ((H.nl 1 RInt 2).s [0, 1, 3] rfl rfl)⟩
    intro g216 a w ⟨k213, rest214, s207, v209, hd217, hg218, hR, F, H⟩
    cases rest214 with
    | nil =>
     replace hR := forL_nil hR
     have hkk213 := drop_nil hd217.1 hd217.2
     have hlk213 := dec_no hkk213
     refine x_seq ?_
     refine x_reg ?_
     refine o_lss F rfl rfl rfl (fun a F => ?_)
     refine x_end ?_
     refine x_tn ?_
     refine x_seq ?_
     refine x_ifF F rfl hlk213 ?_
     refine x_exit ?_
     refine x_te ?_
     refine x_te ?_
     refine x_be ?_
     refine x_tn ?_
     exact ⟨s207, v209, (Option.some.inj hR).symm, F.sub (sc rfl (sc rfl (sc rfl (sc rfl (sc rfl (sc rfl sn)))))), H⟩
    | cons x215 rest214 =>
     subst hg218
     replace hd217 := drop_cons hd217.2
     have hxk213 := ix_nat hd217.2.1
     obtain ⟨ck213, hR, hn204⟩ := forL_cons hR
     rw [hf206] at hR
     have hlk213 := dec_yes hd217.1
     refine x_seq ?_
     refine x_reg ?_
     refine o_lss F rfl rfl rfl (fun a F => ?_)
     refine x_end ?_
     refine x_tn ?_
     refine x_seq ?_
     refine x_ifT F rfl hlk213 ?_
     refine x_skip ?_
     refine x_tn ?_
     refine x_seq ?_
     have ikk213 := k64 (Nat.le_of_lt hd217.1) i151
     have ink213 := inc64 hd217.1 i151
     refine x_blk ?_
     refine x_seq ?_
     refine x_reg ?_
     refine oI Tryz.underlying42 Tryz.sizeOf2 F rfl rfl rfl h149 hxk213 (fun a p219 h220 F => ?_)
     refine olI Tryz.isAgg2 F rfl rfl H.sm h220 (fun a i221 F => ?_)
     refine o_assign F rfl rfl (fun a F => ?_)
     refine x_end ?_
     refine x_tn ?_
     obtain ⟨z222, c223, hR⟩ := bnd_some hR
     obtain ⟨z226, c227, hR⟩ := bnd_some hR
     refine xD H (by kernel_rfl) (fun w H => ?_)
     refine dp (fun G => ∀ (v237 : Value) (a : Act) (w : World), Sk a 43 [(1, .func (.func g1) #[] lb1.toArray), (5, v132), (8, .pointer (some ⟨b150, 0, none⟩)), (12, v0), (13, .int .i64 (x0.length : Int)), (14, .int .i64 (k136 : Int)), (22, v148), (23, .int .i64 (x138.args.length : Int)), (24, .int .i64 (k213 : Int)), (29, v209), (33, v237)] → Sep [] B w0 w [rl 1 RInt 2 v237 ([z222]), rl 1 RInt 2 v209 s207, bx b150 [.int .i64 x138.rel, v209] 158, rl 2 RAtom 158 v132 s130] → ∀ ls, ls = #[true, true, true, true, true, true, false, false, false] → G 3 ls a w) ?_ (fun H238 => ?_)
     ·
      intro v237 a w F H ls hls
      subst hls
      refine xE H 6 rfl (by kernel_rfl) ?_
      refine oPL (sz := 1) (R := RInt) (z := (.int .i64 0)) (bytes := 8) Tryz.underlying42 (by kernel_rfl) rfl rfl F rfl rfl rfl (H.s [1, 0, 2, 3] rfl rfl) c227 (fun a w v239 H F => ?_)
      refine x_end ?_
      refine x_tn ?_
      refine ⟨⟨_, H⟩, ?_⟩
      refine b_q 7 (by kernel_rfl) rfl (by kernel_rfl) (by kernel_rfl) (by kernel_rfl) (by kernel_rfl) ?_
      refine v_val F rfl (fun w l => r_bfield fa158_1 F rfl rfl) (fun a F => ?_)
      refine xE H 8 rfl (by kernel_rfl) ?_
      refine oW Tryz.sizeOf42 F rfl rfl rfl (H.s [1, 0, 2] rfl rfl) ((H.s [1, 0, 2] rfl rfl).l 1 rfl).one rfl rfl (fun w H => ?_)
      refine x_end ?_
      refine x_tn ?_
      refine ⟨⟨_, H⟩, ?_⟩
      refine b_end (by kernel_rfl) ?_
      refine x_bn ?_
      refine x_tn ?_
      refine x_reg ?_
      refine o_inc F rfl rfl rfl ink213 (fun a F => ?_)
      refine o_move F rfl rfl (fun a F => ?_)
      refine x_end ?_
      refine x_tn ?_
      replace hR := l_go hR hn204
      exact ⟨_, Nat.lt_succ_self _, k213 + 1, rest214, z226, v239, ⟨hd217.1, hd217.2.2⟩, rfl, hR, F.sub (sc rfl (sc rfl (sc rfl (sc rfl (sc rfl (sc rfl (sc rfl (sc rfl (sc rfl sn))))))))), (H.s [1, 0, 2] rfl rfl)⟩
     refine dp (fun G => ∀ (a : Act) (w : World), Sk a 43 [(1, .func (.func g1) #[] lb1.toArray), (5, v132), (8, .pointer (some ⟨b150, 0, none⟩)), (12, v0), (13, .int .i64 (x0.length : Int)), (14, .int .i64 (k136 : Int)), (22, v148), (23, .int .i64 (x138.args.length : Int)), (24, .int .i64 (k213 : Int)), (29, v209), (32, .int .i64 z222)] → Sep [] B w0 w [rl 1 RInt 2 v209 s207, bx b150 [.int .i64 x138.rel, v209] 158, rl 2 RAtom 158 v132 s130] → I64 z222 → ∀ ls, ls = #[true, true, true, true, true, false, false, false, false] → G 4 ls a w) ?_ (fun H233 => ?_)
     ·
      intro a w F H i232 ls hls
      subst hls
      refine xE H 5 rfl (by kernel_rfl) ?_
      refine oR1z (R := RInt) (y := z222) Tryz.underlying42 Tryz.sizeOf2 Tryz.zeroValue2 rfl rfl F rfl rfl H (Eo.int i232) (fun a w v234 H F => ?_)
      refine x_end ?_
      refine x_tn ?_
      refine ⟨⟨_, H⟩, ?_⟩
      exact H238 v234 _ _ (F.sub (sc rfl (sc rfl (sc rfl (sc rfl (sc rfl (sc rfl (sc rfl (sc rfl (sc rfl (sc rfl (sc rfl sn)))))))))))) H _ (by kernel_rfl)
     refine b_q 0 (by kernel_rfl) rfl (by kernel_rfl) (by kernel_rfl) (by kernel_rfl) (by kernel_rfl) ?_
     refine v_val F rfl (fun w l => r_bfield fa158_1 F rfl rfl) (fun a F => ?_)
     refine b_q0 2 rfl (by kernel_rfl) (by kernel_rfl) (by kernel_rfl) ?_
     refine v_val F rfl (fun w l => r_move F rfl) (fun a F => ?_)
     refine b_q0 3 rfl (by kernel_rfl) (by kernel_rfl) (by kernel_rfl) ?_
     refine v_val F rfl (fun w l => r_move F rfl) (fun a F => ?_)
     refine b_es [1, 4] (by kernel_rfl) (by simp) ⟨⟨_, rfl, ?_⟩, ⟨_, rfl, ?_⟩, trivial⟩
     ·
      refine xEs H ?_
      refine oB Tryz.isAgg42 F rfl rfl (H.b 1 rfl) rfl (fun a F => ?_)
      refine x_end ?_
      refine x_tn ?_
      refine ⟨⟨_, H⟩, ?_⟩
      refine xE H 4 rfl (by kernel_rfl) ?_
      refine oKIV F rfl rfl hg1 rfl H (hp1 _ z222 c223 _ H.bl i221) (fun a w H iz222 F => ?_)
      refine x_end ?_
      refine x_tn ?_
      refine ⟨⟨_, H⟩, ?_⟩
      exact H233 _ _ (F.sub (sc rfl (sc rfl (sc rfl (sc rfl (sc rfl (sc rfl (sc rfl (sc rfl (sc rfl (sc rfl (sc rfl sn)))))))))))) H iz222 _ (by kernel_rfl)
     refine xEs H ?_
     refine oKIV F rfl rfl hg1 rfl H (hp1 _ z222 c223 _ H.bl i221) (fun a w H iz222 F => ?_)
     refine x_end ?_
     refine x_tn ?_
     refine ⟨⟨_, H⟩, ?_⟩
     refine b_es [1, 5] (by kernel_rfl) (by simp) ⟨⟨_, rfl, ?_⟩, ⟨_, rfl, ?_⟩, trivial⟩
     ·
      refine xEs H ?_
      refine oB Tryz.isAgg42 F rfl rfl (H.b 1 rfl) rfl (fun a F => ?_)
      refine x_end ?_
      refine x_tn ?_
      refine ⟨⟨_, H⟩, ?_⟩
      exact H233 _ _ (F.sub (sc rfl (sc rfl (sc rfl (sc rfl (sc rfl (sc rfl (sc rfl (sc rfl (sc rfl (sc rfl (sc rfl sn)))))))))))) H iz222 _ (by kernel_rfl)
     refine xEs H ?_
     refine oR1z (R := RInt) (y := z222) Tryz.underlying42 Tryz.sizeOf2 Tryz.zeroValue2 rfl rfl F rfl rfl H (Eo.int iz222) (fun a w v230 H F => ?_)
     refine x_end ?_
     refine x_tn ?_
     refine ⟨⟨_, H⟩, ?_⟩
     refine xE H 1 rfl (by kernel_rfl) ?_
     refine oB Tryz.isAgg42 F rfl rfl (H.b 2 rfl) rfl (fun a F => ?_)
     refine x_end ?_
     refine x_tn ?_
     refine ⟨⟨_, H⟩, ?_⟩
     exact H238 v230 _ _ (F.sub (sc rfl (sc rfl (sc rfl (sc rfl (sc rfl (sc rfl (sc rfl (sc rfl (sc rfl (sc rfl (sc rfl sn)))))))))))) H _ (by kernel_rfl)
   intro a w ⟨s210, v212, ho203, F, H⟩
   subst ho203
   have hR := then_nx hk202
   refine x_tn ?_
   refine x_reg ?_
   refine o_move F rfl rfl (fun a F => ?_)
   refine oBA Tryz.isAgg158 Tryz.sizeOf158 F rfl rfl (H.b 1 rfl) rfl rfl (fun a F => ?_)
   have H := (RAtom.w i147 H)
   refine oR1L (R := RAtom) (y := (Atom.mk x138.rel s210)) Tryz.underlying93 Tryz.sizeOf158 Tryz.zeroValue158 rfl rfl F rfl rfl H El.agg (fun a w v242 H F => ?_)
   obtain ⟨z245, c246, hR⟩ := bnd_some hR
   refine oPL (sz := 2) (R := RAtom) (z := (.agg #[.int .i64 0, (.slice none 0 0)])) (bytes := 32) Tryz.underlying93 (by kernel_rfl) rfl rfl F rfl rfl rfl (H.s [2, 0, 1] rfl rfl) c246 (fun a w v247 H F => ?_)
   refine o_assign F rfl rfl (fun a F => ?_)
   refine x_end ?_
   refine x_bn ?_
   refine x_tn ?_
   refine x_reg ?_
   refine o_inc F rfl rfl rfl ink136 (fun a F => ?_)
   refine o_move F rfl rfl (fun a F => ?_)
   refine x_end ?_
   refine x_tn ?_
   replace hR := l_go hR hn127
   exact ⟨_, Nat.lt_succ_self _, k136 + 1, rest137, z245, v247, ⟨hd140.1, hd140.2.2⟩, rfl, hR, F.sub (sc rfl (sc rfl (sc rfl (sc rfl (sc rfl sn))))), (H.s [0] rfl rfl)⟩
 intro a w ⟨s133, v135, ho126, F, H⟩
 subst ho126
 have hR := then_nx hk125
 refine x_tn ?_
 refine x_seq ?_
 refine x_reg ?_
 refine o_move F rfl rfl (fun a F => ?_)
 refine o_assign F rfl rfl (fun a F => ?_)
 refine x_end ?_
 refine x_tn ?_
 refine x_ret ?_
 refine x_res1 F rfl (rv_t F rfl) ?_
 obtain rfl := Option.some.inj hR
 exact ⟨_, rfl, v135, rfl, H⟩

def impl_same (x0 : Int) : Option Int :=
 some x0
set_option maxHeartbeats 1000000 in
theorem impl_same_c {B : Nat → Prop} {x0 : Int} (r : Int) (hR : impl_same x0 = some r)  (w0 : World) (hN : ∀ c, B c → c < w0.heap.size) (hx0 : I64 x0) : Calls Tryz.prog 118 #[.int .i64 x0] w0 (SaysI r w0) := by
 unfold impl_same at hR
 refine x_enter (L := [(0, .int .i64 x0)]) Tryz.func118 rfl rfl rfl (sc rfl sn) (fun a F => ?_)
 have H := Sep.start hN
 refine x_seq ?_
 refine x_reg ?_
 refine o_assign F rfl rfl (fun a F => ?_)
 refine x_end ?_
 refine x_tn ?_
 refine x_seq ?_
 refine x_reg ?_
 refine o_move F rfl rfl (fun a F => ?_)
 refine o_assign F rfl rfl (fun a F => ?_)
 refine x_end ?_
 refine x_tn ?_
 refine x_ret ?_
 refine x_res1 F rfl (rv_t F rfl) ?_
 obtain rfl := Option.some.inj hR
 exact ⟨⟨rfl, H.bl⟩, hx0⟩

def impl_composed_1 (x0 : Int) (y0 : Formula) (y1 : Atom) (y2 : Int) : Option Int :=
 if (decide (x0 < y0.free)) then
  bnd (ix y1.args x0) fun z19 =>
  some z19
 else
  bnd (ck (x0 + y2)) fun z25 =>
  some z25
set_option maxHeartbeats 1000000 in
theorem impl_composed_1_c {B : Nat → Prop} {x0 : Int} {y0 : Formula} {y1 : Atom} {y2 : Int} (r : Int) (hR : impl_composed_1 x0 y0 y1 y2 = some r) {v1 : Value} {v2 : Value} {v3 : Value} (w0 : World) (hN : ∀ c, B c → c < w0.heap.size) (hx0 : I64 x0) (A1 : Bo B w0 (Pt 3 RFormula) v1 y0) (A2 : Bo B w0 (Pt 2 RAtom) v2 y1) (A3 : Bo B w0 (Pt 1 RInt) v3 y2) : Calls Tryz.prog 119 #[.int .i64 x0, v1, v2, v3] w0 (SaysI r w0) := by
 unfold impl_composed_1 at hR
 refine x_enter (L := [(0, .int .i64 x0), (1, v1), (2, v2), (3, v3)]) Tryz.func119 rfl rfl rfl (sc rfl (sc rfl (sc rfl (sc rfl sn)))) (fun a F => ?_)
 have H := Sep.start hN
 refine x_seq ?_
 refine x_reg ?_
 refine o_assign F rfl rfl (fun a F => ?_)
 refine x_end ?_
 refine x_tn ?_
 refine x_seq ?_
 refine x_seq ?_
 refine x_reg ?_
 refine o_move F rfl rfl (fun a F => ?_)
 refine oF (s' := 1) fa95_0 F rfl rfl A1 RFormula.f0 (fun a p11 h12 F => ?_)
 refine olI Tryz.isAgg2 F rfl rfl H.sm h12 (fun a i13 F => ?_)
 refine o_lss F rfl rfl rfl (fun a F => ?_)
 refine x_end ?_
 refine x_tn ?_
 refine x_if F rfl (fun hb14 => ?_) (fun hb14 => ?_)
 ·
  replace hR := ifT hb14 hR
  refine x_seq ?_
  refine x_reg ?_
  refine oF (s' := 1) fa158_1 F rfl rfl A2 RAtom.f1 (fun a p15 h16 F => ?_)
  refine olS Tryz.isAgg42 F rfl rfl H.sm h16 (fun a v17 h18 F => ?_)
  refine o_move F rfl rfl (fun a F => ?_)
  obtain ⟨z19, c20, hR⟩ := bnd_some hR
  refine oI Tryz.underlying42 Tryz.sizeOf2 F rfl rfl rfl h18 c20 (fun a p21 h22 F => ?_)
  refine olI Tryz.isAgg2 F rfl rfl H.sm h22 (fun a i23 F => ?_)
  refine o_assign F rfl rfl (fun a F => ?_)
  refine x_end ?_
  refine x_tn ?_
  refine x_ret ?_
  refine x_tr ?_
  refine x_res1 F rfl (rv_t F rfl) ?_
  obtain rfl := Option.some.inj hR
  exact ⟨⟨rfl, H.bl⟩, i23⟩
 replace hR := ifF hb14 hR
 refine x_skip ?_
 refine x_tn ?_
 refine x_seq ?_
 refine x_reg ?_
 refine o_move F rfl rfl (fun a F => ?_)
 refine olI Tryz.isAgg2 F rfl rfl H.sm A3 (fun a i24 F => ?_)
 obtain ⟨z25, c26, hR⟩ := bnd_some hR
 refine o_add F rfl rfl rfl c26 (fun a F => ?_)
 refine o_assign F rfl rfl (fun a F => ?_)
 refine x_end ?_
 refine x_tn ?_
 refine x_ret ?_
 refine x_res1 F rfl (rv_t F rfl) ?_
 obtain rfl := Option.some.inj hR
 exact ⟨⟨rfl, H.bl⟩, (ck64 c26)⟩

def impl_limited (x0 : Formula) : Option (Formula × Int) :=
 thn (σ := Bool) (
  if (decide (8 < x0.vars)) then  some (.nx true) else  some (.nx (decide (16 < (x0.atoms.length : Int))))) fun s18 =>
 if s18 then
  some ((Formula.mk 0 0 ([])), 3)
 else
  some ((Formula.mk x0.free x0.vars x0.atoms), 0)
set_option maxHeartbeats 1000000 in
theorem impl_limited_c {B : Nat → Prop} {x0 : Formula} (r : Formula × Int) (hR : impl_limited x0 = some r) {v0_atoms : Value} {X0 : List Nat} (w0 : World) (hN : ∀ c, B c → c < w0.heap.size) (S0 : Sep X0 B w0 w0 [rl 2 RAtom 158 v0_atoms x0.atoms]) (hx0_free : I64 x0.free) (hx0_vars : I64 x0.vars) : Calls Tryz.prog 120 #[(.agg #[.int .i64 x0.free, .int .i64 x0.vars, v0_atoms])] w0 (Gv (fun v w' => ∃ (v1' : Value), v = .tuple #[.agg #[.int .i64 r.1.free, .int .i64 r.1.vars, v1'], .int .i64 r.2] ∧ Sep X0 B w0 w' [rl 2 RAtom 158 v1' r.1.atoms] ∧ I64 r.1.free ∧ I64 r.1.vars ∧ I64 r.2)) := by
 unfold impl_limited at hR
 refine x_enter (L := [(0, (.agg #[.int .i64 x0.free, .int .i64 x0.vars, v0_atoms]))]) Tryz.func120 rfl rfl rfl (sc rfl sn) (fun a F => ?_)
 have H := S0
 refine x_seq ?_
 refine x_reg ?_
 refine oX F rfl rfl rfl H (fun a w b11 H F => ?_)
 refine oA Tryz.zeroValue95 F rfl rfl H (fun a w b12 H F => ?_)
 refine o_assign F rfl rfl (fun a F => ?_)
 refine x_end ?_
 refine x_tn ?_
 refine x_seq ?_
 refine x_seq ?_
 obtain ⟨o15, hR, hk16⟩ := thn_some hR
 refine x_cutQ (fun a w => ∃ (s18 : Bool), o15 = .nx s18 ∧ Sk a 15 [(1, .pointer (some ⟨b11, 0, none⟩)), (2, .pointer (some ⟨b12, 0, none⟩)), (12, .bool s18)] ∧ Sep X0 B w0 w [bx b12 [.int .i64 0, .int .i64 0, (.slice none 0 0)] 95, bx b11 [.int .i64 x0.free, .int .i64 x0.vars, v0_atoms] 95, rl 2 RAtom 158 v0_atoms x0.atoms]) ?_ ?_
 ·
  refine x_reg ?_
  refine o_bfield fa95_1 F rfl rfl rfl (fun a F => ?_)
  refine oB Tryz.isAgg2 F rfl rfl (H.b 1 rfl) rfl (fun a F => ?_)
  refine o_gtr F rfl rfl rfl (fun a F => ?_)
  refine o_move F rfl rfl (fun a F => ?_)
  rcases bcases (decide (8 < x0.vars)) with hb19 | hb19
  ·
   replace hR := ifT hb19 hR
   have F := F.eq (t := 7) rfl (congrArg Value.bool hb19)
   refine o_no F rfl rfl (fun a F => ?_)
   refine o_no F rfl rfl (fun a F => ?_)
   refine o_no F rfl rfl (fun a F => ?_)
   refine o_no F rfl rfl (fun a F => ?_)
   refine o_pickt F rfl rfl rfl (fun a F => ?_)
   refine x_end ?_
   refine x_tn ?_
   exact ⟨true, (Option.some.inj hR).symm, F.sub (sc rfl (sc rfl (sc rfl sn))), H⟩
  replace hR := ifF hb19 hR
  have F := F.eq (t := 7) rfl (congrArg Value.bool hb19)
  refine o_bfield fa95_2 F rfl rfl rfl (fun a F => ?_)
  refine oB Tryz.isAgg93 F rfl rfl (H.b 1 rfl) rfl (fun a F => ?_)
  refine oL Tryz.underlying93 F rfl rfl (H.l 2 rfl) (fun a i20 F => ?_)
  refine o_gtr F rfl rfl rfl (fun a F => ?_)
  refine o_pickf F rfl rfl rfl (fun a F => ?_)
  refine x_end ?_
  refine x_tn ?_
  exact ⟨(decide (16 < (x0.atoms.length : Int))), (Option.some.inj hR).symm, F.sub (sc rfl (sc rfl (sc rfl sn))), H⟩
 intro a w ⟨s18, ho17, F, H⟩
 subst ho17
 have hR := then_nx hk16
 refine x_tn ?_
 refine x_if F rfl (fun hb21 => ?_) (fun hb21 => ?_)
 ·
  replace hR := ifT hb21 hR
  refine x_seq ?_
  refine x_reg ?_
  refine o_build Tryz.underlying95 Tryz.zeroValue95 (fun w => by simp [Tryz.sizeOf2, Tryz.sizeOf93]; rfl) F rfl rfl rfl rfl rfl on rfl rfl (fun a F => ?_)
  refine oWA (vs := [.int .i64 0, .int .i64 0, (.slice none 0 0)]) Tryz.sizeOf95 F rfl rfl rfl H (oc rfl (oc rfl (oc rfl on))) rfl rfl (fun w H => ?_)
  refine o_assign F rfl rfl (fun a F => ?_)
  refine x_end ?_
  refine x_tn ?_
  refine x_ret ?_
  refine x_tr ?_
  refine x_res2 F rfl (rv_cA (arr := #[.int .i64 0, .int .i64 0, (.slice none 0 0)]) F Tryz.isAgg95 Tryz.sizeOf95 rfl (H.b 0 rfl)) (rv_t F rfl) ?_
  obtain rfl := Option.some.inj hR
  exact ⟨_, rfl, (.slice none 0 0), rfl, ((H.nl 2 RAtom 158).s [0] rfl rfl), (show I64 0 by decide), (show I64 0 by decide), (show I64 (3) by decide)⟩
 replace hR := ifF hb21 hR
 refine x_skip ?_
 refine x_tn ?_
 refine x_seq ?_
 refine x_reg ?_
 refine oBA Tryz.isAgg95 Tryz.sizeOf95 F rfl rfl (H.b 1 rfl) rfl rfl (fun a F => ?_)
 refine oWA (vs := [.int .i64 x0.free, .int .i64 x0.vars, v0_atoms]) Tryz.sizeOf95 F rfl rfl rfl H (oc rfl (oc rfl (oc (H.l 2 rfl).one on))) rfl rfl (fun w H => ?_)
 refine o_assign F rfl rfl (fun a F => ?_)
 refine x_end ?_
 refine x_tn ?_
 refine x_ret ?_
 refine x_res2 F rfl (rv_cA (arr := #[.int .i64 x0.free, .int .i64 x0.vars, v0_atoms]) F Tryz.isAgg95 Tryz.sizeOf95 rfl (H.b 0 rfl)) (rv_t F rfl) ?_
 obtain rfl := Option.some.inj hR
 exact ⟨_, rfl, v0_atoms, rfl, (H.s [2] rfl rfl), hx0_free, hx0_vars, (show I64 (0) by decide)⟩

def impl_composed (x0 : Formula) (x1 : Gadgets) : Option (Formula × Int) :=
 thn (σ := Int × (List Atom)) (
  forL (σ := Int × (List Atom)) (ρ := Formula × Int) (fun (k259 : Nat) (x261 : Atom) (s : Int × (List Atom)) =>
    match s with
    | (s249, s251) =>
    if (x261.rel == (-1)) then
     bnd (impl_renamed ([(Atom.mk x261.rel x261.args)]) (fun a0 => impl_same a0)) fun z276 =>
     bnd (ap s251 z276) fun z281 =>
     some (.go (s249, z281))
    else
     bnd (ix x1.formulas x261.rel) fun z317 =>
     bnd (ck (s249 - z317.free)) fun z328 =>
     bnd (impl_renamed z317.atoms (fun a0 => impl_composed_1 a0 (Formula.mk z317.free z317.vars z317.atoms) (Atom.mk x261.rel x261.args) z328)) fun z331 =>
     bnd (ap s251 z331) fun z336 =>
     bnd (ck (z317.vars - z317.free)) fun z365 =>
     bnd (ck (s249 + z365)) fun z367 =>
     some (.go (z367, z336))) x0.atoms 0 (x0.vars, [])) fun (s254, s256) =>
 bnd (impl_limited (Formula.mk x0.free s254 s256)) fun z370 =>
 some ((Formula.mk z370.1.free z370.1.vars z370.1.atoms), z370.2)
set_option maxHeartbeats 1000000 in
theorem impl_composed_c {B : Nat → Prop} {x0 : Formula} {x1 : Gadgets} (r : Formula × Int) (hR : impl_composed x0 x1 = some r) {v0 : Value} {v1 : Value} (w0 : World) (hN : ∀ c, B c → c < w0.heap.size) (A0 : Bo B w0 (Agg 3 RFormula) v0 x0) (A1 : Bo B w0 (Agg 1 RGadgets) v1 x1) : Calls Tryz.prog 61 #[v0, v1] w0 (Gv (fun v w' => ∃ (v1' : Value), v = .tuple #[.agg #[.int .i64 r.1.free, .int .i64 r.1.vars, v1'], .int .i64 r.2] ∧ Sep [] B w0 w' [rl 2 RAtom 158 v1' r.1.atoms] ∧ I64 r.1.free ∧ I64 r.1.vars ∧ I64 r.2)) := by
 unfold impl_composed at hR
 refine x_enter (L := [(0, v0), (1, v1)]) Tryz.func61 rfl rfl rfl (sc rfl (sc rfl sn)) (fun a F => ?_)
 have H := Sep.start hN
 refine x_seq ?_
 refine x_reg ?_
 obtain ⟨v13, rfl, i11, i12, h14⟩ := RFormula.o A0
 refine oX F rfl rfl rfl H (fun a w b15 H F => ?_)
 obtain ⟨v16, rfl, h17⟩ := RGadgets.o A1
 refine oX F rfl rfl rfl H (fun a w b18 H F => ?_)
 refine oA Tryz.zeroValue95 F rfl rfl H (fun a w b19 H F => ?_)
 refine o_assign F rfl rfl (fun a F => ?_)
 refine x_end ?_
 refine x_tn ?_
 refine x_seq ?_
 refine x_reg ?_
 refine o_bfield fa95_0 F rfl rfl rfl (fun a F => ?_)
 refine oB Tryz.isAgg2 F rfl rfl (H.b 2 rfl) rfl (fun a F => ?_)
 refine o_bfield fa95_1 F rfl rfl rfl (fun a F => ?_)
 refine oB Tryz.isAgg2 F rfl rfl (H.b 2 rfl) rfl (fun a F => ?_)
 refine o_build Tryz.underlying95 Tryz.zeroValue95 (fun w => by simp [Tryz.sizeOf2, Tryz.sizeOf93]; rfl) F rfl rfl rfl rfl rfl (oc rfl (oc rfl on)) rfl rfl (fun a F => ?_)
 refine oA Tryz.zeroValue95 F rfl rfl H (fun a w b20 H F => ?_)
 refine oWA (vs := [.int .i64 x0.free, .int .i64 x0.vars, (.slice none 0 0)]) Tryz.sizeOf95 F rfl rfl rfl H (oc rfl (oc rfl (oc rfl on))) rfl rfl (fun w H => ?_)
 refine x_end ?_
 refine x_tn ?_
 refine x_seq ?_
 refine x_seq ?_
 refine x_reg ?_
 refine o_bfield fa95_2 F rfl rfl rfl (fun a F => ?_)
 refine oB Tryz.isAgg93 F rfl rfl (H.b 3 rfl) rfl (fun a F => ?_)
 refine oL Tryz.underlying93 F rfl rfl h14 (fun a i21 F => ?_)
 refine o_move F rfl rfl (fun a F => ?_)
 refine x_end ?_
 refine x_tn ?_
 obtain ⟨o243, hR, hk244⟩ := thn_some hR
 refine x_cutQ (fun a w => ∃ (s254 : Int) (s256 : List Atom) (v258 : Value), o243 = .nx (s254, s256) ∧ Sk a 66 [(4, .pointer (some ⟨b19, 0, none⟩)), (6, .pointer (some ⟨b20, 0, none⟩))] ∧ Sep [] B w0 w [rl 2 RAtom 158 v258 s256, bx b20 [.int .i64 x0.free, .int .i64 s254, v258] 95, bx b19 [.int .i64 0, .int .i64 0, (.slice none 0 0)] 95] ∧ I64 s254) ?_ ?_
 ·
  refine x_blk ?_
  obtain ⟨fl247, hf248, hR⟩ := forL_gen hR
  refine x_loop (fun g a w => ∃ (k259 : Nat) (rest260 : List Atom) (s249 : Int) (s251 : List Atom) (v253 : Value), (k259 ≤ x0.atoms.length ∧ x0.atoms.drop k259 = rest260) ∧ rest260.length = g ∧ forL fl247 rest260 k259 (s249, s251) = some o243 ∧ Sk a 66 [(19, .int .i64 (k259 : Int)), (3, .pointer (some ⟨b18, 0, none⟩)), (4, .pointer (some ⟨b19, 0, none⟩)), (6, .pointer (some ⟨b20, 0, none⟩)), (17, v13), (18, .int .i64 (x0.atoms.length : Int))] ∧ Sep [] B w0 w [rl 2 RAtom 158 v253 s251, bx b20 [.int .i64 x0.free, .int .i64 s249, v253] 95, bx b19 [.int .i64 0, .int .i64 0, (.slice none 0 0)] 95, bx b18 [v16] 37] ∧ I64 s249) x0.atoms.length ?_ ?_
  ·
   exact ⟨0, x0.atoms, x0.vars, [], (.slice none 0 0), ⟨Nat.zero_le _, rfl⟩, rfl, hR, F.sub (sc rfl (sc rfl (sc rfl (sc rfl (sc rfl (sc rfl sn)))))), ((H.nl 2 RAtom 158).s [0, 1, 2, 3] rfl rfl), i12⟩
  intro g262 a w ⟨k259, rest260, s249, s251, v253, hd263, hg264, hR, F, H, i250⟩
  cases rest260 with
  | nil =>
   replace hR := forL_nil hR
   have hkk259 := drop_nil hd263.1 hd263.2
   have hlk259 := dec_no hkk259
   refine x_seq ?_
   refine x_reg ?_
   refine o_lss F rfl rfl rfl (fun a F => ?_)
   refine x_end ?_
   refine x_tn ?_
   refine x_seq ?_
   refine x_ifF F rfl hlk259 ?_
   refine x_exit ?_
   refine x_te ?_
   refine x_te ?_
   refine x_be ?_
   refine x_tn ?_
   exact ⟨s249, s251, v253, (Option.some.inj hR).symm, F.sub (sc rfl (sc rfl sn)), (H.s [0, 1, 2] rfl rfl), i250⟩
  | cons x261 rest260 =>
   subst hg264
   replace hd263 := drop_cons hd263.2
   have hxk259 := ix_nat hd263.2.1
   obtain ⟨ck259, hR, hn246⟩ := forL_cons hR
   rw [hf248] at hR
   have hlk259 := dec_yes hd263.1
   refine x_seq ?_
   refine x_reg ?_
   refine o_lss F rfl rfl rfl (fun a F => ?_)
   refine x_end ?_
   refine x_tn ?_
   refine x_seq ?_
   refine x_ifT F rfl hlk259 ?_
   refine x_skip ?_
   refine x_tn ?_
   refine x_seq ?_
   have ikk259 := k64 (Nat.le_of_lt hd263.1) i21
   have ink259 := inc64 hd263.1 i21
   refine x_blk ?_
   refine x_seq ?_
   refine x_reg ?_
   refine oI Tryz.underlying93 Tryz.sizeOf158 F rfl rfl rfl h14 hxk259 (fun a p265 h266 F => ?_)
   refine olA Tryz.isAgg158 Tryz.sizeOf158 F rfl rfl H.sm h266 (fun a v267 h268 F => ?_)
   refine oA Tryz.zeroValue158 F rfl rfl H (fun a w b269 H F => ?_)
   obtain ⟨v271, rfl, i270, h272⟩ := RAtom.o h268
   refine oWA (vs := [.int .i64 x261.rel, v271]) Tryz.sizeOf158 F rfl rfl rfl H (oc rfl (oc (H.a h272).one on)) rfl rfl (fun w H => ?_)
   refine x_end ?_
   refine x_tn ?_
   refine x_seq ?_
   refine x_seq ?_
   refine x_reg ?_
   refine o_bfield fa158_0 F rfl rfl rfl (fun a F => ?_)
   refine oB Tryz.isAgg2 F rfl rfl (H.b 0 rfl) rfl (fun a F => ?_)
   refine o_eql F rfl rfl rfl (fun a F => ?_)
   refine x_end ?_
   refine x_tn ?_
   refine x_if F rfl (fun hb273 => ?_) (fun hb273 => ?_)
   ·
    replace hR := ifT hb273 hR
    refine x_seq ?_
    obtain ⟨z276, c277, hR⟩ := bnd_some hR
    obtain ⟨z281, c282, hR⟩ := bnd_some hR
    obtain ⟨w297, rfl⟩ : ∃ x, x = w := ⟨_, rfl⟩
    obtain ⟨X292, N293, g294, e295, H, th296⟩ := H.fz
    have K298 := g294.bk
    refine xD H (by kernel_rfl) (fun w H => ?_)
    refine dp (fun G => ∀ (v313 : Value) (a : Act) (w : World), Sk a 66 [(3, .pointer (some ⟨b18, 0, none⟩)), (4, .pointer (some ⟨b19, 0, none⟩)), (6, .pointer (some ⟨b20, 0, none⟩)), (17, v13), (18, .int .i64 (x0.atoms.length : Int)), (19, .int .i64 (k259 : Int)), (27, v253), (30, v313)] → Sep X292 N293 w297 w [rl 2 RAtom 158 v313 z276, rl 2 RAtom 158 v253 s251, bx b20 [.int .i64 x0.free, .int .i64 s249, v253] 95, bx b19 [.int .i64 0, .int .i64 0, (.slice none 0 0)] 95, bx b18 [v16] 37] → ∀ ls, ls = #[true, true, true, true, true, false, false, false] → G 3 ls a w) ?_ (fun H314 => ?_)
    ·
     intro v313 a w F H ls hls
     subst hls
     refine xE H 5 rfl (by kernel_rfl) ?_
     refine oPL (sz := 2) (R := RAtom) (z := (.agg #[.int .i64 0, (.slice none 0 0)])) (bytes := 32) Tryz.underlying93 (by kernel_rfl) rfl rfl F rfl rfl rfl (H.s [1, 0, 2, 3, 4] rfl rfl) c282 (fun a w v315 H F => ?_)
     refine x_end ?_
     refine x_tn ?_
     refine ⟨⟨_, H⟩, ?_⟩
     refine b_q 6 (by kernel_rfl) rfl (by kernel_rfl) (by kernel_rfl) (by kernel_rfl) (by kernel_rfl) ?_
     refine v_val F rfl (fun w l => r_bfield fa95_2 F rfl rfl) (fun a F => ?_)
     refine xE H 7 rfl (by kernel_rfl) ?_
     refine oW Tryz.sizeOf93 F rfl rfl rfl (H.s [1, 0, 2, 3] rfl rfl) ((H.s [1, 0, 2, 3] rfl rfl).l 1 rfl).one rfl rfl (fun w H => ?_)
     refine x_end ?_
     refine x_tn ?_
     refine ⟨⟨_, H⟩, ?_⟩
     refine b_end (by kernel_rfl) ?_
     refine x_tn ?_
     refine x_exit ?_
     refine x_te ?_
     refine x_be ?_
     refine x_tn ?_
     refine x_reg ?_
     refine o_inc F rfl rfl rfl ink259 (fun a F => ?_)
     refine o_move F rfl rfl (fun a F => ?_)
     refine x_end ?_
     refine x_tn ?_
     replace hR := l_go hR hn246
     exact ⟨_, Nat.lt_succ_self _, k259 + 1, rest260, s249, z281, v315, ⟨hd263.1, hd263.2.2⟩, rfl, hR, F.sub (sc rfl (sc rfl (sc rfl (sc rfl (sc rfl (sc rfl sn)))))), ((th296.1 H (Ns.all ⟨n0, ⟨n0, ⟨n0, ⟨n0, trivial⟩⟩⟩⟩)).s [2, 1, 3, 4] rfl rfl), i250⟩
    refine dp (fun G => ∀ (v307 : Value) (a : Act) (w : World), Sk a 66 [(3, .pointer (some ⟨b18, 0, none⟩)), (4, .pointer (some ⟨b19, 0, none⟩)), (6, .pointer (some ⟨b20, 0, none⟩)), (17, v13), (18, .int .i64 (x0.atoms.length : Int)), (19, .int .i64 (k259 : Int)), (27, v253), (29, v307)] → Sep X292 N293 w297 w [rw N293 2 RAtom 158 v307 ([(Atom.mk x261.rel x261.args)]), rl 2 RAtom 158 v253 s251, bx b20 [.int .i64 x0.free, .int .i64 s249, v253] 95, bx b19 [.int .i64 0, .int .i64 0, (.slice none 0 0)] 95, bx b18 [v16] 37] → ∀ ls, ls = #[true, true, true, true, false, false, false, false] → G 4 ls a w) ?_ (fun H308 => ?_)
    ·
     intro v307 a w F H ls hls
     subst hls
     refine xE H 4 rfl (by kernel_rfl) ?_
     refine oG F rfl Tryz.call117 rfl (impl_renamed_c z276 c277 _ aA (H.r 0 rfl) Tryz.call118 (fun a0 r h W l1 f0 => impl_same_c r h W aA f0)) (fun a vv w ⟨v309, hv311, S⟩ F => ?_)
     subst vv
     have H := H.r1 S n0
     refine x_end ?_
     refine x_tn ?_
     refine ⟨⟨_, H⟩, ?_⟩
     exact H314 v309 _ _ (F.sub (sc rfl (sc rfl (sc rfl (sc rfl (sc rfl (sc rfl (sc rfl (sc rfl sn))))))))) (H.s [0, 2, 3, 4, 5] rfl rfl) _ (by kernel_rfl)
    refine b_q 0 (by kernel_rfl) rfl (by kernel_rfl) (by kernel_rfl) (by kernel_rfl) (by kernel_rfl) ?_
    refine v_val F rfl (fun w l => r_bfield fa95_2 F rfl rfl) (fun a F => ?_)
    refine b_q 2 (by kernel_rfl) rfl (by kernel_rfl) (by kernel_rfl) (by kernel_rfl) (by kernel_rfl) ?_
    refine vBA Tryz.isAgg158 Tryz.sizeOf158 F rfl rfl (K298.v H.sm) rfl rfl (fun a F => ?_)
    refine b_es [1, 3] (by kernel_rfl) (by simp) ⟨⟨_, rfl, ?_⟩, ⟨_, rfl, ?_⟩, trivial⟩
    ·
     refine xEs H ?_
     refine oB Tryz.isAgg93 F rfl rfl (H.b 1 rfl) rfl (fun a F => ?_)
     refine x_end ?_
     refine x_tn ?_
     refine ⟨⟨_, H⟩, ?_⟩
     refine xE H 3 rfl (by kernel_rfl) ?_
     refine oR1 (R := RAtom) (y := (Atom.mk x261.rel x261.args)) (N1 := N293) Tryz.underlying93 Tryz.sizeOf158 Tryz.zeroValue158 rfl rfl F rfl rfl H n1 (Eo.agg (RAtom.m i270 (H.u (e295 h272)))) (fun a w v299 H F => ?_)
     refine x_end ?_
     refine x_tn ?_
     refine ⟨⟨_, H⟩, ?_⟩
     exact H308 v299 _ _ (F.sub (sc rfl (sc rfl (sc rfl (sc rfl (sc rfl (sc rfl (sc rfl (sc rfl sn))))))))) H _ (by kernel_rfl)
    refine xEs H ?_
    refine oR1 (R := RAtom) (y := (Atom.mk x261.rel x261.args)) (N1 := N293) Tryz.underlying93 Tryz.sizeOf158 Tryz.zeroValue158 rfl rfl F rfl rfl H n1 (Eo.agg (RAtom.m i270 (H.u (e295 h272)))) (fun a w v301 H F => ?_)
    refine x_end ?_
    refine x_tn ?_
    refine ⟨⟨_, H⟩, ?_⟩
    refine b_es [1, 4] (by kernel_rfl) (by simp) ⟨⟨_, rfl, ?_⟩, ⟨_, rfl, ?_⟩, trivial⟩
    ·
     refine xEs H ?_
     refine oB Tryz.isAgg93 F rfl rfl (H.b 2 rfl) rfl (fun a F => ?_)
     refine x_end ?_
     refine x_tn ?_
     refine ⟨⟨_, H⟩, ?_⟩
     exact H308 v301 _ _ (F.sub (sc rfl (sc rfl (sc rfl (sc rfl (sc rfl (sc rfl (sc rfl (sc rfl sn))))))))) H _ (by kernel_rfl)
    refine xEs H ?_
    refine oG F rfl Tryz.call117 rfl (impl_renamed_c z276 c277 _ aA (H.r 0 rfl) Tryz.call118 (fun a0 r h W l1 f0 => impl_same_c r h W aA f0)) (fun a vv w ⟨v303, hv305, S⟩ F => ?_)
    subst vv
    have H := H.r1 S n0
    refine x_end ?_
    refine x_tn ?_
    refine ⟨⟨_, H⟩, ?_⟩
    refine xE H 1 rfl (by kernel_rfl) ?_
    refine oB Tryz.isAgg93 F rfl rfl (H.b 3 rfl) rfl (fun a F => ?_)
    refine x_end ?_
    refine x_tn ?_
    refine ⟨⟨_, H⟩, ?_⟩
    exact H314 v303 _ _ (F.sub (sc rfl (sc rfl (sc rfl (sc rfl (sc rfl (sc rfl (sc rfl (sc rfl sn))))))))) (H.s [0, 2, 3, 4, 5] rfl rfl) _ (by kernel_rfl)
   replace hR := ifF hb273 hR
   refine x_skip ?_
   refine x_tn ?_
   refine x_seq ?_
   refine x_reg ?_
   refine o_bfield fa37_0 F rfl rfl rfl (fun a F => ?_)
   refine oB Tryz.isAgg35 F rfl rfl (H.b 4 rfl) rfl (fun a F => ?_)
   refine o_bfield fa158_0 F rfl rfl rfl (fun a F => ?_)
   refine oB Tryz.isAgg2 F rfl rfl (H.b 0 rfl) rfl (fun a F => ?_)
   obtain ⟨z317, c318, hR⟩ := bnd_some hR
   refine oI Tryz.underlying35 Tryz.sizeOf95 F rfl rfl rfl h17 c318 (fun a p319 h320 F => ?_)
   refine olA Tryz.isAgg95 Tryz.sizeOf95 F rfl rfl H.sm h320 (fun a v321 h322 F => ?_)
   refine oA Tryz.zeroValue95 F rfl rfl H (fun a w b323 H F => ?_)
   obtain ⟨v326, rfl, i324, i325, h327⟩ := RFormula.o h322
   refine oWA (vs := [.int .i64 z317.free, .int .i64 z317.vars, v326]) Tryz.sizeOf95 F rfl rfl rfl H (oc rfl (oc rfl (oc (H.a h327).one on))) rfl rfl (fun w H => ?_)
   refine x_end ?_
   refine x_tn ?_
   refine x_seq ?_
   refine x_reg ?_
   refine o_bfield fa95_1 F rfl rfl rfl (fun a F => ?_)
   refine oB Tryz.isAgg2 F rfl rfl (H.b 3 rfl) rfl (fun a F => ?_)
   refine o_bfield fa95_0 F rfl rfl rfl (fun a F => ?_)
   refine oB Tryz.isAgg2 F rfl rfl (H.b 0 rfl) rfl (fun a F => ?_)
   obtain ⟨z328, c329, hR⟩ := bnd_some hR
   refine o_sub F rfl rfl rfl c329 (fun a F => ?_)
   refine oA Tryz.zeroValue2 F rfl rfl H (fun a w b330 H F => ?_)
   refine oW Tryz.sizeOf2 F rfl rfl rfl H rfl rfl rfl (fun w H => ?_)
   refine x_end ?_
   refine x_tn ?_
   refine x_seq ?_
   obtain ⟨z331, c332, hR⟩ := bnd_some hR
   obtain ⟨z336, c337, hR⟩ := bnd_some hR
   obtain ⟨w352, rfl⟩ : ∃ x, x = w := ⟨_, rfl⟩
   obtain ⟨X347, N348, g349, e350, H, th351⟩ := (H.s [1, 0, 2, 3, 4, 5, 6] rfl rfl).fz
   have K353 := g349.bk
   refine xD H (by kernel_rfl) (fun w H => ?_)
   refine dp (fun G => ∀ (v361 : Value) (a : Act) (w : World), Sk a 66 [(3, .pointer (some ⟨b18, 0, none⟩)), (4, .pointer (some ⟨b19, 0, none⟩)), (6, .pointer (some ⟨b20, 0, none⟩)), (9, .pointer (some ⟨b323, 0, none⟩)), (17, v13), (18, .int .i64 (x0.atoms.length : Int)), (19, .int .i64 (k259 : Int)), (45, v253), (49, v361)] → Sep X347 N348 w352 w [rl 2 RAtom 158 v361 z331, rl 2 RAtom 158 v253 s251, bx b20 [.int .i64 x0.free, .int .i64 s249, v253] 95, bx b19 [.int .i64 0, .int .i64 0, (.slice none 0 0)] 95, bx b18 [v16] 37] → ∀ ls, ls = #[true, true, true, true, true, true, false, false, false] → G 3 ls a w) ?_ (fun H362 => ?_)
   ·
    intro v361 a w F H ls hls
    subst hls
    refine xE H 6 rfl (by kernel_rfl) ?_
    refine oPL (sz := 2) (R := RAtom) (z := (.agg #[.int .i64 0, (.slice none 0 0)])) (bytes := 32) Tryz.underlying93 (by kernel_rfl) rfl rfl F rfl rfl rfl (H.s [1, 0, 2, 3, 4] rfl rfl) c337 (fun a w v363 H F => ?_)
    refine x_end ?_
    refine x_tn ?_
    refine ⟨⟨_, H⟩, ?_⟩
    refine b_q 7 (by kernel_rfl) rfl (by kernel_rfl) (by kernel_rfl) (by kernel_rfl) (by kernel_rfl) ?_
    refine v_val F rfl (fun w l => r_bfield fa95_2 F rfl rfl) (fun a F => ?_)
    refine xE H 8 rfl (by kernel_rfl) ?_
    refine oW Tryz.sizeOf93 F rfl rfl rfl (H.s [1, 0, 2, 3] rfl rfl) ((H.s [1, 0, 2, 3] rfl rfl).l 1 rfl).one rfl rfl (fun w H => ?_)
    refine x_end ?_
    refine x_tn ?_
    refine ⟨⟨_, H⟩, ?_⟩
    refine b_end (by kernel_rfl) ?_
    refine x_tn ?_
    refine x_reg ?_
    refine o_bfield fa95_1 F rfl rfl rfl (fun a F => ?_)
    refine oB Tryz.isAgg2 F rfl rfl (H.b 0 rfl) rfl (fun a F => ?_)
    refine o_bfield fa95_1 F rfl rfl rfl (fun a F => ?_)
    refine oB Tryz.isAgg2 F rfl rfl (K353.o H.sm) rfl (fun a F => ?_)
    refine o_bfield fa95_0 F rfl rfl rfl (fun a F => ?_)
    refine oB Tryz.isAgg2 F rfl rfl (K353.o H.sm) rfl (fun a F => ?_)
    obtain ⟨z365, c366, hR⟩ := bnd_some hR
    refine o_sub F rfl rfl rfl c366 (fun a F => ?_)
    obtain ⟨z367, c368, hR⟩ := bnd_some hR
    refine o_add F rfl rfl rfl c368 (fun a F => ?_)
    refine o_bfield fa95_1 F rfl rfl rfl (fun a F => ?_)
    refine oW Tryz.sizeOf2 F rfl rfl rfl H rfl rfl rfl (fun w H => ?_)
    refine x_end ?_
    refine x_bn ?_
    refine x_tn ?_
    refine x_reg ?_
    refine o_inc F rfl rfl rfl ink259 (fun a F => ?_)
    refine o_move F rfl rfl (fun a F => ?_)
    refine x_end ?_
    refine x_tn ?_
    replace hR := l_go hR hn246
    exact ⟨_, Nat.lt_succ_self _, k259 + 1, rest260, z367, z336, v363, ⟨hd263.1, hd263.2.2⟩, rfl, hR, F.sub (sc rfl (sc rfl (sc rfl (sc rfl (sc rfl (sc rfl sn)))))), ((th351.1 H (Ns.all ⟨n0, ⟨n0, ⟨n0, ⟨n0, trivial⟩⟩⟩⟩)).s [2, 1, 3, 4] rfl rfl), (ck64 c368)⟩
   refine b_q 0 (by kernel_rfl) rfl (by kernel_rfl) (by kernel_rfl) (by kernel_rfl) (by kernel_rfl) ?_
   refine v_val F rfl (fun w l => r_bfield fa95_2 F rfl rfl) (fun a F => ?_)
   refine b_q 2 (by kernel_rfl) rfl (by kernel_rfl) (by kernel_rfl) (by kernel_rfl) (by kernel_rfl) ?_
   refine v_val F rfl (fun w l => r_bfield fa95_2 F rfl rfl) (fun a F => ?_)
   refine b_q 3 (by kernel_rfl) rfl (by kernel_rfl) (by kernel_rfl) (by kernel_rfl) (by kernel_rfl) ?_
   refine vB Tryz.isAgg93 F rfl rfl (K353.v H.sm) rfl (fun a F => ?_)
   refine b_q 4 (by kernel_rfl) rfl (by kernel_rfl) (by kernel_rfl) (by kernel_rfl) (by kernel_rfl) ?_
   refine v_val F rfl (fun w l => r_func F rfl rfl) (fun a F => ?_)
   refine b_es [1, 5] (by kernel_rfl) (by simp) ⟨⟨_, rfl, ?_⟩, ⟨_, rfl, ?_⟩, trivial⟩
   ·
    refine xEs H ?_
    refine oB Tryz.isAgg93 F rfl rfl (H.b 3 rfl) rfl (fun a F => ?_)
    refine x_end ?_
    refine x_tn ?_
    refine ⟨⟨_, H⟩, ?_⟩
    refine xE H 5 rfl (by kernel_rfl) ?_
    refine oG F rfl Tryz.call117 rfl (impl_renamed_c z331 c332 _ aA (H.a (e350 h327)) Tryz.call119 (fun a0 r h W l1 f0 => impl_composed_1_c r h W aA f0 ((RFormula.b (Bk.of (K353.o H.sm)) i324 i325 (H.a (e350 h327))).w l1) ((RAtom.b (H.g 1 rfl).bk i270 (H.a (e350 h272))).w l1) ((c1I (H.g 0 rfl).bk (ck64 c329)).w l1))) (fun a vv w ⟨v354, hv356, S⟩ F => ?_)
    subst vv
    have H := H.r1 S n0
    refine x_end ?_
    refine x_tn ?_
    refine ⟨⟨_, H⟩, ?_⟩
    exact H362 v354 _ _ (F.sub (sc rfl (sc rfl (sc rfl (sc rfl (sc rfl (sc rfl (sc rfl (sc rfl (sc rfl sn)))))))))) (H.s [0, 3, 4, 5, 6] rfl rfl) _ (by kernel_rfl)
   refine xEs H ?_
   refine oG F rfl Tryz.call117 rfl (impl_renamed_c z331 c332 _ aA (H.a (e350 h327)) Tryz.call119 (fun a0 r h W l1 f0 => impl_composed_1_c r h W aA f0 ((RFormula.b (Bk.of (K353.o H.sm)) i324 i325 (H.a (e350 h327))).w l1) ((RAtom.b (H.g 1 rfl).bk i270 (H.a (e350 h272))).w l1) ((c1I (H.g 0 rfl).bk (ck64 c329)).w l1))) (fun a vv w ⟨v357, hv359, S⟩ F => ?_)
   subst vv
   have H := H.r1 S n0
   refine x_end ?_
   refine x_tn ?_
   refine ⟨⟨_, H⟩, ?_⟩
   refine xE H 1 rfl (by kernel_rfl) ?_
   refine oB Tryz.isAgg93 F rfl rfl (H.b 4 rfl) rfl (fun a F => ?_)
   refine x_end ?_
   refine x_tn ?_
   refine ⟨⟨_, H⟩, ?_⟩
   exact H362 v357 _ _ (F.sub (sc rfl (sc rfl (sc rfl (sc rfl (sc rfl (sc rfl (sc rfl (sc rfl (sc rfl sn)))))))))) (H.s [0, 3, 4, 5, 6] rfl rfl) _ (by kernel_rfl)
 intro a w ⟨s254, s256, v258, ho245, F, H, i255⟩
 subst ho245
 have hR := then_nx hk244
 refine x_tn ?_
 refine x_seq ?_
 refine x_reg ?_
 refine oBA Tryz.isAgg95 Tryz.sizeOf95 F rfl rfl (H.b 1 rfl) rfl rfl (fun a F => ?_)
 obtain ⟨z370, c371, hR⟩ := bnd_some hR
 obtain ⟨X372, K373, bk374⟩ := Sep.lend (K := [rl 2 RAtom 158 v258 s256]) (L := [bx b20 [.int .i64 x0.free, .int .i64 s254, v258] 95, bx b19 [.int .i64 0, .int .i64 0, (.slice none 0 0)] 95]) H
 refine oG F rfl Tryz.call120 rfl (impl_limited_c z370 c371 _ H.hN K373 i11 i255) (fun a vv w ⟨v377, hv380, S, i375, i376, i379⟩ F => ?_)
 subst vv
 have H : Sep [] B w0 w [rl 2 RAtom 158 v377 z370.1.atoms, bx b20 [.int .i64 x0.free, .int .i64 s254, v258] 95, bx b19 [.int .i64 0, .int .i64 0, (.slice none 0 0)] 95] := bk374 S
 refine o_extract F rfl rfl rfl (fun a F => ?_)
 refine o_extract F rfl rfl rfl (fun a F => ?_)
 refine oWA (vs := [.int .i64 z370.1.free, .int .i64 z370.1.vars, v377]) Tryz.sizeOf95 F rfl rfl rfl (H.s [2, 0, 1] rfl rfl) (oc rfl (oc rfl (oc ((H.s [2, 0, 1] rfl rfl).l 1 rfl).one on))) rfl rfl (fun w H => ?_)
 refine o_assign F rfl rfl (fun a F => ?_)
 refine x_end ?_
 refine x_tn ?_
 refine x_ret ?_
 refine x_res2 F rfl (rv_cA (arr := #[.int .i64 z370.1.free, .int .i64 z370.1.vars, v377]) F Tryz.isAgg95 Tryz.sizeOf95 rfl (H.b 0 rfl)) (rv_t F rfl) ?_
 obtain rfl := Option.some.inj hR
 exact ⟨_, rfl, v377, rfl, (H.s [1] rfl rfl), i375, i376, i379⟩

def impl_ComposeGadgets (N : Nat) (x0 : Template) (x1 : Template) (x2 : Template) (x3 : Gadgets) (x4 : Gadgets) : Option (Gadgets × Int) :=
 thn (σ := Bool) (
  bnd (impl_ValidGadgets N (Template.mk x0.size x0.rels) (Template.mk x1.size x1.rels) (Gadgets.mk x3.formulas)) fun z39 =>
  if (!z39) then  some (.nx true) else  bnd (impl_ValidGadgets N (Template.mk x1.size x1.rels) (Template.mk x2.size x2.rels) (Gadgets.mk x4.formulas)) fun z42 =>
   some (.nx (!z42))) fun s38 =>
 if s38 then
  some ((Gadgets.mk ([])), 1)
 else
  thn (σ := (List Formula)) (
   forL (σ := (List Formula)) (ρ := Gadgets × Int) (fun (k118 : Nat) (x120 : Formula) (s112 : (List Formula)) =>
    bnd (impl_composed (Formula.mk x120.free x120.vars x120.atoms) (Gadgets.mk x4.formulas)) fun z133 =>
    if (z133.2 != 0) then
     some (.ret ((Gadgets.mk ([])), z133.2))
    else
     bnd (ap s112 ([(Formula.mk z133.1.free z133.1.vars z133.1.atoms)])) fun z147 =>
     some (.go z147)) x3.formulas 0 []) fun s115 =>
  some ((Gadgets.mk s115), 0)
set_option maxHeartbeats 1000000 in
theorem impl_ComposeGadgets_c {B : Nat → Prop} {N : Nat} {x0 : Template} {x1 : Template} {x2 : Template} {x3 : Gadgets} {x4 : Gadgets} (r : Gadgets × Int) (hR : impl_ComposeGadgets N x0 x1 x2 x3 x4 = some r) {v0 : Value} {v1 : Value} {v2 : Value} {v3 : Value} {v4 : Value} (w0 : World) (hN : ∀ c, B c → c < w0.heap.size) (A0 : Bo B w0 (Agg 2 RTemplate) v0 x0) (A1 : Bo B w0 (Agg 2 RTemplate) v1 x1) (A2 : Bo B w0 (Agg 2 RTemplate) v2 x2) (A3 : Bo B w0 (Agg 1 RGadgets) v3 x3) (A4 : Bo B w0 (Agg 1 RGadgets) v4 x4) : Calls Tryz.prog 26 #[v0, v1, v2, v3, v4] w0 (Gv (fun v w' => ∃ (v1' : Value), v = .tuple #[.agg #[v1'], .int .i64 r.2] ∧ Sep [] B w0 w' [rl 3 RFormula 95 v1' r.1.formulas] ∧ I64 r.2)) := by
 unfold impl_ComposeGadgets at hR
 refine x_enter (L := [(0, v0), (1, v1), (2, v2), (3, v3), (4, v4)]) Tryz.func26 rfl rfl rfl (sc rfl (sc rfl (sc rfl (sc rfl (sc rfl sn))))) (fun a F => ?_)
 have H := Sep.start hN
 refine x_seq ?_
 refine x_reg ?_
 obtain ⟨v12, rfl, i11, h13⟩ := RTemplate.o A0
 refine oX F rfl rfl rfl H (fun a w b14 H F => ?_)
 obtain ⟨v16, rfl, i15, h17⟩ := RTemplate.o A1
 refine oX F rfl rfl rfl H (fun a w b18 H F => ?_)
 obtain ⟨v20, rfl, i19, h21⟩ := RTemplate.o A2
 refine oX F rfl rfl rfl H (fun a w b22 H F => ?_)
 obtain ⟨v23, rfl, h24⟩ := RGadgets.o A3
 refine oX F rfl rfl rfl H (fun a w b25 H F => ?_)
 obtain ⟨v26, rfl, h27⟩ := RGadgets.o A4
 refine oX F rfl rfl rfl H (fun a w b28 H F => ?_)
 refine oA Tryz.zeroValue37 F rfl rfl H (fun a w b29 H F => ?_)
 refine o_assign F rfl rfl (fun a F => ?_)
 refine x_end ?_
 refine x_tn ?_
 refine x_seq ?_
 refine x_seq ?_
 obtain ⟨o35, hR, hk36⟩ := thn_some hR
 refine x_cutQ (fun a w => ∃ (s38 : Bool), o35 = .nx s38 ∧ Sk a 56 [(8, .pointer (some ⟨b25, 0, none⟩)), (9, .pointer (some ⟨b28, 0, none⟩)), (10, .pointer (some ⟨b29, 0, none⟩)), (28, .bool s38)] ∧ Sep [] B w0 w [bx b29 [(.slice none 0 0)] 37, bx b28 [v26] 37, bx b25 [v23] 37]) ?_ ?_
 ·
  refine x_reg ?_
  refine oBA Tryz.isAgg33 Tryz.sizeOf33 F rfl rfl (H.b 5 rfl) rfl rfl (fun a F => ?_)
  refine oBA Tryz.isAgg33 Tryz.sizeOf33 F rfl rfl (H.b 4 rfl) rfl rfl (fun a F => ?_)
  refine oBA Tryz.isAgg37 Tryz.sizeOf37 F rfl rfl (H.b 2 rfl) rfl rfl (fun a F => ?_)
  obtain ⟨z39, c40, hR⟩ := bnd_some hR
  refine oK F rfl Tryz.call15 rfl H (impl_ValidGadgets_c z39 c40 _ aA (RTemplate.m i11 (H.a h13)) (RTemplate.m i15 (H.a h17)) (RGadgets.m (H.a h24))) (fun a w H F => ?_)
  refine o_not F rfl rfl (fun a F => ?_)
  refine o_move F rfl rfl (fun a F => ?_)
  rcases bcases (!z39) with hb41 | hb41
  ·
   replace hR := ifT hb41 hR
   have F := F.eq (t := 22) rfl (congrArg Value.bool hb41)
   refine o_no F rfl rfl (fun a F => ?_)
   refine o_no F rfl rfl (fun a F => ?_)
   refine o_no F rfl rfl (fun a F => ?_)
   refine o_no F rfl rfl (fun a F => ?_)
   refine o_no F rfl rfl (fun a F => ?_)
   refine o_pickt F rfl rfl rfl (fun a F => ?_)
   refine x_end ?_
   refine x_tn ?_
   exact ⟨true, (Option.some.inj hR).symm, F.sub (sc rfl (sc rfl (sc rfl (sc rfl sn)))), (H.s [0, 1, 2] rfl rfl)⟩
  replace hR := ifF hb41 hR
  have F := F.eq (t := 22) rfl (congrArg Value.bool hb41)
  refine oBA Tryz.isAgg33 Tryz.sizeOf33 F rfl rfl (H.b 4 rfl) rfl rfl (fun a F => ?_)
  refine oBA Tryz.isAgg33 Tryz.sizeOf33 F rfl rfl (H.b 3 rfl) rfl rfl (fun a F => ?_)
  refine oBA Tryz.isAgg37 Tryz.sizeOf37 F rfl rfl (H.b 1 rfl) rfl rfl (fun a F => ?_)
  obtain ⟨z42, c43, hR⟩ := bnd_some hR
  refine oK F rfl Tryz.call15 rfl H (impl_ValidGadgets_c z42 c43 _ aA (RTemplate.m i15 (H.a h17)) (RTemplate.m i19 (H.a h21)) (RGadgets.m (H.a h27))) (fun a w H F => ?_)
  refine o_not F rfl rfl (fun a F => ?_)
  refine o_pickf F rfl rfl rfl (fun a F => ?_)
  refine x_end ?_
  refine x_tn ?_
  exact ⟨(!z42), (Option.some.inj hR).symm, F.sub (sc rfl (sc rfl (sc rfl (sc rfl sn)))), (H.s [0, 1, 2] rfl rfl)⟩
 intro a w ⟨s38, ho37, F, H⟩
 subst ho37
 have hR := then_nx hk36
 refine x_tn ?_
 refine x_if F rfl (fun hb44 => ?_) (fun hb44 => ?_)
 ·
  replace hR := ifT hb44 hR
  refine x_seq ?_
  refine x_reg ?_
  refine o_build Tryz.underlying37 Tryz.zeroValue37 (fun w => by simp [Tryz.sizeOf35]; rfl) F rfl rfl rfl rfl rfl on rfl rfl (fun a F => ?_)
  refine oWA (vs := [(.slice none 0 0)]) Tryz.sizeOf37 F rfl rfl rfl H (oc rfl on) rfl rfl (fun w H => ?_)
  refine o_assign F rfl rfl (fun a F => ?_)
  refine x_end ?_
  refine x_tn ?_
  refine x_ret ?_
  refine x_tr ?_
  refine x_res2 F rfl (rv_cA (arr := #[(.slice none 0 0)]) F Tryz.isAgg37 Tryz.sizeOf37 rfl (H.b 0 rfl)) (rv_t F rfl) ?_
  obtain rfl := Option.some.inj hR
  exact ⟨_, rfl, (.slice none 0 0), rfl, ((H.nl 3 RFormula 95).s [0] rfl rfl), (show I64 (1) by decide)⟩
 replace hR := ifF hb44 hR
 refine x_skip ?_
 refine x_tn ?_
 refine x_seq ?_
 refine x_reg ?_
 refine o_build Tryz.underlying37 Tryz.zeroValue37 (fun w => by simp [Tryz.sizeOf35]; rfl) F rfl rfl rfl rfl rfl on rfl rfl (fun a F => ?_)
 refine oA Tryz.zeroValue37 F rfl rfl H (fun a w b46 H F => ?_)
 refine oWA (vs := [(.slice none 0 0)]) Tryz.sizeOf37 F rfl rfl rfl H (oc rfl on) rfl rfl (fun w H => ?_)
 refine x_end ?_
 refine x_tn ?_
 refine x_seq ?_
 refine x_seq ?_
 refine x_reg ?_
 refine o_bfield fa37_0 F rfl rfl rfl (fun a F => ?_)
 refine oB Tryz.isAgg35 F rfl rfl (H.b 3 rfl) rfl (fun a F => ?_)
 refine oL Tryz.underlying35 F rfl rfl h24 (fun a i47 F => ?_)
 refine o_move F rfl rfl (fun a F => ?_)
 refine x_end ?_
 refine x_tn ?_
 obtain ⟨o106, hR, hk107⟩ := thn_some hR
 refine x_cutQ (fun a w => ∃ (s115 : List Formula) (v117 : Value), o106 = .nx s115 ∧ Sk a 56 [(10, .pointer (some ⟨b29, 0, none⟩)), (12, .pointer (some ⟨b46, 0, none⟩))] ∧ Sep [] B w0 w [rl 3 RFormula 95 v117 s115, bx b46 [v117] 37, bx b29 [(.slice none 0 0)] 37]) ?_ ?_
 ·
  refine x_blk ?_
  obtain ⟨fl110, hf111, hR⟩ := forL_gen hR
  refine x_loop (fun g a w => ∃ (k118 : Nat) (rest119 : List Formula) (s112 : List Formula) (v114 : Value), (k118 ≤ x3.formulas.length ∧ x3.formulas.drop k118 = rest119) ∧ rest119.length = g ∧ forL fl110 rest119 k118 s112 = some o106 ∧ Sk a 56 [(34, .int .i64 (k118 : Int)), (9, .pointer (some ⟨b28, 0, none⟩)), (10, .pointer (some ⟨b29, 0, none⟩)), (12, .pointer (some ⟨b46, 0, none⟩)), (32, v23), (33, .int .i64 (x3.formulas.length : Int))] ∧ Sep [] B w0 w [rl 3 RFormula 95 v114 s112, bx b46 [v114] 37, bx b29 [(.slice none 0 0)] 37, bx b28 [v26] 37]) x3.formulas.length ?_ ?_
  ·
   exact ⟨0, x3.formulas, [], (.slice none 0 0), ⟨Nat.zero_le _, rfl⟩, rfl, hR, F.sub (sc rfl (sc rfl (sc rfl (sc rfl (sc rfl (sc rfl sn)))))), ((H.nl 3 RFormula 95).s [0, 1, 2, 3] rfl rfl)⟩
  intro g121 a w ⟨k118, rest119, s112, v114, hd122, hg123, hR, F, H⟩
  cases rest119 with
  | nil =>
   replace hR := forL_nil hR
   have hkk118 := drop_nil hd122.1 hd122.2
   have hlk118 := dec_no hkk118
   refine x_seq ?_
   refine x_reg ?_
   refine o_lss F rfl rfl rfl (fun a F => ?_)
   refine x_end ?_
   refine x_tn ?_
   refine x_seq ?_
   refine x_ifF F rfl hlk118 ?_
   refine x_exit ?_
   refine x_te ?_
   refine x_te ?_
   refine x_be ?_
   refine x_tn ?_
   exact ⟨s112, v114, (Option.some.inj hR).symm, F.sub (sc rfl (sc rfl sn)), (H.s [0, 1, 2] rfl rfl)⟩
  | cons x120 rest119 =>
   subst hg123
   replace hd122 := drop_cons hd122.2
   have hxk118 := ix_nat hd122.2.1
   obtain ⟨ck118, hR, hn109⟩ := forL_cons hR
   rw [hf111] at hR
   have hlk118 := dec_yes hd122.1
   refine x_seq ?_
   refine x_reg ?_
   refine o_lss F rfl rfl rfl (fun a F => ?_)
   refine x_end ?_
   refine x_tn ?_
   refine x_seq ?_
   refine x_ifT F rfl hlk118 ?_
   refine x_skip ?_
   refine x_tn ?_
   refine x_seq ?_
   have ikk118 := k64 (Nat.le_of_lt hd122.1) i47
   have ink118 := inc64 hd122.1 i47
   refine x_blk ?_
   refine x_seq ?_
   refine x_reg ?_
   refine oI Tryz.underlying35 Tryz.sizeOf95 F rfl rfl rfl h24 hxk118 (fun a p124 h125 F => ?_)
   refine olA Tryz.isAgg95 Tryz.sizeOf95 F rfl rfl H.sm h125 (fun a v126 h127 F => ?_)
   refine oA Tryz.zeroValue95 F rfl rfl H (fun a w b128 H F => ?_)
   obtain ⟨v131, rfl, i129, i130, h132⟩ := RFormula.o h127
   refine oWA (vs := [.int .i64 x120.free, .int .i64 x120.vars, v131]) Tryz.sizeOf95 F rfl rfl rfl H (oc rfl (oc rfl (oc (H.a h132).one on))) rfl rfl (fun w H => ?_)
   refine x_end ?_
   refine x_tn ?_
   refine x_seq ?_
   refine x_reg ?_
   refine oBA Tryz.isAgg95 Tryz.sizeOf95 F rfl rfl (H.b 0 rfl) rfl rfl (fun a F => ?_)
   refine oBA Tryz.isAgg37 Tryz.sizeOf37 F rfl rfl (H.b 4 rfl) rfl rfl (fun a F => ?_)
   obtain ⟨z133, c134, hR⟩ := bnd_some hR
   refine oG F rfl Tryz.call61 rfl (impl_composed_c z133 c134 _ aA (RFormula.m i129 i130 (H.a h132)) (RGadgets.m (H.a h27))) (fun a vv w ⟨v137, hv140, S, i135, i136, i139⟩ F => ?_)
   subst vv
   have H := H.r1 S n0
   refine o_move F rfl rfl (fun a F => ?_)
   refine o_extract F rfl rfl rfl (fun a F => ?_)
   refine o_extract F rfl rfl rfl (fun a F => ?_)
   refine oA Tryz.zeroValue95 F rfl rfl H (fun a w b141 H F => ?_)
   refine oWA (vs := [.int .i64 z133.1.free, .int .i64 z133.1.vars, v137]) Tryz.sizeOf95 F rfl rfl rfl H (oc rfl (oc rfl (oc (H.l 1 rfl).one on))) rfl rfl (fun w H => ?_)
   refine o_assign F rfl rfl (fun a F => ?_)
   refine x_end ?_
   refine x_tn ?_
   refine x_seq ?_
   refine x_seq ?_
   refine x_reg ?_
   refine o_move F rfl rfl (fun a F => ?_)
   refine o_neq F rfl rfl rfl (fun a F => ?_)
   refine x_end ?_
   refine x_tn ?_
   refine x_if F rfl (fun hb142 => ?_) (fun hb142 => ?_)
   ·
    replace hR := ifT hb142 hR
    refine x_seq ?_
    refine x_reg ?_
    refine o_build Tryz.underlying37 Tryz.zeroValue37 (fun w => by simp [Tryz.sizeOf35]; rfl) F rfl rfl rfl rfl rfl on rfl rfl (fun a F => ?_)
    refine o_move F rfl rfl (fun a F => ?_)
    refine oWA (vs := [(.slice none 0 0)]) Tryz.sizeOf37 F rfl rfl rfl (H.s [5, 0, 1, 2, 3, 4, 6] rfl rfl) (oc rfl on) rfl rfl (fun w H => ?_)
    refine o_assign F rfl rfl (fun a F => ?_)
    refine x_end ?_
    refine x_tn ?_
    refine x_ret ?_
    refine x_tr ?_
    refine x_br ?_
    refine x_tr ?_
    refine x_tr ?_
    replace hR := l_ret hR hn109
    refine x_br ?_
    refine x_tr ?_
    replace hR := j_ret hR hk107
    refine x_tr ?_
    refine x_res2 F rfl (rv_cA (arr := #[(.slice none 0 0)]) F Tryz.isAgg37 Tryz.sizeOf37 rfl (H.b 0 rfl)) (rv_t F rfl) ?_
    obtain rfl := Option.some.inj hR
    exact ⟨_, rfl, (.slice none 0 0), rfl, ((H.nl 3 RFormula 95).s [0] rfl rfl), i139⟩
   replace hR := ifF hb142 hR
   refine x_skip ?_
   refine x_tn ?_
   refine x_reg ?_
   refine o_bfield fa37_0 F rfl rfl rfl (fun a F => ?_)
   refine oB Tryz.isAgg35 F rfl rfl (H.b 4 rfl) rfl (fun a F => ?_)
   refine oBA Tryz.isAgg95 Tryz.sizeOf95 F rfl rfl (H.b 0 rfl) rfl rfl (fun a F => ?_)
   have H := (RFormula.w i135 i136 (H.s [1, 0, 2, 3, 4, 5, 6] rfl rfl))
   refine oR1L (R := RFormula) (y := (Formula.mk z133.1.free z133.1.vars z133.1.atoms)) Tryz.underlying35 Tryz.sizeOf95 Tryz.zeroValue95 rfl rfl F rfl rfl H El.agg (fun a w v144 H F => ?_)
   obtain ⟨z147, c148, hR⟩ := bnd_some hR
   refine oPL (sz := 3) (R := RFormula) (z := (.agg #[.int .i64 0, .int .i64 0, (.slice none 0 0)])) (bytes := 40) Tryz.underlying35 (by kernel_rfl) rfl rfl F rfl rfl rfl (H.s [3, 0, 1, 2, 4, 5, 6] rfl rfl) c148 (fun a w v149 H F => ?_)
   refine o_bfield fa37_0 F rfl rfl rfl (fun a F => ?_)
   refine oW Tryz.sizeOf35 F rfl rfl rfl (H.s [3, 0, 1, 2, 4, 5] rfl rfl) ((H.s [3, 0, 1, 2, 4, 5] rfl rfl).l 1 rfl).one rfl rfl (fun w H => ?_)
   refine x_end ?_
   refine x_bn ?_
   refine x_tn ?_
   refine x_reg ?_
   refine o_inc F rfl rfl rfl ink118 (fun a F => ?_)
   refine o_move F rfl rfl (fun a F => ?_)
   refine x_end ?_
   refine x_tn ?_
   replace hR := l_go hR hn109
   exact ⟨_, Nat.lt_succ_self _, k118 + 1, rest119, z147, v149, ⟨hd122.1, hd122.2.2⟩, rfl, hR, F.sub (sc rfl (sc rfl (sc rfl (sc rfl (sc rfl (sc rfl sn)))))), (H.s [1, 0, 4, 5] rfl rfl)⟩
 intro a w ⟨s115, v117, ho108, F, H⟩
 subst ho108
 have hR := then_nx hk107
 refine x_tn ?_
 refine x_seq ?_
 refine x_reg ?_
 refine oBA Tryz.isAgg37 Tryz.sizeOf37 F rfl rfl (H.b 1 rfl) rfl rfl (fun a F => ?_)
 refine oWA (vs := [v117]) Tryz.sizeOf37 F rfl rfl rfl (H.s [2, 0, 1] rfl rfl) (oc ((H.s [2, 0, 1] rfl rfl).l 1 rfl).one on) rfl rfl (fun w H => ?_)
 refine o_assign F rfl rfl (fun a F => ?_)
 refine x_end ?_
 refine x_tn ?_
 refine x_ret ?_
 refine x_res2 F rfl (rv_cA (arr := #[v117]) F Tryz.isAgg37 Tryz.sizeOf37 rfl (H.b 0 rfl)) (rv_t F rfl) ?_
 obtain rfl := Option.some.inj hR
 exact ⟨_, rfl, v117, rfl, (H.s [1] rfl rfl), (show I64 (0) by decide)⟩
end Go.Proofs.YtmgdjaiaekhkgaaGreat
