/-
  solverOf: the atoms sorted by their greatest variable: rows of rows of one's own. By hand.
-/
import Derived.Test.YtmgdjaiaekhkgaaGreatSV
import Derived.Test.YtmgdjaiaekhkgaaGreatRR
namespace Go.Proofs.YtmgdjaiaekhkgaaGreat
set_option linter.unusedVariables false
set_option linter.unusedSimpArgs false
set_option maxRecDepth 100000
open Go.RowKit
def impl_solverOf (x0 : Template) (x1 : Int) (x2 : List Atom) : Option solver :=
 bnd (mkz ([] : List Atom) x1) fun z =>
 thn (σ := List (List Atom)) (
  forL (σ := List (List Atom)) (ρ := solver) (fun (k : Nat) (a : Atom) (s : List (List Atom)) =>
   bnd (slices_Max_s_int64_int64 a.args) fun m =>
   bnd (ix s m) fun y =>
   bnd (ap y [a]) fun u =>
   some (.go (s.set m.toNat u))) x2 0 z) fun s =>
 some (solver.mk x0 x1 s)
set_option maxHeartbeats 1000000 in
theorem impl_solverOf_s {B : Nat → Prop} {x0 : Template} {x1 : Int} {x2 : List Atom} (r : solver) (hR : impl_solverOf x0 x1 x2 = some r) {v0 v2 : Value} (w0 : World) (hN : ∀ c, B c → c < w0.heap.size) (A0 : Bo B w0 (Agg 2 RTemplate) v0 x0) (hx1 : I64 x1) (A2 : Bo B w0 (Sl 2 RAtom) v2 x2) :
    Calls Tryz.prog 166 #[v0, .int .i64 x1, v2] w0 (Gv (fun v w' => ∃ (v1' : Value), v = v1' ∧ Sep [] B w0 w' [ro B (V := Pt 4 Rsolver) v1' r])) := by
  unfold impl_solverOf at hR
  obtain ⟨v1, rfl, is, hr⟩ := RTemplate.o A0
  refine x_enter (L := [(0, .agg #[.int .i64 x0.size, v1]), (1, .int .i64 x1), (2, v2)]) Tryz.func166 rfl rfl rfl (sc rfl (sc rfl (sc rfl sn))) (fun a F => ?_)
  have H := Sep.start hN
  refine x_seq ?_
  refine x_reg ?_
  refine oX F rfl rfl (cs := [.int .i64 x0.size, v1]) rfl H (fun a w b3 H F => ?_)
  refine o_assign F rfl rfl (fun a F => ?_)
  refine x_end ?_
  refine x_tn ?_
  refine x_seq ?_
  obtain ⟨z, cz, hR⟩ := bnd_some hR
  obtain ⟨n0, hn0, rfl⟩ : ∃ n : Nat, mkz (Value.slice none 0 0) x1 = some (List.replicate n (.slice none 0 0)) ∧ z = List.replicate n [] := by
    obtain ⟨q1, q2, q3⟩ := mkz_some cz
    exact ⟨x1.toNat, by unfold mkz; rw [if_pos ⟨q1, q2⟩], q3⟩
  refine x_cutQ (fun a w => ∃ (b7 : Nat) (vd : Value), Sk a 44 [(7, .pointer (some ⟨b7, 0, none⟩)), (2, v2)] ∧ Sep [] B w0 w (rl 1 RVal 93 vd (List.replicate n0 (.slice none 0 0)) :: bx b7 [.int .i64 x0.size, v1, .int .i64 x1, vd] 257 :: [])) ?_ ?_
  · obtain ⟨w1, rfl⟩ : ∃ x, x = w := ⟨_, rfl⟩
    obtain ⟨X1, N1, g1, e1, H, th⟩ := H.fz
    have K3 := g1.bk
    refine xD H (by kernel_rfl) (fun w H => ?_)
    refine b_q 0 (by kernel_rfl) rfl (by kernel_rfl) (by kernel_rfl) (by kernel_rfl) (by kernel_rfl) ?_
    refine vBA Tryz.isAgg33 Tryz.sizeOf33 F rfl rfl (K3.v H.sm) rfl rfl (fun a F => ?_)
    refine b_q0 1 rfl (by kernel_rfl) (by kernel_rfl) (by kernel_rfl) ?_
    refine v_val F rfl (fun w l => r_move F rfl) (fun a F => ?_)
    refine b_q0 2 rfl (by kernel_rfl) (by kernel_rfl) (by kernel_rfl) ?_
    refine v_val F rfl (fun w l => r_move F rfl) (fun a F => ?_)
    refine xE H 3 rfl (by kernel_rfl) ?_
    refine oRM (sz := 1) (R := RVal) (z := .slice none 0 0) (bytes := 24) Tryz.underlying255 (by kernel_rfl) rfl (by decide) (by decide) (fun w => ⟨rfl, rfl, rfl⟩) F rfl rfl rfl hn0 H (fun a w vd H F => ?_)
    refine x_end ?_
    refine x_tn ?_
    refine ⟨⟨_, H⟩, ?_⟩
    refine xE H 4 rfl (by kernel_rfl) ?_
    refine o_buildG (cs := #[.int .i64 x0.size, v1, .int .i64 x1, vd]) (qs := [(0, [.int .i64 x0.size, v1]), (2, [.int .i64 x1]), (3, [vd])]) Tryz.underlying257 Tryz.zeroValue257 (fun w => by simp [Tryz.sizeOf2, Tryz.sizeOf33, Tryz.sizeOf255]; rfl) F rfl rfl rfl rfl rfl ⟨rfl, rfl, Nat.le_of_ble_eq_true rfl, ⟨rfl, rfl, Nat.le_of_ble_eq_true rfl, ⟨(one_cells (H.l 0 rfl).one), rfl, Nat.le_of_ble_eq_true rfl, trivial⟩⟩⟩ rfl (fun a F => ?_)
    refine x_end ?_
    refine x_tn ?_
    refine ⟨⟨_, H⟩, ?_⟩
    refine xE H 5 rfl (by kernel_rfl) ?_
    refine oX F rfl rfl (cs := [.int .i64 x0.size, v1, .int .i64 x1, vd]) rfl H (fun a w b7 H F => ?_)
    refine x_end ?_
    refine x_tn ?_
    refine ⟨⟨_, H⟩, ?_⟩
    refine xE H 6 rfl (by kernel_rfl) ?_
    refine o_assign F rfl rfl (fun a F => ?_)
    refine x_end ?_
    refine x_tn ?_
    refine ⟨⟨_, H⟩, ?_⟩
    refine b_end (by kernel_rfl) ?_
    exact ⟨b7, vd, F.sub (sc rfl (sc rfl sn)), (th.1 H (Ns.all ⟨Go.Proofs.YtmgdjaiaekhkgaaGreat.n0, Go.Proofs.YtmgdjaiaekhkgaaGreat.n0, trivial⟩)).s [2, 1] rfl rfl⟩
  · intro a w ⟨b7, vd, F, H⟩
    refine x_tn ?_
    have H : Sep [] B w0 w (rl 1 RVal 93 vd (List.replicate n0 (.slice none 0 0)) :: bx b7 [.int .i64 x0.size, v1, .int .i64 x1, vd] 257 :: zipA B 2 RAtom 158 (List.replicate n0 (.slice none 0 0)) (List.replicate n0 [])) := (H.nils 2 RAtom 158 n0).comm
    refine x_seq ?_
    refine x_seq ?_
    refine x_reg ?_
    refine o_move F rfl rfl (fun a F => ?_)
    refine oL Tryz.underlying93 F rfl rfl A2 (fun a i13 F => ?_)
    refine o_move F rfl rfl (fun a F => ?_)
    refine x_end ?_
    refine x_tn ?_
    obtain ⟨o31, hR, hk32⟩ := thn_some hR
    refine x_cutQ (fun a w => ∃ (s : List (List Atom)) (us : List Value), o31 = .nx s ∧ us.length = s.length ∧ Sk a 44 [(7, .pointer (some ⟨b7, 0, none⟩))] ∧ Sep [] B w0 w (rl 1 RVal 93 vd us :: bx b7 [.int .i64 x0.size, v1, .int .i64 x1, vd] 257 :: zipA B 2 RAtom 158 us s)) ?_ ?_
    · refine x_blk ?_
      obtain ⟨fl35, hf36, hR⟩ := forL_gen hR
      refine x_loop (fun g a w => ∃ (k43 : Nat) (rest44 : List Atom) (s : List (List Atom)) (us : List Value), (k43 ≤ x2.length ∧ x2.drop k43 = rest44) ∧ rest44.length = g ∧ forL fl35 rest44 k43 s = some o31 ∧ us.length = s.length ∧ Sk a 44 [(19, .int .i64 (k43 : Int)), (7, .pointer (some ⟨b7, 0, none⟩)), (17, v2), (18, .int .i64 (x2.length : Int))] ∧ Sep [] B w0 w (rl 1 RVal 93 vd us :: bx b7 [.int .i64 x0.size, v1, .int .i64 x1, vd] 257 :: zipA B 2 RAtom 158 us s)) x2.length ?_ ?_
      · exact ⟨0, x2, _, _, ⟨Nat.zero_le _, rfl⟩, rfl, hR, by simp, F.sub (sc rfl (sc rfl (sc rfl (sc rfl sn)))), H⟩
      intro g46 a w ⟨k43, rest44, s, us, hd47, hg48, hR, hus, F, H⟩
      cases rest44 with
      | nil =>
        replace hR := forL_nil hR
        have hkk43 := drop_nil hd47.1 hd47.2
        have hlk43 := dec_no hkk43
        refine x_seq ?_
        refine x_reg ?_
        refine o_lss F rfl rfl rfl (fun a F => ?_)
        refine x_end ?_
        refine x_tn ?_
        refine x_seq ?_
        refine x_ifF F rfl hlk43 ?_
        refine x_exit ?_
        refine x_te ?_
        refine x_te ?_
        refine x_be ?_
        refine x_tn ?_
        exact ⟨s, us, (Option.some.inj hR).symm, hus, F.sub (sc rfl sn), H⟩
      | cons x45 rest44 =>
        subst hg48
        replace hd47 := drop_cons hd47.2
        have hxk43 := ix_nat hd47.2.1
        obtain ⟨ck43, hR, hn34⟩ := forL_cons hR
        rw [hf36] at hR
        have hlk43 := dec_yes hd47.1
        refine x_seq ?_
        refine x_reg ?_
        refine o_lss F rfl rfl rfl (fun a F => ?_)
        refine x_end ?_
        refine x_tn ?_
        refine x_seq ?_
        refine x_ifT F rfl hlk43 ?_
        refine x_skip ?_
        refine x_tn ?_
        refine x_seq ?_
        have ikk43 := k64 (Nat.le_of_lt hd47.1) i13
        have ink43 := inc64 hd47.1 i13
        refine x_blk ?_
        refine x_seq ?_
        refine x_reg ?_
        refine oI Tryz.underlying93 Tryz.sizeOf158 F rfl rfl rfl A2 hxk43 (fun a p49 h50 F => ?_)
        refine olA Tryz.isAgg158 Tryz.sizeOf158 F rfl rfl H.sm h50 (fun a va ha F => ?_)
        obtain ⟨va1, rfl, ia, hargs⟩ := RAtom.o ha
        refine oA Tryz.zeroValue158 F rfl rfl H (fun a w b9 H F => ?_)
        refine oWA (vs := [.int .i64 x45.rel, va1]) Tryz.sizeOf158 F rfl rfl rfl H (oc rfl (oc hargs.one on)) rfl rfl (fun w H => ?_)
        refine x_end ?_
        refine x_tn ?_
        refine x_seq ?_
        refine x_reg ?_
        refine o_bfield fa158_1 F rfl rfl rfl (fun a F => ?_)
        refine oB Tryz.isAgg42 F rfl rfl (H.b 0 rfl) rfl (fun a F => ?_)
        obtain ⟨m, cm, hR⟩ := bnd_some hR
        refine oKI F rfl Tryz.call219 rfl H (slices_Max_s_int64_int64_c m cm _ aA (H.a hargs)) (fun a w H im F => ?_)
        refine o_assign F rfl rfl (fun a F => ?_)
        refine x_end ?_
        refine x_tn ?_
        obtain ⟨y, cy, hR⟩ := bnd_some hR
        obtain ⟨u', cu, hR⟩ := bnd_some hR
        obtain ⟨hm0, hy⟩ := ix_some cy
        have hml : m.toNat < us.length := by rw [hus]; exact (List.getElem?_eq_some_iff.1 hy).1
        obtain ⟨u, hu⟩ : ∃ u, us[m.toNat]? = some u := ⟨_, List.getElem?_eq_getElem hml⟩
        have hix : ix us m = some u := by unfold ix; rw [if_pos hm0]; exact hu
        obtain ⟨e1, e2⟩ := zipA_split (M := B) (sz := 2) (R := RAtom) (E2 := 158) hu hy
        have SB := H.sm
        obtain ⟨w1, rfl⟩ : ∃ x, x = w := ⟨_, rfl⟩
        obtain ⟨X1, N1, g1, ee, H, th⟩ := H.mg.mg.fz
        have K9 := g1.l.l.bk
        have hvd := g1.l.r.ld
        have K7 := g1.r.bk
        rw [e1] at H
        have H := H.comm
        refine x_cutQ (fun a w => Sk a 44 [(19, .int .i64 (k43 : Int)), (7, .pointer (some ⟨b7, 0, none⟩)), (17, v2), (18, .int .i64 (x2.length : Int))] ∧ ∃ us', us'.length = (s.set m.toNat u').length ∧ Sep [] B w0 w (rl 1 RVal 93 vd us' :: bx b7 [.int .i64 x0.size, v1, .int .i64 x1, vd] 257 :: zipA B 2 RAtom 158 us' (s.set m.toNat u'))) ?_ ?_
        · refine xD H (by kernel_rfl) (fun w H => ?_)
          refine b_q0 0 rfl (by kernel_rfl) (by kernel_rfl) (by kernel_rfl) ?_
          refine v_val F rfl (fun w l => r_move F rfl) (fun a F => ?_)
          refine b_q 1 (by kernel_rfl) rfl (by kernel_rfl) (by kernel_rfl) (by kernel_rfl) (by kernel_rfl) ?_
          refine v_val F rfl (fun w l => r_nilCheck F rfl) (fun a F => ?_)
          refine b_q 2 (by kernel_rfl) rfl (by kernel_rfl) (by kernel_rfl) (by kernel_rfl) (by kernel_rfl) ?_
          refine v_val F rfl (fun w l => r_bfield fa257_2 F rfl rfl) (fun a F => ?_)
          refine b_q 3 (by kernel_rfl) rfl (by kernel_rfl) (by kernel_rfl) (by kernel_rfl) (by kernel_rfl) ?_
          refine vB Tryz.isAgg255 F rfl rfl (K7.v H.sm) rfl (fun a F => ?_)
          refine b_q0 4 rfl (by kernel_rfl) (by kernel_rfl) (by kernel_rfl) ?_
          refine v_val F rfl (fun w l => r_move F rfl) (fun a F => ?_)
          refine b_q0 5 rfl (by kernel_rfl) (by kernel_rfl) (by kernel_rfl) ?_
          refine v_val F rfl (fun w l => r_move F rfl) (fun a F => ?_)
          refine b_q 6 (by kernel_rfl) rfl (by kernel_rfl) (by kernel_rfl) (by kernel_rfl) (by kernel_rfl) ?_
          refine v_val F rfl (fun w l => r_nilCheck F rfl) (fun a F => ?_)
          refine b_q 7 (by kernel_rfl) rfl (by kernel_rfl) (by kernel_rfl) (by kernel_rfl) (by kernel_rfl) ?_
          refine v_val F rfl (fun w l => r_bfield fa257_2 F rfl rfl) (fun a F => ?_)
          refine b_q 8 (by kernel_rfl) rfl (by kernel_rfl) (by kernel_rfl) (by kernel_rfl) (by kernel_rfl) ?_
          refine vB Tryz.isAgg255 F rfl rfl (K7.v H.sm) rfl (fun a F => ?_)
          refine b_q0 9 rfl (by kernel_rfl) (by kernel_rfl) (by kernel_rfl) ?_
          refine v_val F rfl (fun w l => r_move F rfl) (fun a F => ?_)
          refine b_q 10 (by kernel_rfl) rfl (by kernel_rfl) (by kernel_rfl) (by kernel_rfl) (by kernel_rfl) ?_
          refine vI Tryz.underlying255 Tryz.sizeOf93 F rfl rfl rfl hvd hix (fun a p hp F => ?_)
          refine b_q 11 (by kernel_rfl) rfl (by kernel_rfl) (by kernel_rfl) (by kernel_rfl) (by kernel_rfl) ?_
          refine v_val F rfl (fun w' l => b_cell Tryz.isAgg93 F rfl hp w' (H.sm.trans l)) (fun a F => ?_)
          refine b_q 12 (by kernel_rfl) rfl (by kernel_rfl) (by kernel_rfl) (by kernel_rfl) (by kernel_rfl) ?_
          refine vBA Tryz.isAgg158 Tryz.sizeOf158 F rfl rfl (K9.v H.sm) rfl rfl (fun a F => ?_)
          refine xE H 13 rfl (by kernel_rfl) ?_
          refine oR1 (R := RAtom) (y := x45) (N1 := B) Tryz.underlying93 Tryz.sizeOf158 Tryz.zeroValue158 rfl rfl F rfl rfl H th.2.2 (Eo.agg (RAtom.m ia (hargs.to (SB.trans (H.sm.mono th.2.2))))) (fun a w v' H F => ?_)
          refine x_end ?_
          refine x_tn ?_
          refine ⟨⟨_, H⟩, ?_⟩
          refine xE H 14 rfl (by kernel_rfl) ?_
          refine oP (sz := 2) (R := RAtom) (z := (.agg #[.int .i64 0, .slice none 0 0])) (bytes := 32) Tryz.underlying93 (by kernel_rfl) rfl rfl F rfl rfl rfl H.sw cu (fun a w v'' H F => ?_)
          refine x_end ?_
          refine x_tn ?_
          refine ⟨⟨_, H⟩, ?_⟩
          refine xE H 15 rfl (by kernel_rfl) ?_
          obtain ⟨Y, ⟨Ya, Yb, ⟨Yc, Yd, _, ⟨rb, ib, r1, _, r2, r3⟩, _, y1, y2⟩, _, _, y3, _⟩, hY, _⟩ := g1
          have r1' := r1.keep (fun c hc => H.sm.blk c (hY c (y3 c (y2 c (r2 c hc))))) (fun c hc => H.sm.blk c (hY c (y3 c (y2 c (r3 c hc))))) H.fr.size
          refine o_rindex Tryz.underlying255 Tryz.sizeOf93 F rfl rfl rfl r1' hix (fun a p2 bi _ _ hp2 F => ?_)
          refine x_end ?_
          refine x_tn ?_
          refine ⟨⟨_, H⟩, ?_⟩
          refine b_e 16 rfl (by kernel_rfl) ?_
          have hone := (H.r 0 rfl).one
          have hev := Eo.val (H.r 0 rfl)
          have H := th.1 H (fun A hA c hc => by
            rcases List.mem_cons.1 hA with rfl | hA
            · exact hc
            · rcases List.mem_append.1 hA with hA | hA
              · exact zipA_N A hA c hc
              · exact zipA_N A hA c hc)
          have H := H.um.um.sw.lw
          refine oS (N1 := N0) Tryz.sizeOf93 F rfl rfl rfl H hp2 hml hev hone rfl (fun w H => ?_)
          refine x_end ?_
          refine x_tn ?_
          refine ⟨.inr (by kernel_rfl), ?_⟩
          refine b_end (by kernel_rfl) ?_
          have H := H.tl.sw.dp
          refine ⟨F.sub (sc rfl (sc rfl (sc rfl (sc rfl sn)))), us.set m.toNat v'', by simp [hus], ?_⟩
          rw [e2]
          exact Sep.back (D := [_, _]) H
        · intro a w ⟨F, us', hus', H⟩
          refine x_bn ?_
          refine x_tn ?_
          refine x_reg ?_
          refine o_inc F rfl rfl rfl ink43 (fun a F => ?_)
          refine o_move F rfl rfl (fun a F => ?_)
          refine x_end ?_
          refine x_tn ?_
          replace hR := l_go hR hn34
          exact ⟨_, Nat.lt_succ_self _, k43 + 1, rest44, _, us', ⟨hd47.1, hd47.2.2⟩, rfl, hR, hus', F.sub (sc rfl (sc rfl (sc rfl (sc rfl sn)))), H⟩
    · intro a w ⟨s, us, ho33, hus, F, H⟩
      subst ho33
      have hR := then_nx hk32
      refine x_tn ?_
      refine x_seq ?_
      refine x_reg ?_
      refine o_move F rfl rfl (fun a F => ?_)
      refine o_assign F rfl rfl (fun a F => ?_)
      refine x_end ?_
      refine x_tn ?_
      refine x_ret ?_
      refine x_res1 F rfl (rv_t F rfl) ?_
      obtain rfl := Option.some.inj hR
      have H := Sep.zrow (D := [_]) hus (fun _ h => h) (H.sw.comm (L1 := [_]))
      obtain ⟨X1, N1, g1, ee, H, th⟩ := H.mg.fz
      have H := H.rob (Rsolver.b g1.r.bk is (ee hr) hx1 g1.l.rd)
      exact ⟨_, rfl, _, rfl, th.2.1 H (Ns.all trivial)⟩
end Go.Proofs.YtmgdjaiaekhkgaaGreat
