/-
  solverOf: the atoms sorted by their greatest variable: rows of rows of one's own. By hand.
-/
import Derived.Test.YtmgdjaiaekhkgaaGreatSV
import Derived.Test.YtmgdjaiaekhkgaaGreatRR
namespace Go.Proofs.YtmgdjaiaekhkgaaGreat
open Go.Proofs.Tryz
set_option linter.unusedVariables false
set_option linter.unusedSimpArgs false
set_option maxRecDepth 100000
open Go.RowKit
def impl_solverOf (x0 : Template) (x1 : Int) (x2 : List Atom) : Option solver :=
 oJ (mkz ([] : List Atom) x1) fun z =>
 kJ (σ := List (List Atom)) (
  qT (σ := List (List Atom)) (ρ := solver) (fun (k : Nat) (a : Atom) (s : List (List Atom)) =>
   oJ (zM a.args) fun m =>
   oJ (ix s m) fun y =>
   oJ (ap y [a]) fun u =>
   some (.go (s.set m.toNat u))) x2 0 z) fun s =>
 some (solver.mk x0 x1 s)
set_option maxHeartbeats 1000000 in
theorem impl_solverOf_s {B : Nat → Prop} {x0 : Template} {x1 : Int} {x2 : List Atom} (r : solver) (hR : impl_solverOf x0 x1 x2 = some r) {v0 v2 : Value} (w0 : World) (hN : ∀ c, B c → c < w0.heap.size) (A0 : Bo B w0 (qH 2 xJ) v0 x0) (hx1 : xY x1) (A2 : Bo B w0 (Sl 2 xU) v2 x2) :
    Calls Tryz.prog 166 #[v0, .int .i64 x1, v2] w0 (Gv (fun v w' => ∃ (v1' : Value), v = v1' ∧ Sep [] B w0 w' [ro B (V := Pt 4 vL) v1' r])) := by
  unfold impl_solverOf at hR
  obtain ⟨v1, rfl, is, hr⟩ := xJ.o A0
  refine oD (L := [(0, .agg #[.int .i64 x0.size, v1]), (1, .int .i64 x1), (2, v2)]) func166 rfl rfl rfl (sc rfl (sc rfl (sc rfl sn))) (fun a F => ?_)
  have H := Sep.start hN
  refine xC ?_
  refine xH ?_
  refine oX F rfl rfl (cs := [.int .i64 x0.size, v1]) rfl H (fun a w b3 H F => ?_)
  refine xA F rfl rfl (fun a F => ?_)
  refine xF ?_
  refine xG ?_
  refine xC ?_
  obtain ⟨z, cz, hR⟩ := xI hR
  obtain ⟨n0, hn0, rfl⟩ : ∃ n : Nat, mkz (Value.slice none 0 0) x1 = some (List.replicate n (.slice none 0 0)) ∧ z = List.replicate n [] := by
    obtain ⟨q1, q2, q3⟩ := mkz_some cz
    exact ⟨x1.toNat, by unfold mkz; rw [if_pos ⟨q1, q2⟩], q3⟩
  refine oQ (fun a w => ∃ (b7 : Nat) (vd : Value), Sk a 44 [(7, .pointer (some ⟨b7, 0, none⟩)), (2, v2)] ∧ Sep [] B w0 w (rl 1 RVal 93 vd (List.replicate n0 (.slice none 0 0)) :: bx b7 [.int .i64 x0.size, v1, .int .i64 x1, vd] 257 :: [])) ?_ ?_
  · obtain ⟨w1, rfl⟩ : ∃ x, x = w := ⟨_, rfl⟩
    obtain ⟨X1, N1, g1, e1, H, th⟩ := H.fz
    have K3 := g1.bk
    refine xD H (by kernel_rfl) (fun w H => ?_)
    refine b_q 0 (by kernel_rfl) rfl (by kernel_rfl) (by kernel_rfl) (by kernel_rfl) (by kernel_rfl) ?_
    refine vBA isAgg33 sizeOf33 F rfl rfl (K3.v H.sm) rfl rfl (fun a F => ?_)
    refine zZ 1 rfl (by kernel_rfl) (by kernel_rfl) (by kernel_rfl) ?_
    refine qO F rfl (fun w l => xP F rfl) (fun a F => ?_)
    refine zZ 2 rfl (by kernel_rfl) (by kernel_rfl) (by kernel_rfl) ?_
    refine qO F rfl (fun w l => xP F rfl) (fun a F => ?_)
    refine xE H 3 rfl (by kernel_rfl) ?_
    refine oRM (sz := 1) (R := RVal) (z := .slice none 0 0) (bytes := 24) underlying255 (by kernel_rfl) rfl (by decide) (by decide) (fun w => ⟨rfl, rfl, rfl⟩) F rfl rfl rfl hn0 H (fun a w vd H F => ?_)
    refine xF ?_
    refine xG ?_
    refine ⟨⟨_, H⟩, ?_⟩
    refine xE H 4 rfl (by kernel_rfl) ?_
    refine o_buildG (cs := #[.int .i64 x0.size, v1, .int .i64 x1, vd]) (qs := [(0, [.int .i64 x0.size, v1]), (2, [.int .i64 x1]), (3, [vd])]) underlying257 zeroValue257 (fun w => by simp [sizeOf2, sizeOf33, sizeOf255]; rfl) F rfl rfl rfl rfl rfl ⟨rfl, rfl, Nat.le_of_ble_eq_true rfl, ⟨rfl, rfl, Nat.le_of_ble_eq_true rfl, ⟨(one_cells (H.l 0 rfl).one), rfl, Nat.le_of_ble_eq_true rfl, trivial⟩⟩⟩ rfl (fun a F => ?_)
    refine xF ?_
    refine xG ?_
    refine ⟨⟨_, H⟩, ?_⟩
    refine xE H 5 rfl (by kernel_rfl) ?_
    refine oX F rfl rfl (cs := [.int .i64 x0.size, v1, .int .i64 x1, vd]) rfl H (fun a w b7 H F => ?_)
    refine xF ?_
    refine xG ?_
    refine ⟨⟨_, H⟩, ?_⟩
    refine xE H 6 rfl (by kernel_rfl) ?_
    refine xA F rfl rfl (fun a F => ?_)
    refine xF ?_
    refine xG ?_
    refine ⟨⟨_, H⟩, ?_⟩
    refine b_end (by kernel_rfl) ?_
    exact ⟨b7, vd, F.sub (sc rfl (sc rfl sn)), (th.1 H (Ns.all ⟨Go.Proofs.YtmgdjaiaekhkgaaGreat.n0, Go.Proofs.YtmgdjaiaekhkgaaGreat.n0, trivial⟩)).s [2, 1] rfl rfl⟩
  · intro a w ⟨b7, vd, F, H⟩
    refine xG ?_
    have H : Sep [] B w0 w (rl 1 RVal 93 vd (List.replicate n0 (.slice none 0 0)) :: bx b7 [.int .i64 x0.size, v1, .int .i64 x1, vd] 257 :: zipA B 2 xU 158 (List.replicate n0 (.slice none 0 0)) (List.replicate n0 [])) := (H.nils 2 xU 158 n0).comm
    refine xC ?_
    refine xC ?_
    refine xH ?_
    refine xB F rfl rfl (fun a F => ?_)
    refine oL underlying93 F rfl rfl A2 (fun a i13 F => ?_)
    refine xB F rfl rfl (fun a F => ?_)
    refine xF ?_
    refine xG ?_
    obtain ⟨o31, hR, hk32⟩ := xS hR
    refine oQ (fun a w => ∃ (s : List (List Atom)) (us : List Value), o31 = .nx s ∧ us.length = s.length ∧ Sk a 44 [(7, .pointer (some ⟨b7, 0, none⟩))] ∧ Sep [] B w0 w (rl 1 RVal 93 vd us :: bx b7 [.int .i64 x0.size, v1, .int .i64 x1, vd] 257 :: zipA B 2 xU 158 us s)) ?_ ?_
    · refine oU ?_
      obtain ⟨fl35, hf36, hR⟩ := qP hR
      refine qU (fun g a w => ∃ (k43 : Nat) (rest44 : List Atom) (s : List (List Atom)) (us : List Value), (k43 ≤ x2.length ∧ x2.drop k43 = rest44) ∧ rest44.length = g ∧ qT fl35 rest44 k43 s = some o31 ∧ us.length = s.length ∧ Sk a 44 [(19, .int .i64 (k43 : Int)), (7, .pointer (some ⟨b7, 0, none⟩)), (17, v2), (18, .int .i64 (x2.length : Int))] ∧ Sep [] B w0 w (rl 1 RVal 93 vd us :: bx b7 [.int .i64 x0.size, v1, .int .i64 x1, vd] 257 :: zipA B 2 xU 158 us s)) x2.length ?_ ?_
      · exact ⟨0, x2, _, _, ⟨Nat.zero_le _, rfl⟩, rfl, hR, by simp, F.sub (sc rfl (sc rfl (sc rfl (sc rfl sn)))), H⟩
      intro g46 a w ⟨k43, rest44, s, us, hd47, hg48, hR, hus, F, H⟩
      cases rest44 with
      | nil =>
        replace hR := qS hR
        have hkk43 := qR hd47.1 hd47.2
        have hlk43 := vW hkk43
        refine xC ?_
        refine xH ?_
        refine oR F rfl rfl rfl (fun a F => ?_)
        refine xF ?_
        refine xG ?_
        refine xC ?_
        refine vV F rfl hlk43 ?_
        refine qK ?_
        refine qQ ?_
        refine qQ ?_
        refine zT ?_
        refine xG ?_
        exact ⟨s, us, (Option.some.inj hR).symm, hus, F.sub (sc rfl sn), H⟩
      | cons x45 rest44 =>
        subst hg48
        replace hd47 := qD hd47.2
        have hxk43 := qG hd47.2.1
        obtain ⟨ck43, hR, hn34⟩ := qC hR
        rw [hf36] at hR
        have hlk43 := vA hd47.1
        refine xC ?_
        refine xH ?_
        refine oR F rfl rfl rfl (fun a F => ?_)
        refine xF ?_
        refine xG ?_
        refine xC ?_
        refine vZ F rfl hlk43 ?_
        refine xO ?_
        refine xG ?_
        refine xC ?_
        have ikk43 := k64 (Nat.le_of_lt hd47.1) i13
        have ink43 := zW hd47.1 i13
        refine oU ?_
        refine xC ?_
        refine xH ?_
        refine oI underlying93 sizeOf158 F rfl rfl rfl A2 hxk43 (fun a p49 h50 F => ?_)
        refine olA isAgg158 sizeOf158 F rfl rfl H.sm h50 (fun a va ha F => ?_)
        obtain ⟨va1, rfl, ia, hargs⟩ := xU.o ha
        refine oA zeroValue158 F rfl rfl H (fun a w b9 H F => ?_)
        refine oWA (vs := [.int .i64 x45.rel, va1]) sizeOf158 F rfl rfl rfl H (oc rfl (oc hargs.one on)) rfl rfl (fun w H => ?_)
        refine xF ?_
        refine xG ?_
        refine xC ?_
        refine xH ?_
        refine oM fa158_1 F rfl rfl rfl (fun a F => ?_)
        refine oB isAgg42 F rfl rfl (H.b 0 rfl) rfl (fun a F => ?_)
        obtain ⟨m, cm, hR⟩ := xI hR
        refine oKI F rfl call219 rfl H (slices_Max_s_int64_int64_c m cm _ aA (H.a hargs)) (fun a w H im F => ?_)
        refine xA F rfl rfl (fun a F => ?_)
        refine xF ?_
        refine xG ?_
        obtain ⟨y, cy, hR⟩ := xI hR
        obtain ⟨u', cu, hR⟩ := xI hR
        obtain ⟨hm0, hy⟩ := ix_some cy
        have hml : m.toNat < us.length := by rw [hus]; exact (List.getElem?_eq_some_iff.1 hy).1
        obtain ⟨u, hu⟩ : ∃ u, us[m.toNat]? = some u := ⟨_, List.getElem?_eq_getElem hml⟩
        have hix : ix us m = some u := by unfold ix; rw [if_pos hm0]; exact hu
        obtain ⟨e1, e2⟩ := zipA_split (M := B) (sz := 2) (R := xU) (E2 := 158) hu hy
        have SB := H.sm
        obtain ⟨w1, rfl⟩ : ∃ x, x = w := ⟨_, rfl⟩
        obtain ⟨X1, N1, g1, ee, H, th⟩ := H.mg.mg.fz
        have K9 := g1.l.l.bk
        have hvd := g1.l.r.ld
        have K7 := g1.r.bk
        rw [e1] at H
        have H := H.comm
        refine oQ (fun a w => Sk a 44 [(19, .int .i64 (k43 : Int)), (7, .pointer (some ⟨b7, 0, none⟩)), (17, v2), (18, .int .i64 (x2.length : Int))] ∧ ∃ us', us'.length = (s.set m.toNat u').length ∧ Sep [] B w0 w (rl 1 RVal 93 vd us' :: bx b7 [.int .i64 x0.size, v1, .int .i64 x1, vd] 257 :: zipA B 2 xU 158 us' (s.set m.toNat u'))) ?_ ?_
        · refine xD H (by kernel_rfl) (fun w H => ?_)
          refine zZ 0 rfl (by kernel_rfl) (by kernel_rfl) (by kernel_rfl) ?_
          refine qO F rfl (fun w l => xP F rfl) (fun a F => ?_)
          refine b_q 1 (by kernel_rfl) rfl (by kernel_rfl) (by kernel_rfl) (by kernel_rfl) (by kernel_rfl) ?_
          refine qO F rfl (fun w l => r_nilCheck F rfl) (fun a F => ?_)
          refine b_q 2 (by kernel_rfl) rfl (by kernel_rfl) (by kernel_rfl) (by kernel_rfl) (by kernel_rfl) ?_
          refine qO F rfl (fun w l => zJ fa257_2 F rfl rfl) (fun a F => ?_)
          refine b_q 3 (by kernel_rfl) rfl (by kernel_rfl) (by kernel_rfl) (by kernel_rfl) (by kernel_rfl) ?_
          refine vB isAgg255 F rfl rfl (K7.v H.sm) rfl (fun a F => ?_)
          refine zZ 4 rfl (by kernel_rfl) (by kernel_rfl) (by kernel_rfl) ?_
          refine qO F rfl (fun w l => xP F rfl) (fun a F => ?_)
          refine zZ 5 rfl (by kernel_rfl) (by kernel_rfl) (by kernel_rfl) ?_
          refine qO F rfl (fun w l => xP F rfl) (fun a F => ?_)
          refine b_q 6 (by kernel_rfl) rfl (by kernel_rfl) (by kernel_rfl) (by kernel_rfl) (by kernel_rfl) ?_
          refine qO F rfl (fun w l => r_nilCheck F rfl) (fun a F => ?_)
          refine b_q 7 (by kernel_rfl) rfl (by kernel_rfl) (by kernel_rfl) (by kernel_rfl) (by kernel_rfl) ?_
          refine qO F rfl (fun w l => zJ fa257_2 F rfl rfl) (fun a F => ?_)
          refine b_q 8 (by kernel_rfl) rfl (by kernel_rfl) (by kernel_rfl) (by kernel_rfl) (by kernel_rfl) ?_
          refine vB isAgg255 F rfl rfl (K7.v H.sm) rfl (fun a F => ?_)
          refine zZ 9 rfl (by kernel_rfl) (by kernel_rfl) (by kernel_rfl) ?_
          refine qO F rfl (fun w l => xP F rfl) (fun a F => ?_)
          refine b_q 10 (by kernel_rfl) rfl (by kernel_rfl) (by kernel_rfl) (by kernel_rfl) (by kernel_rfl) ?_
          refine vI underlying255 sizeOf93 F rfl rfl rfl hvd hix (fun a p hp F => ?_)
          refine b_q 11 (by kernel_rfl) rfl (by kernel_rfl) (by kernel_rfl) (by kernel_rfl) (by kernel_rfl) ?_
          refine qO F rfl (fun w' l => b_cell isAgg93 F rfl hp w' (H.sm.trans l)) (fun a F => ?_)
          refine b_q 12 (by kernel_rfl) rfl (by kernel_rfl) (by kernel_rfl) (by kernel_rfl) (by kernel_rfl) ?_
          refine vBA isAgg158 sizeOf158 F rfl rfl (K9.v H.sm) rfl rfl (fun a F => ?_)
          refine xE H 13 rfl (by kernel_rfl) ?_
          refine oR1 (R := xU) (y := x45) (N1 := B) underlying93 sizeOf158 zeroValue158 rfl rfl F rfl rfl H th.2.2 (Eo.agg (xU.m ia (hargs.to (SB.trans (H.sm.mono th.2.2))))) (fun a w v' H F => ?_)
          refine xF ?_
          refine xG ?_
          refine ⟨⟨_, H⟩, ?_⟩
          refine xE H 14 rfl (by kernel_rfl) ?_
          refine oP (sz := 2) (R := xU) (z := (.agg #[.int .i64 0, .slice none 0 0])) (bytes := 32) underlying93 (by kernel_rfl) rfl rfl F rfl rfl rfl H.sw cu (fun a w v'' H F => ?_)
          refine xF ?_
          refine xG ?_
          refine ⟨⟨_, H⟩, ?_⟩
          refine xE H 15 rfl (by kernel_rfl) ?_
          obtain ⟨Y, ⟨Ya, Yb, ⟨Yc, Yd, _, ⟨rb, ib, r1, _, r2, r3⟩, _, y1, y2⟩, _, _, y3, _⟩, hY, _⟩ := g1
          have r1' := r1.keep (fun c hc => H.sm.blk c (hY c (y3 c (y2 c (r2 c hc))))) (fun c hc => H.sm.blk c (hY c (y3 c (y2 c (r3 c hc))))) H.fr.size
          refine o_rindex underlying255 sizeOf93 F rfl rfl rfl r1' hix (fun a p2 bi _ _ hp2 F => ?_)
          refine xF ?_
          refine xG ?_
          refine ⟨⟨_, H⟩, ?_⟩
          refine b_e 16 rfl (by kernel_rfl) ?_
          have hone := (H.r 0 rfl).one
          have hev := Eo.val (H.r 0 rfl)
          have H := th.1 H (fun A hA c hc => by
            rcases List.mem_cons.1 hA with rfl | hA
            · exact hc
            · rcases List.mem_append.1 hA with hA | hA
              · exact zipA_N A hA c hc
              · exact zipA_N A hA c hc)
          have H := H.um.um.sw.lw
          refine oS (N1 := N0) sizeOf93 F rfl rfl rfl H hp2 hml hev hone rfl (fun w H => ?_)
          refine xF ?_
          refine xG ?_
          refine ⟨.inr (by kernel_rfl), ?_⟩
          refine b_end (by kernel_rfl) ?_
          have H := H.tl.sw.dp
          refine ⟨F.sub (sc rfl (sc rfl (sc rfl (sc rfl sn)))), us.set m.toNat v'', by simp [hus], ?_⟩
          rw [e2]
          exact Sep.back (D := [_, _]) H
        · intro a w ⟨F, us', hus', H⟩
          refine zN ?_
          refine xG ?_
          refine xH ?_
          refine vM F rfl rfl rfl ink43 (fun a F => ?_)
          refine xB F rfl rfl (fun a F => ?_)
          refine xF ?_
          refine xG ?_
          replace hR := zH hR hn34
          exact ⟨_, Nat.lt_succ_self _, k43 + 1, rest44, _, us', ⟨hd47.1, hd47.2.2⟩, rfl, hR, hus', F.sub (sc rfl (sc rfl (sc rfl (sc rfl sn)))), H⟩
    · intro a w ⟨s, us, ho33, hus, F, H⟩
      subst ho33
      have hR := xZ hk32
      refine xG ?_
      refine xC ?_
      refine xH ?_
      refine xB F rfl rfl (fun a F => ?_)
      refine xA F rfl rfl (fun a F => ?_)
      refine xF ?_
      refine xG ?_
      refine xW ?_
      refine xR F rfl (oO F rfl) ?_
      obtain rfl := Option.some.inj hR
      have H := Sep.zrow (D := [_]) hus (fun _ h => h) (H.sw.comm (L1 := [_]))
      obtain ⟨X1, N1, g1, ee, H, th⟩ := H.mg.fz
      have H := H.rob (vL.b g1.r.bk is (ee hr) hx1 g1.l.rd)
      exact ⟨_, rfl, _, rfl, th.2.1 H (Ns.all trivial)⟩
end Go.Proofs.YtmgdjaiaekhkgaaGreat
