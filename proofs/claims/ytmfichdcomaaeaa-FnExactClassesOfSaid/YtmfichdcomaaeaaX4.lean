/-
  Functions of the program as plain functions, and that they compute them. Printed by fxgen.py.
-/
import Derived.Test.YtmfichdcomaaeaaN1
namespace Go.Proofs.Ytmfichdcomaaeaa
set_option linter.unusedVariables false
set_option linter.unusedSimpArgs false
set_option maxRecDepth 100000
open Go.RowKit
def impl_IsOfClass (N : Nat) (x0 : Template) (x1 : Int) : Option (Bool × Int) :=
  bnd (impl_classFault (Template.mk x0.size x0.rels) x1) fun z21 =>
  if (z21 != 0) then
    some (false, z21)
  else
    bnd (impl_classOp x1) fun z25 =>
    bnd (impl_isKept N (Template.mk x0.size x0.rels) z25) fun z31 =>
    some (z31, 0)
set_option maxHeartbeats 1000000 in
theorem impl_IsOfClass_c {N : Nat} {x0 : Template} {x1 : Int} (r : Bool × Int) (hR : impl_IsOfClass N x0 x1 = some r) {v0 : Value} {b0 : List Nat} (w0 : World) (A0 : Rd (Agg 2 RTemplate) w0 v0 x0 b0) (hx1 : I64 x1) : Calls Try.prog 53 #[v0, .int .i64 x1] w0 (Gives (fun v w' => v = .tuple #[.bool r.1, .int .i64 r.2] ∧ I64 r.2) w0) := by
  unfold impl_IsOfClass at hR
  refine x_enter (L := [(0, v0), (1, .int .i64 x1)]) Try.func53 rfl rfl rfl (sc rfl (sc rfl sn)) (fun a F => ?_)
  have hB := Below.refl w0.heap.size w0
  refine x_seq ?_
  refine x_reg ?_
  obtain ⟨v15, b16, e18, i14, h17, eb13⟩ := RTemplate.rd (A0.go hB)
  subst e18
  refine o_box F rfl rfl rfl (fun a w b11 K12 l BK12 F => ?_)
  have d19 := (dj1 h17.m BK12).symm
  have CK12 := Nat.le_trans hB.size BK12
  replace hB := Below.through l hB
  replace h17 := h17.go l
  refine o_assign F rfl rfl (fun a F => ?_)
  refine o_assign F rfl rfl (fun a F => ?_)
  refine x_end ?_
  refine x_tn ?_
  refine x_seq ?_
  refine x_seq ?_
  refine x_reg ?_
  refine o_bloadA (cs := [.int .i64 x0.size, v15]) Try.isAgg87 Try.sizeOf87 F rfl rfl K12 rfl (fun j hj => by match j, hj with | 0, _ => rfl | 1, _ => rfl) (fun a F => ?_)
  have h20 := RTemplate.mk2 (w := w) i14 h17
  refine o_move F rfl rfl (fun a F => ?_)
  obtain ⟨z21, c22, hR⟩ := bnd_some hR
  refine o_saysI F rfl Try.call114 rfl (impl_classFault_c z21 c22 _ h20 hx1) (fun a w l iz21 F => ?_)
  replace hB := Below.through l hB
  replace h17 := h17.go l
  replace K12 := K12.thru l
  refine o_assign F rfl rfl (fun a F => ?_)
  refine x_end ?_
  refine x_tn ?_
  refine x_seq ?_
  refine x_reg ?_
  refine o_move F rfl rfl (fun a F => ?_)
  refine o_neq F rfl rfl rfl (fun a F => ?_)
  refine x_end ?_
  refine x_tn ?_
  refine x_if F rfl (fun hb23 => ?_) (fun hb23 => ?_)
  · replace hR := ifT hb23 hR
    refine x_seq ?_
    refine x_reg ?_
    refine o_move F rfl rfl (fun a F => ?_)
    refine o_assign F rfl rfl (fun a F => ?_)
    refine o_assign F rfl rfl (fun a F => ?_)
    refine x_end ?_
    refine x_tn ?_
    refine x_ret ?_
    refine x_tr ?_
    refine x_res2 F rfl (rv_t F rfl) (rv_t F rfl) ?_
    obtain rfl := Option.some.inj hR
    exact ⟨_, rfl, hB, rfl, iz21⟩
  · replace hR := ifF hb23 hR
    refine x_skip ?_
    refine x_tn ?_
    refine x_seq ?_
    refine x_drawn (by kernel_rfl) (fun w l => ?_)
    replace hB := Below.through l hB
    replace h17 := h17.go l
    replace K12 := K12.thru l
    refine b_q 0 rfl (by kernel_rfl) (by kernel_rfl) (by kernel_rfl) (by kernel_rfl) ?_
    refine v_val F rfl (fun w l => r_bloadA (cs := [.int .i64 x0.size, v15]) Try.isAgg87 Try.sizeOf87 F rfl (K12.thru l) rfl (fun j hj => by match j, hj with | 0, _ => rfl | 1, _ => rfl)) (fun a F => ?_)
    have h24 := RTemplate.mk2 (w := w) i14 h17
    refine b_q 1 rfl (by kernel_rfl) (by kernel_rfl) (by kernel_rfl) (by kernel_rfl) ?_
    refine v_val F rfl (fun w l => r_move F rfl) (fun a F => ?_)
    refine b_e 2 rfl (by kernel_rfl) ?_
    obtain ⟨z25, c26, hR⟩ := bnd_some hR
    refine o_gives F rfl Try.call71 rfl (impl_classOp_c z25 c26 _ hx1) (fun a vv w l ⟨v27, b28, hv30, h29⟩ F => ?_)
    subst vv
    replace hB := Below.through l hB
    replace h17 := h17.go l
    replace h24 := h24.go l
    refine x_end ?_
    refine x_tn ?_
    refine ⟨.inl l, ?_⟩
    refine b_e 3 rfl (by kernel_rfl) ?_
    obtain ⟨z31, c32, hR⟩ := bnd_some hR
    refine o_says F rfl Try.call115 rfl (impl_isKept_c z31 c32 _ h24 h29) (fun a w l F => ?_)
    replace hB := Below.through l hB
    refine x_end ?_
    refine x_tn ?_
    refine ⟨.inl l, ?_⟩
    refine b_q 4 rfl (by kernel_rfl) (by kernel_rfl) (by kernel_rfl) (by kernel_rfl) ?_
    refine v_val F rfl (fun w l => r_assign F rfl) (fun a F => ?_)
    refine b_q 5 rfl (by kernel_rfl) (by kernel_rfl) (by kernel_rfl) (by kernel_rfl) ?_
    refine v_val F rfl (fun w l => r_assign F rfl) (fun a F => ?_)
    refine b_end (by kernel_rfl) ?_
    refine x_tn ?_
    refine x_ret ?_
    refine x_res2 F rfl (rv_t F rfl) (rv_t F rfl) ?_
    obtain rfl := Option.some.inj hR
    exact ⟨_, rfl, hB, rfl, (show I64 (0) by decide)⟩

def spec_ClassesOf (N : Nat) (x0 : Template) : Option ((List Int) × Int) :=
  bnd (spec_l09Two (Template.mk x0.size x0.rels) 1) fun z20 =>
  if (z20 != 0) then
    some ([], z20)
  else
    thn (σ := (List Int) × Int) (
      whl (σ := (List Int) × Int) (ρ := (List Int) × Int) (fun (s : (List Int) × Int) =>
        match s with
        | (s72, s77) =>
          if (decide (s77 ≤ 6)) then
            bnd (spec_l09Is N (Template.mk x0.size x0.rels) s77) fun z95 =>
            if z95 then
              bnd (ap s72 ([s77])) fun z106 =>
              bnd (ck (s77 + 1)) fun z114 =>
              some (.go (z106, z114))
            else
              bnd (ck (s77 + 1)) fun z116 =>
              some (.go (s72, z116))
          else
            some (.brk (s72, s77))) N ([], 1)) fun (s81, s86) =>
    some (s81, 0)
set_option maxHeartbeats 1000000 in
theorem spec_ClassesOf_c {N : Nat} {x0 : Template} (r : (List Int) × Int) (hR : spec_ClassesOf N x0 = some r) {v0 : Value} {b0 : List Nat} (w0 : World) (A0 : Rd (Agg 2 RTemplate) w0 v0 x0 b0) : Calls Try.prog 54 #[v0] w0 (Gives (fun v w' => ∃ (v1' : Value) (rb2' : List Nat), v = .tuple #[v1', .int .i64 r.2] ∧ Row 1 RInt 2 w0.heap.size w' v1' r.1 rb2' [] ∧ I64 r.2) w0) := by
  unfold spec_ClassesOf at hR
  refine x_enter (L := [(0, v0)]) Try.func54 rfl rfl rfl (sc rfl sn) (fun a F => ?_)
  have hB := Below.refl w0.heap.size w0
  refine x_seq ?_
  refine x_reg ?_
  obtain ⟨v15, b16, e18, i14, h17, eb13⟩ := RTemplate.rd (A0.go hB)
  subst e18
  refine o_box F rfl rfl rfl (fun a w b11 K12 l BK12 F => ?_)
  have d19 := (dj1 h17.m BK12).symm
  have CK12 := Nat.le_trans hB.size BK12
  replace hB := Below.through l hB
  replace h17 := h17.go l
  refine o_assign F rfl rfl (fun a F => ?_)
  refine o_assign F rfl rfl (fun a F => ?_)
  refine x_end ?_
  refine x_tn ?_
  refine x_seq ?_
  refine x_seq ?_
  refine x_reg ?_
  obtain ⟨z20, c21, hR⟩ := bnd_some hR
  refine o_saysI F rfl Try.call112 rfl (spec_l09Two_c z20 c21 _ (RTemplate.blk K12 i14 h17) (show I64 (1) by decide)) (fun a w l iz20 F => ?_)
  replace hB := Below.through l hB
  replace h17 := h17.go l
  replace K12 := K12.thru l
  refine o_assign F rfl rfl (fun a F => ?_)
  refine x_end ?_
  refine x_tn ?_
  refine x_seq ?_
  refine x_reg ?_
  refine o_move F rfl rfl (fun a F => ?_)
  refine o_neq F rfl rfl rfl (fun a F => ?_)
  refine x_end ?_
  refine x_tn ?_
  refine x_if F rfl (fun hb22 => ?_) (fun hb22 => ?_)
  · replace hR := ifT hb22 hR
    refine x_seq ?_
    refine x_reg ?_
    refine o_lit0 (R := RInt) Try.underlying34 Try.sizeOf2 F rfl (fun a w v23 rb24 h25 l F => ?_)
    replace h25 := h25.base hB.size
    replace hB := Below.through l hB
    refine o_move F rfl rfl (fun a F => ?_)
    refine o_assign F rfl rfl (fun a F => ?_)
    refine o_assign F rfl rfl (fun a F => ?_)
    refine x_end ?_
    refine x_tn ?_
    refine x_ret ?_
    refine x_tr ?_
    refine x_res2 F rfl (rv_t F rfl) (rv_t F rfl) ?_
    obtain rfl := Option.some.inj hR
    exact ⟨_, rfl, hB, v23, rb24, rfl, h25, iz20⟩
  · replace hR := ifF hb22 hR
    refine x_skip ?_
    refine x_tn ?_
    refine x_seq ?_
    refine x_reg ?_
    refine o_lit0 (R := RInt) Try.underlying34 Try.sizeOf2 F rfl (fun a w v27 rb28 h29 l F => ?_)
    have d31 := Dj.new h17.m h29.ownR (Nat.le_refl _)
    have d32 := Dj.new (inm1 K12) h29.ownR (Nat.le_refl _)
    replace h29 := h29.base hB.size
    replace hB := Below.through l hB
    replace h17 := h17.go l
    replace K12 := K12.thru l
    refine o_assign F rfl rfl (fun a F => ?_)
    refine x_end ?_
    refine x_tn ?_
    refine x_seq ?_
    refine x_seq ?_
    refine x_reg ?_
    refine o_assign F rfl rfl (fun a F => ?_)
    refine x_end ?_
    refine x_tn ?_
    obtain ⟨o66, hR, hk67⟩ := thn_some hR
    refine x_cutQ (fun a w => ∃ (s81 : List Int) (v83 : Value) (rb84 : List Nat) (s86 : Int), o66 = .nx (s81, s86) ∧ Sk a 24 [(5, v83)] ∧ Below w0.heap.size w0 w ∧ Row 1 RInt 2 w0.heap.size w v83 s81 rb84 ([]) ∧ I64 s86) ?_ ?_
    · refine x_blk ?_
      obtain ⟨fl70, hf71, hR⟩ := whl_gen hR
      refine x_loop (fun g a w => ∃ (s72 : List Int) (v74 : Value) (rb75 : List Nat) (s77 : Int), whl fl70 g (s72, s77) = some o66 ∧ Sk a 24 [(1, .pointer (some ⟨b11, 0, none⟩)), (5, v74), (6, .int .i64 s77)] ∧ Below w0.heap.size w0 w ∧ Row 1 RInt 2 w0.heap.size w v74 s72 rb75 ([]) ∧ I64 s77 ∧ Rd (Sl 2 RRel) w v15 x0.rels b16 ∧ Blk w b11 #[.int .i64 x0.size, v15] 87 ∧ Dj b16 rb75 ∧ Dj (rb75 ++ []) [b11]) N ?_ ?_
      · exact ⟨[], v27, rb28, 1, hR, F.sub (sc rfl (sc rfl (sc rfl sn))), hB, h29, (show I64 (1) by decide), h17, K12, d31, (Dj.app' (Dj.symm d32) (Dj.nil' _))⟩
      · intro g91 a w ⟨s72, v74, rb75, s77, hR, F, hB, h76, i78, h17, K12, d79, d80⟩
        obtain ⟨ck88, rest89, hg93, hR, hn69⟩ := whl_round hR
        rw [hf71] at hR
        refine x_seq ?_
        refine x_seq ?_
        refine x_reg ?_
        refine o_move F rfl rfl (fun a F => ?_)
        refine o_leq F rfl rfl rfl (fun a F => ?_)
        refine x_end ?_
        refine x_tn ?_
        refine x_if F rfl (fun hb94 => ?_) (fun hb94 => ?_)
        · replace hR := ifT hb94 hR
          refine x_skip ?_
          refine x_tn ?_
          refine x_seq ?_
          refine x_blk ?_
          refine x_seq ?_
          refine x_reg ?_
          refine o_move F rfl rfl (fun a F => ?_)
          obtain ⟨z95, c96, hR⟩ := bnd_some hR
          refine o_says F rfl Try.call113 rfl (spec_l09Is_c z95 c96 _ (RTemplate.blk K12 i14 h17) i78) (fun a w l F => ?_)
          replace hB := Below.through l hB
          replace h17 := h17.go l
          replace h76 := h76.go l
          replace K12 := K12.thru l
          refine x_end ?_
          refine x_tn ?_
          refine x_if F rfl (fun hb97 => ?_) (fun hb97 => ?_)
          · replace hR := ifT hb97 hR
            refine x_reg ?_
            refine o_move F rfl rfl (fun a F => ?_)
            refine o_move F rfl rfl (fun a F => ?_)
            refine o_lit1 (R := RInt) (y := s77) Try.underlying34 Try.sizeOf2 Try.zeroValue2 rfl (by decide) (by decide) F rfl rfl (El.int i78) (fun a w v98 rb99 h100 l F => ?_)
            have d102 := Dj.new h17.m h100.ownR (Nat.le_refl _)
            have d103 := Dj.new h76.rd.m h100.ownR (Nat.le_refl _)
            have d104 := Dj.new (inm1 K12) h100.ownR (Nat.le_refl _)
            have d105 := Dj.app' (Dj.new h76.memR h100.ownR (Nat.le_refl _)).symm (Dj.nil' _)
            replace h100 := h100.base hB.size
            replace hB := Below.through l hB
            replace h17 := h17.go l
            replace h76 := h76.go l
            replace K12 := K12.thru l
            obtain ⟨z106, c107, hR⟩ := bnd_some hR
            refine o_append (sz := 1) (R := RInt) (z := (.int .i64 0)) (bytes := 8) Try.underlying34 (by kernel_rfl) rfl (by decide) (by decide) (by decide) F rfl rfl rfl h76 h100.src hB.size (Dj.nil _) c107 (fun a w v108 rb109 h110 l keep F => ?_)
            replace h110 := row_nil2 h110
            have d112 := keep _ h17.m d79
            have d113 := keep _ (inm1 K12) (Dj.symm (Dj.l d80))
            replace hB := hB.o l h76.lo hB.size
            replace h17 := h17.goO l d79
            replace K12 := K12.only l (Dj.symm (Dj.l d80)).not
            refine o_assign F rfl rfl (fun a F => ?_)
            refine x_end ?_
            refine x_bn ?_
            refine x_tn ?_
            refine x_reg ?_
            refine o_move F rfl rfl (fun a F => ?_)
            obtain ⟨z114, c115, hR⟩ := bnd_some hR
            refine o_add F rfl rfl rfl c115 (fun a F => ?_)
            refine o_assign F rfl rfl (fun a F => ?_)
            refine x_end ?_
            refine x_tn ?_
            replace hR := l_go hR hn69
            exact ⟨rest89, (by omega), z106, v108, rb109, z114, hR, F.sub (sc rfl (sc rfl (sc rfl sn))), hB, h110, (ck64 c115), h17, K12, d112, (Dj.app' (Dj.symm d113) (Dj.nil' _))⟩
          · replace hR := ifF hb97 hR
            refine x_skip ?_
            refine x_bn ?_
            refine x_tn ?_
            refine x_reg ?_
            refine o_move F rfl rfl (fun a F => ?_)
            obtain ⟨z116, c117, hR⟩ := bnd_some hR
            refine o_add F rfl rfl rfl c117 (fun a F => ?_)
            refine o_assign F rfl rfl (fun a F => ?_)
            refine x_end ?_
            refine x_tn ?_
            replace hR := l_go hR hn69
            exact ⟨rest89, (by omega), s72, v74, rb75, z116, hR, F.sub (sc rfl (sc rfl (sc rfl sn))), hB, h76, (ck64 c117), h17, K12, d79, d80⟩
        · replace hR := ifF hb94 hR
          refine x_exit ?_
          refine x_te ?_
          refine x_te ?_
          replace hR := l_brk hR hn69
          refine x_be ?_
          refine x_tn ?_
          exact ⟨s72, v74, rb75, s77, (Option.some.inj hR).symm, F.sub (sc rfl sn), hB, h76, i78⟩
    · intro a w ⟨s81, v83, rb84, s86, ho68, F, hB, h85, i87⟩
      subst ho68
      have hR := then_nx hk67
      refine x_tn ?_
      refine x_seq ?_
      refine x_reg ?_
      refine o_move F rfl rfl (fun a F => ?_)
      refine o_assign F rfl rfl (fun a F => ?_)
      refine o_assign F rfl rfl (fun a F => ?_)
      refine x_end ?_
      refine x_tn ?_
      refine x_ret ?_
      refine x_res2 F rfl (rv_t F rfl) (rv_t F rfl) ?_
      obtain rfl := Option.some.inj hR
      exact ⟨_, rfl, hB, v83, rb84, rfl, h85, (show I64 (0) by decide)⟩

def impl_ClassesOf (N : Nat) (x0 : Template) : Option ((List Int) × Int) :=
  bnd (impl_classFault (Template.mk x0.size x0.rels) 1) fun z21 =>
  if (z21 != 0) then
    some ([], z21)
  else
    thn (σ := (List Int) × Int) (
      whl (σ := (List Int) × Int) (ρ := (List Int) × Int) (fun (s : (List Int) × Int) =>
        match s with
        | (s78, s83) =>
          bnd (impl_isClass s83) fun z100 =>
          if z100 then
            bnd (impl_classOp s83) fun z104 =>
            bnd (impl_isKept N (Template.mk x0.size x0.rels) z104) fun z110 =>
            if z110 then
              bnd (ap s78 ([s83])) fun z121 =>
              bnd (ck (s83 + 1)) fun z129 =>
              some (.go (z121, z129))
            else
              bnd (ck (s83 + 1)) fun z131 =>
              some (.go (s78, z131))
          else
            some (.brk (s78, s83))) N ([], 1)) fun (s87, s92) =>
    some (s87, 0)
set_option maxHeartbeats 1000000 in
theorem impl_ClassesOf_c {N : Nat} {x0 : Template} (r : (List Int) × Int) (hR : impl_ClassesOf N x0 = some r) {v0 : Value} {b0 : List Nat} (w0 : World) (A0 : Rd (Agg 2 RTemplate) w0 v0 x0 b0) : Calls Try.prog 55 #[v0] w0 (Gives (fun v w' => ∃ (v1' : Value) (rb2' : List Nat), v = .tuple #[v1', .int .i64 r.2] ∧ Row 1 RInt 2 w0.heap.size w' v1' r.1 rb2' [] ∧ I64 r.2) w0) := by
  unfold impl_ClassesOf at hR
  refine x_enter (L := [(0, v0)]) Try.func55 rfl rfl rfl (sc rfl sn) (fun a F => ?_)
  have hB := Below.refl w0.heap.size w0
  refine x_seq ?_
  refine x_reg ?_
  obtain ⟨v15, b16, e18, i14, h17, eb13⟩ := RTemplate.rd (A0.go hB)
  subst e18
  refine o_box F rfl rfl rfl (fun a w b11 K12 l BK12 F => ?_)
  have d19 := (dj1 h17.m BK12).symm
  have CK12 := Nat.le_trans hB.size BK12
  replace hB := Below.through l hB
  replace h17 := h17.go l
  refine o_assign F rfl rfl (fun a F => ?_)
  refine o_assign F rfl rfl (fun a F => ?_)
  refine x_end ?_
  refine x_tn ?_
  refine x_seq ?_
  refine x_seq ?_
  refine x_reg ?_
  refine o_bloadA (cs := [.int .i64 x0.size, v15]) Try.isAgg87 Try.sizeOf87 F rfl rfl K12 rfl (fun j hj => by match j, hj with | 0, _ => rfl | 1, _ => rfl) (fun a F => ?_)
  have h20 := RTemplate.mk2 (w := w) i14 h17
  obtain ⟨z21, c22, hR⟩ := bnd_some hR
  refine o_saysI F rfl Try.call114 rfl (impl_classFault_c z21 c22 _ h20 (show I64 (1) by decide)) (fun a w l iz21 F => ?_)
  replace hB := Below.through l hB
  replace h17 := h17.go l
  replace K12 := K12.thru l
  refine o_assign F rfl rfl (fun a F => ?_)
  refine x_end ?_
  refine x_tn ?_
  refine x_seq ?_
  refine x_reg ?_
  refine o_move F rfl rfl (fun a F => ?_)
  refine o_neq F rfl rfl rfl (fun a F => ?_)
  refine x_end ?_
  refine x_tn ?_
  refine x_if F rfl (fun hb23 => ?_) (fun hb23 => ?_)
  · replace hR := ifT hb23 hR
    refine x_seq ?_
    refine x_reg ?_
    refine o_move F rfl rfl (fun a F => ?_)
    refine o_assign F rfl rfl (fun a F => ?_)
    refine o_assign F rfl rfl (fun a F => ?_)
    refine x_end ?_
    refine x_tn ?_
    refine x_ret ?_
    refine x_tr ?_
    refine x_res2 F rfl (rv_t F rfl) (rv_t F rfl) ?_
    obtain rfl := Option.some.inj hR
    exact ⟨_, rfl, hB, (.slice none 0 0), [], rfl, Row.nil 1 RInt 2 _ _, iz21⟩
  · replace hR := ifF hb23 hR
    refine x_skip ?_
    refine x_tn ?_
    refine x_seq ?_
    refine x_reg ?_
    refine o_lit0 (R := RInt) Try.underlying34 Try.sizeOf2 F rfl (fun a w v24 rb25 h26 l F => ?_)
    have d28 := Dj.new h17.m h26.ownR (Nat.le_refl _)
    have d29 := Dj.new (inm1 K12) h26.ownR (Nat.le_refl _)
    replace h26 := h26.base hB.size
    replace hB := Below.through l hB
    replace h17 := h17.go l
    replace K12 := K12.thru l
    refine o_assign F rfl rfl (fun a F => ?_)
    refine x_end ?_
    refine x_tn ?_
    refine x_seq ?_
    refine x_seq ?_
    refine x_reg ?_
    refine o_assign F rfl rfl (fun a F => ?_)
    refine x_end ?_
    refine x_tn ?_
    obtain ⟨o72, hR, hk73⟩ := thn_some hR
    refine x_cutQ (fun a w => ∃ (s87 : List Int) (v89 : Value) (rb90 : List Nat) (s92 : Int), o72 = .nx (s87, s92) ∧ Sk a 26 [(5, v89)] ∧ Below w0.heap.size w0 w ∧ Row 1 RInt 2 w0.heap.size w v89 s87 rb90 ([]) ∧ I64 s92) ?_ ?_
    · refine x_blk ?_
      obtain ⟨fl76, hf77, hR⟩ := whl_gen hR
      refine x_loop (fun g a w => ∃ (s78 : List Int) (v80 : Value) (rb81 : List Nat) (s83 : Int), whl fl76 g (s78, s83) = some o72 ∧ Sk a 26 [(1, .pointer (some ⟨b11, 0, none⟩)), (5, v80), (6, .int .i64 s83)] ∧ Below w0.heap.size w0 w ∧ Row 1 RInt 2 w0.heap.size w v80 s78 rb81 ([]) ∧ I64 s83 ∧ Rd (Sl 2 RRel) w v15 x0.rels b16 ∧ Blk w b11 #[.int .i64 x0.size, v15] 87 ∧ Dj b16 rb81 ∧ Dj (rb81 ++ []) [b11]) N ?_ ?_
      · exact ⟨[], v24, rb25, 1, hR, F.sub (sc rfl (sc rfl (sc rfl sn))), hB, h26, (show I64 (1) by decide), h17, K12, d28, (Dj.app' (Dj.symm d29) (Dj.nil' _))⟩
      · intro g97 a w ⟨s78, v80, rb81, s83, hR, F, hB, h82, i84, h17, K12, d85, d86⟩
        obtain ⟨ck94, rest95, hg99, hR, hn75⟩ := whl_round hR
        rw [hf77] at hR
        refine x_seq ?_
        refine x_seq ?_
        refine x_reg ?_
        refine o_move F rfl rfl (fun a F => ?_)
        obtain ⟨z100, c101, hR⟩ := bnd_some hR
        refine o_says F rfl Try.call70 rfl (impl_isClass_c z100 c101 _ i84) (fun a w l F => ?_)
        replace hB := Below.through l hB
        replace h17 := h17.go l
        replace h82 := h82.go l
        replace K12 := K12.thru l
        refine x_end ?_
        refine x_tn ?_
        refine x_if F rfl (fun hb102 => ?_) (fun hb102 => ?_)
        · replace hR := ifT hb102 hR
          refine x_skip ?_
          refine x_tn ?_
          refine x_seq ?_
          refine x_blk ?_
          refine x_seq ?_
          refine x_drawn (by kernel_rfl) (fun w l => ?_)
          replace hB := Below.through l hB
          replace h17 := h17.go l
          replace h82 := h82.go l
          replace K12 := K12.thru l
          refine b_q 0 rfl (by kernel_rfl) (by kernel_rfl) (by kernel_rfl) (by kernel_rfl) ?_
          refine v_val F rfl (fun w l => r_bloadA (cs := [.int .i64 x0.size, v15]) Try.isAgg87 Try.sizeOf87 F rfl (K12.thru l) rfl (fun j hj => by match j, hj with | 0, _ => rfl | 1, _ => rfl)) (fun a F => ?_)
          have h103 := RTemplate.mk2 (w := w) i14 h17
          refine b_q 1 rfl (by kernel_rfl) (by kernel_rfl) (by kernel_rfl) (by kernel_rfl) ?_
          refine v_val F rfl (fun w l => r_move F rfl) (fun a F => ?_)
          refine b_e 2 rfl (by kernel_rfl) ?_
          obtain ⟨z104, c105, hR⟩ := bnd_some hR
          refine o_gives F rfl Try.call71 rfl (impl_classOp_c z104 c105 _ i84) (fun a vv w l ⟨v106, b107, hv109, h108⟩ F => ?_)
          subst vv
          replace hB := Below.through l hB
          replace h17 := h17.go l
          replace h82 := h82.go l
          replace h103 := h103.go l
          replace K12 := K12.thru l
          refine x_end ?_
          refine x_tn ?_
          refine ⟨.inl l, ?_⟩
          refine b_e 3 rfl (by kernel_rfl) ?_
          obtain ⟨z110, c111, hR⟩ := bnd_some hR
          refine o_says F rfl Try.call115 rfl (impl_isKept_c z110 c111 _ h103 h108) (fun a w l F => ?_)
          replace hB := Below.through l hB
          replace h17 := h17.go l
          replace h82 := h82.go l
          replace K12 := K12.thru l
          refine x_end ?_
          refine x_tn ?_
          refine ⟨.inl l, ?_⟩
          refine b_end (by kernel_rfl) ?_
          refine x_tn ?_
          refine x_if F rfl (fun hb112 => ?_) (fun hb112 => ?_)
          · replace hR := ifT hb112 hR
            refine x_reg ?_
            refine o_move F rfl rfl (fun a F => ?_)
            refine o_move F rfl rfl (fun a F => ?_)
            refine o_lit1 (R := RInt) (y := s83) Try.underlying34 Try.sizeOf2 Try.zeroValue2 rfl (by decide) (by decide) F rfl rfl (El.int i84) (fun a w v113 rb114 h115 l F => ?_)
            have d117 := Dj.new h17.m h115.ownR (Nat.le_refl _)
            have d118 := Dj.new h82.rd.m h115.ownR (Nat.le_refl _)
            have d119 := Dj.new (inm1 K12) h115.ownR (Nat.le_refl _)
            have d120 := Dj.app' (Dj.new h82.memR h115.ownR (Nat.le_refl _)).symm (Dj.nil' _)
            replace h115 := h115.base hB.size
            replace hB := Below.through l hB
            replace h17 := h17.go l
            replace h82 := h82.go l
            replace K12 := K12.thru l
            obtain ⟨z121, c122, hR⟩ := bnd_some hR
            refine o_append (sz := 1) (R := RInt) (z := (.int .i64 0)) (bytes := 8) Try.underlying34 (by kernel_rfl) rfl (by decide) (by decide) (by decide) F rfl rfl rfl h82 h115.src hB.size (Dj.nil _) c122 (fun a w v123 rb124 h125 l keep F => ?_)
            replace h125 := row_nil2 h125
            have d127 := keep _ h17.m d85
            have d128 := keep _ (inm1 K12) (Dj.symm (Dj.l d86))
            replace hB := hB.o l h82.lo hB.size
            replace h17 := h17.goO l d85
            replace K12 := K12.only l (Dj.symm (Dj.l d86)).not
            refine o_assign F rfl rfl (fun a F => ?_)
            refine x_end ?_
            refine x_bn ?_
            refine x_tn ?_
            refine x_reg ?_
            refine o_move F rfl rfl (fun a F => ?_)
            obtain ⟨z129, c130, hR⟩ := bnd_some hR
            refine o_add F rfl rfl rfl c130 (fun a F => ?_)
            refine o_assign F rfl rfl (fun a F => ?_)
            refine x_end ?_
            refine x_tn ?_
            replace hR := l_go hR hn75
            exact ⟨rest95, (by omega), z121, v123, rb124, z129, hR, F.sub (sc rfl (sc rfl (sc rfl sn))), hB, h125, (ck64 c130), h17, K12, d127, (Dj.app' (Dj.symm d128) (Dj.nil' _))⟩
          · replace hR := ifF hb112 hR
            refine x_skip ?_
            refine x_bn ?_
            refine x_tn ?_
            refine x_reg ?_
            refine o_move F rfl rfl (fun a F => ?_)
            obtain ⟨z131, c132, hR⟩ := bnd_some hR
            refine o_add F rfl rfl rfl c132 (fun a F => ?_)
            refine o_assign F rfl rfl (fun a F => ?_)
            refine x_end ?_
            refine x_tn ?_
            replace hR := l_go hR hn75
            exact ⟨rest95, (by omega), s78, v80, rb81, z131, hR, F.sub (sc rfl (sc rfl (sc rfl sn))), hB, h82, (ck64 c132), h17, K12, d85, d86⟩
        · replace hR := ifF hb102 hR
          refine x_exit ?_
          refine x_te ?_
          refine x_te ?_
          replace hR := l_brk hR hn75
          refine x_be ?_
          refine x_tn ?_
          exact ⟨s78, v80, rb81, s83, (Option.some.inj hR).symm, F.sub (sc rfl sn), hB, h82, i84⟩
    · intro a w ⟨s87, v89, rb90, s92, ho74, F, hB, h91, i93⟩
      subst ho74
      have hR := then_nx hk73
      refine x_tn ?_
      refine x_seq ?_
      refine x_reg ?_
      refine o_move F rfl rfl (fun a F => ?_)
      refine o_assign F rfl rfl (fun a F => ?_)
      refine o_assign F rfl rfl (fun a F => ?_)
      refine x_end ?_
      refine x_tn ?_
      refine x_ret ?_
      refine x_res2 F rfl (rv_t F rfl) (rv_t F rfl) ?_
      obtain rfl := Option.some.inj hR
      exact ⟨_, rfl, hB, v89, rb90, rfl, h91, (show I64 (0) by decide)⟩
end Go.Proofs.Ytmfichdcomaaeaa
