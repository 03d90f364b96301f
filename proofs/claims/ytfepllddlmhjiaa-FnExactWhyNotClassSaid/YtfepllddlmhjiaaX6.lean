/-
  Functions of the program as plain functions, and that they compute them. Printed by fxio.py.
-/
import Derived.Test.YtfepllddlmhjiaaN1
namespace Go.Proofs.Ytfepllddlmhjiaa
set_option linter.unusedVariables false
set_option linter.unusedSimpArgs false
set_option maxRecDepth 100000
open Go.RowKit
def slices_Clone_s_int64_int64 (x0 : List Int) : Option (List Int) :=
 bnd (ap ([]) x0) fun z18 =>
 some z18
set_option maxHeartbeats 1000000 in
theorem slices_Clone_s_int64_int64_c {x0 : List Int} (r : (List Int)) (hR : slices_Clone_s_int64_int64 x0 = some r) {v0 : Value} {b0 : List Nat} (w0 : World) (A0 : Rd (Sl 1 RInt) w0 v0 x0 b0) : Calls Try.prog 50 #[v0] w0 (Gives (fun v w' => ∃ (v1' : Value) (rb2' : List Nat), v = v1' ∧ Row 1 RInt 2 w0.heap.size w' v1' r rb2' []) w0) := by
 unfold slices_Clone_s_int64_int64 at hR
 refine x_enter (L := [(0, v0)]) Try.func50 rfl rfl rfl (sc rfl sn) (fun a F => ?_)
 have hB := Below.refl w0.heap.size w0
 refine x_seq ?_
 refine x_reg ?_
 refine o_assign F rfl rfl (fun a F => ?_)
 refine x_end ?_
 refine x_tn ?_
 refine x_seq ?_
 refine x_seq ?_
 refine x_reg ?_
 refine o_move F rfl rfl (fun a F => ?_)
 refine o_eqlnilG Try.underlying27 F rfl rfl rfl (A0.go hB) (fun a nb11 hn12 F => ?_)
 refine x_end ?_
 refine x_tn ?_
 refine x_if F rfl (fun hb13 => ?_) (fun hb13 => ?_)
 ·
  replace hR : some ([]) = some r := by rw [hn12 hb13] at hR; exact hR
  refine x_seq ?_
  refine x_reg ?_
  refine o_assign F rfl rfl (fun a F => ?_)
  refine x_end ?_
  refine x_tn ?_
  refine x_ret ?_
  refine x_tr ?_
  refine x_res1 F rfl (rv_t F rfl) ?_
  obtain rfl := Option.some.inj hR
  exact ⟨_, rfl, hB, (.slice none 0 0), [], rfl, Row.nil 1 RInt 2 _ _⟩
 ·
  refine x_skip ?_
  refine x_tn ?_
  refine x_seq ?_
  refine x_reg ?_
  refine o_lit0 (R := RInt) Try.underlying27 Try.sizeOf2 F rfl (fun a w v14 rb15 h16 l F => ?_)
  replace h16 := h16.base hB.size
  replace hB := Below.through l hB
  refine o_move F rfl rfl (fun a F => ?_)
  obtain ⟨z18, c19, hR⟩ := bnd_some hR
  obtain ⟨ib23, sr24, sn25⟩ := Rd.src (by decide) (A0.go hB)
  refine o_append (sz := 1) (R := RInt) (z := (.int .i64 0)) (bytes := 8) Try.underlying27 (by kernel_rfl) rfl (by decide) (by decide) (by decide) F rfl rfl rfl h16 sr24 hB.size (Dj.symm (Dj.sub (Dj.new A0.m h16.ownR (Nat.le_refl _)) sn25)) c19 (fun a w v20 rb21 h22 l keep F => ?_)
  obtain rfl : ib23 = [] := src_flat sr24 (fun w f x bs h => by first | exact h.2.2 | exact h.2 | exact h.2.2.2.2 | exact h.2.2.2.2.2.2 | exact h.2.2.2.2.2.2.2.2)
  replace h22 := row_nil2 h22
  replace hB := hB.o l h16.lo hB.size
  refine o_assign F rfl rfl (fun a F => ?_)
  refine x_end ?_
  refine x_tn ?_
  refine x_ret ?_
  refine x_res1 F rfl (rv_t F rfl) ?_
  obtain rfl := Option.some.inj hR
  exact ⟨_, rfl, hB, v20, rb21, rfl, h22⟩

def spec_WhyNotClass (N : Nat) (x0 : Template) (x1 : Int) : Option (Int × (List (List Int)) × (List Int) × Int) :=
 bnd (spec_l09Two (Template.mk x0.size x0.rels) x1) fun z20 =>
 if (z20 != 0) then
  some (0, [], [], z20)
 else
  bnd (spec_l09Op x1) fun z33 =>
  bnd (spec_l02First N (Template.mk x0.size x0.rels) (Op.mk z33.arity z33.table)) fun z52 =>
  if (decide (z52 < 0)) then
   some (0, [], [], 6)
  else
   bnd (ix x0.rels z52) fun z66 =>
   bnd (spec_l02Breaks N 2 (Op.mk z33.arity z33.table) z66) fun z72 =>
   some (z52, z72.1, z72.2.1, 0)
set_option maxHeartbeats 1000000 in
theorem spec_WhyNotClass_c {N : Nat} {x0 : Template} {x1 : Int} (r : Int × (List (List Int)) × (List Int) × Int) (hR : spec_WhyNotClass N x0 x1 = some r) {v0 : Value} {b0 : List Nat} (w0 : World) (A0 : Rd (Agg 2 RTemplate) w0 v0 x0 b0) (hx1 : I64 x1) : Calls Try.prog 5 #[v0, .int .i64 x1] w0 (Gives (fun v w' => ∃ (v1' : Value) (rb2' : List Nat) (ib3' : List Nat) (v4' : Value) (rb5' : List Nat), v = .tuple #[.int .i64 r.1, v1', v4', .int .i64 r.2.2.2] ∧ I64 r.1 ∧ Row 1 (RSl 1 RInt) 27 w0.heap.size w' v1' r.2.1 rb2' ib3' ∧ Own w0.heap.size ib3' w' ∧ Row 1 RInt 2 w0.heap.size w' v4' r.2.2.1 rb5' [] ∧ I64 r.2.2.2 ∧ Dj (rb2' ++ ib3') (rb5' ++ [])) w0) := by
 unfold spec_WhyNotClass at hR
 refine x_enter (L := [(0, v0), (1, .int .i64 x1)]) Try.func5 rfl rfl rfl (sc rfl (sc rfl sn)) (fun a F => ?_)
 have hB := Below.refl w0.heap.size w0
 refine x_seq ?_
 refine x_reg ?_
 obtain ⟨v15, b16, e18, i14, h17, eb13⟩ := RTemplate.rd (A0.go hB)
 subst e18
 refine o_box F rfl rfl rfl (fun a w b11 K12 l BK12 F => ?_)
 have d19 := (dj1 h17.m BK12).symm
 have CK12 := Nat.le_trans hB.size BK12
 replace hB := Below.through l hB
 replace h17 := h17.go l
 refine o_assign F rfl rfl (fun a F => ?_)
 refine o_assign F rfl rfl (fun a F => ?_)
 refine o_assign F rfl rfl (fun a F => ?_)
 refine o_assign F rfl rfl (fun a F => ?_)
 refine x_end ?_
 refine x_tn ?_
 refine x_seq ?_
 refine x_seq ?_
 refine x_reg ?_
 refine o_move F rfl rfl (fun a F => ?_)
 obtain ⟨z20, c21, hR⟩ := bnd_some hR
 refine o_saysI F rfl Try.call17 rfl (spec_l09Two_c z20 c21 _ (RTemplate.blk K12 i14 h17) hx1) (fun a w l iz20 F => ?_)
 replace hB := Below.through l hB
 replace h17 := h17.go l
 replace K12 := K12.thru l
 refine o_assign F rfl rfl (fun a F => ?_)
 refine x_end ?_
 refine x_tn ?_
 refine x_seq ?_
 refine x_reg ?_
 refine o_move F rfl rfl (fun a F => ?_)
 refine o_neq F rfl rfl rfl (fun a F => ?_)
 refine x_end ?_
 refine x_tn ?_
 refine x_if F rfl (fun hb22 => ?_) (fun hb22 => ?_)
 ·
  replace hR := ifT hb22 hR
  refine x_seq ?_
  refine x_reg ?_
  refine o_lit0 (R := (RSl 1 RInt)) Try.underlying26 Try.sizeOf27 F rfl (fun a w v23 rb24 h25 l F => ?_)
  replace h25 := h25.base hB.size
  replace hB := Below.through l hB
  refine o_lit0 (R := RInt) Try.underlying27 Try.sizeOf2 F rfl (fun a w v27 rb28 h29 l F => ?_)
  have d31 := Dj.new h25.rd.m h29.ownR (Nat.le_refl _)
  have d32 := Dj.app' (Dj.new h25.memR h29.ownR (Nat.le_refl _)).symm (Dj.nil' _)
  replace h29 := h29.base hB.size
  replace hB := Below.through l hB
  replace h25 := h25.go l
  refine o_move F rfl rfl (fun a F => ?_)
  refine o_assign F rfl rfl (fun a F => ?_)
  refine o_assign F rfl rfl (fun a F => ?_)
  refine o_assign F rfl rfl (fun a F => ?_)
  refine o_assign F rfl rfl (fun a F => ?_)
  refine x_end ?_
  refine x_tn ?_
  refine x_ret ?_
  refine x_tr ?_
  refine x_res4 F rfl (rv_t F rfl) (rv_t F rfl) (rv_t F rfl) (rv_t F rfl) ?_
  obtain rfl := Option.some.inj hR
  exact ⟨_, rfl, hB, v23, rb24, [], v27, rb28, rfl, (show I64 (0) by decide), h25, (Own.nil _ _), h29, iz20, (Dj.app d31 (Dj.nil _))⟩
 ·
  replace hR := ifF hb22 hR
  refine x_skip ?_
  refine x_tn ?_
  refine x_seq ?_
  refine x_reg ?_
  refine o_move F rfl rfl (fun a F => ?_)
  obtain ⟨z33, c34, hR⟩ := bnd_some hR
  refine o_gives F rfl Try.call18 rfl (spec_l09Op_c z33 c34 _ hx1) (fun a vv w l ⟨v36, rb37, hv40, i35, h39⟩ F => ?_)
  subst vv
  have d42 := Dj.new h17.m h39.ownR (Nat.le_refl _)
  have d43 := Dj.new (inm1 K12) h39.ownR (Nat.le_refl _)
  replace h39 := h39.base hB.size
  replace hB := Below.through l hB
  replace h17 := h17.go l
  replace K12 := K12.thru l
  have h44 := ROp.mk2 (w := w) i35 h39.rd
  refine o_alloc Try.zeroValue45 F rfl rfl (fun a w b45 K46 l BK46 F => ?_)
  have d47 := dj1 h39.memR BK46
  have nb48 := Dj.bb K12 BK46
  have d49 := (dj1 h17.m BK46).symm
  have d50 := (dj1 h44.m BK46).symm
  have d51 := (dj1 h39.rd.m BK46).symm
  have CK46 := Nat.le_trans hB.size BK46
  replace hB := Below.through l hB
  replace h17 := h17.go l
  replace h39 := h39.go l
  replace h44 := h44.go l
  replace K12 := K12.thru l
  refine o_bstoreA (vs := [.int .i64 z33.arity, v36]) Try.sizeOf45 F rfl rfl rfl K46 (oc rfl (oc (h39.rd).r.one on)) (Nat.le_of_ble_eq_true rfl) rfl (fun w K46 l => ?_)
  replace hB := hB.o l (fun c hc => by rw [List.mem_singleton] at hc; rw [hc]; exact CK46) hB.size
  replace h17 := h17.goO l d49
  replace h39 := h39.goO l d51
  replace K12 := K12.only l (by simpa using nb48)
  refine x_end ?_
  refine x_tn ?_
  refine x_seq ?_
  refine x_reg ?_
  obtain ⟨z52, c53, hR⟩ := bnd_some hR
  refine o_saysI F rfl Try.call19 rfl (spec_l02First_c z52 c53 _ (RTemplate.blk K12 i14 h17) (ROp.blk K46 i35 h39.rd)) (fun a w l iz52 F => ?_)
  replace hB := Below.through l hB
  replace h17 := h17.go l
  replace h39 := h39.go l
  replace K12 := K12.thru l
  replace K46 := K46.thru l
  refine o_assign F rfl rfl (fun a F => ?_)
  refine x_end ?_
  refine x_tn ?_
  refine x_seq ?_
  refine x_seq ?_
  refine x_reg ?_
  refine o_move F rfl rfl (fun a F => ?_)
  refine o_lss F rfl rfl rfl (fun a F => ?_)
  refine x_end ?_
  refine x_tn ?_
  refine x_if F rfl (fun hb54 => ?_) (fun hb54 => ?_)
  ·
   replace hR := ifT hb54 hR
   refine x_seq ?_
   refine x_reg ?_
   refine o_lit0 (R := (RSl 1 RInt)) Try.underlying26 Try.sizeOf27 F rfl (fun a w v55 rb56 h57 l F => ?_)
   have d59 := Dj.app' (Dj.new h39.memR h57.ownR (Nat.le_refl _)).symm (Dj.nil' _)
   replace h57 := h57.base hB.size
   replace hB := Below.through l hB
   refine o_lit0 (R := RInt) Try.underlying27 Try.sizeOf2 F rfl (fun a w v60 rb61 h62 l F => ?_)
   have d64 := Dj.new h57.rd.m h62.ownR (Nat.le_refl _)
   have d65 := Dj.app' (Dj.new h57.memR h62.ownR (Nat.le_refl _)).symm (Dj.nil' _)
   replace h62 := h62.base hB.size
   replace hB := Below.through l hB
   replace h57 := h57.go l
   refine o_assign F rfl rfl (fun a F => ?_)
   refine o_assign F rfl rfl (fun a F => ?_)
   refine o_assign F rfl rfl (fun a F => ?_)
   refine o_assign F rfl rfl (fun a F => ?_)
   refine x_end ?_
   refine x_tn ?_
   refine x_ret ?_
   refine x_tr ?_
   refine x_res4 F rfl (rv_t F rfl) (rv_t F rfl) (rv_t F rfl) (rv_t F rfl) ?_
   obtain rfl := Option.some.inj hR
   exact ⟨_, rfl, hB, v55, rb56, [], v60, rb61, rfl, (show I64 (0) by decide), h57, (Own.nil _ _), h62, (show I64 (6) by decide), (Dj.app d64 (Dj.nil _))⟩
  ·
   replace hR := ifF hb54 hR
   refine x_skip ?_
   refine x_tn ?_
   refine x_seq ?_
   refine x_reg ?_
   refine o_bfield fa32_1 F rfl rfl rfl (fun a F => ?_)
   refine o_bload Try.isAgg30 F rfl rfl K12 rfl (fun a F => ?_)
   refine o_move F rfl rfl (fun a F => ?_)
   obtain ⟨z66, c67, hR⟩ := bnd_some hR
   refine o_index Try.underlying30 Try.sizeOf53 F rfl rfl rfl h17 c67 (fun a p68 b69 h70 s71 F => ?_)
   obtain ⟨z72, c73, hR⟩ := bnd_some hR
   refine o_gives F rfl Try.call20 rfl (spec_l02Breaks_c z72 c73 _ (show I64 (2) by decide) (ROp.blk K46 i35 h39.rd) h70) (fun a vv w l ⟨v74, rb75, ib76, v79, rb80, hv83, h77, ow78, h82, dj84⟩ F => ?_)
   subst vv
   have o85 := h77.own ow78
   have d86 := (Dj.new (inm1 K12) o85 (Nat.le_refl _)).symm
   have d87 := (Dj.new (inm1 K46) o85 (Nat.le_refl _)).symm
   have d88 := (Dj.new h39.memR o85 (Nat.le_refl _)).symm
   replace h77 := h77.base hB.size
   replace ow78 := ow78.mono hB.size
   have d91 := Dj.app' (Dj.new h39.memR h82.ownR (Nat.le_refl _)).symm (Dj.nil' _)
   replace h82 := h82.base hB.size
   replace hB := Below.through l hB
   refine o_move F rfl rfl (fun a F => ?_)
   refine o_extract F rfl rfl rfl (fun a F => ?_)
   refine o_extract F rfl rfl rfl (fun a F => ?_)
   refine o_extract F rfl rfl rfl (fun a F => ?_)
   refine o_assign F rfl rfl (fun a F => ?_)
   refine o_assign F rfl rfl (fun a F => ?_)
   refine o_assign F rfl rfl (fun a F => ?_)
   refine x_end ?_
   refine x_tn ?_
   refine x_seq ?_
   refine x_reg ?_
   refine o_move F rfl rfl (fun a F => ?_)
   refine o_move F rfl rfl (fun a F => ?_)
   refine o_move F rfl rfl (fun a F => ?_)
   refine o_assign F rfl rfl (fun a F => ?_)
   refine o_assign F rfl rfl (fun a F => ?_)
   refine o_assign F rfl rfl (fun a F => ?_)
   refine o_assign F rfl rfl (fun a F => ?_)
   refine x_end ?_
   refine x_tn ?_
   refine x_ret ?_
   refine x_res4 F rfl (rv_t F rfl) (rv_t F rfl) (rv_t F rfl) (rv_t F rfl) ?_
   obtain rfl := Option.some.inj hR
   exact ⟨_, rfl, hB, v74, rb75, ib76, v79, rb80, rfl, iz52, h77, ow78, h82, (show I64 (0) by decide), (Dj.app (Dj.symm (Dj.l (Dj.symm dj84))) (Dj.nil _))⟩

def impl_ownLists (x0 : List (List Int)) : Option (List (List Int)) :=
 thn (σ := (List (List Int))) (
  forL (σ := (List (List Int))) (ρ := (List (List Int))) (fun (k114 : Nat) (x116 : (List Int)) (s100 : (List (List Int))) =>
   bnd (slices_Clone_s_int64_int64 x116) fun z128 =>
   bnd (ap s100 ([z128])) fun z147 =>
   some (.go z147)) x0 0 []) fun s107 =>
 some s107
set_option maxHeartbeats 1000000 in
theorem impl_ownLists_c {x0 : List (List Int)} (r : (List (List Int))) (hR : impl_ownLists x0 = some r) {v0 : Value} {b0 : List Nat} (w0 : World) (A0 : Rd (Sl 1 (RSl 1 RInt)) w0 v0 x0 b0) : Calls Try.prog 26 #[v0] w0 (Gives (fun v w' => ∃ (v1' : Value) (rb2' : List Nat) (ib3' : List Nat), v = v1' ∧ Row 1 (RSl 1 RInt) 27 w0.heap.size w' v1' r rb2' ib3' ∧ Own w0.heap.size ib3' w') w0) := by
 unfold impl_ownLists at hR
 refine x_enter (L := [(0, v0)]) Try.func26 rfl rfl rfl (sc rfl sn) (fun a F => ?_)
 have hB := Below.refl w0.heap.size w0
 refine x_seq ?_
 refine x_reg ?_
 refine o_assign F rfl rfl (fun a F => ?_)
 refine x_end ?_
 refine x_tn ?_
 refine x_seq ?_
 refine x_reg ?_
 refine o_lit0 (R := (RSl 1 RInt)) Try.underlying26 Try.sizeOf27 F rfl (fun a w v11 rb12 h13 l F => ?_)
 replace h13 := h13.base hB.size
 replace hB := Below.through l hB
 refine o_assign F rfl rfl (fun a F => ?_)
 refine x_end ?_
 refine x_tn ?_
 refine x_seq ?_
 refine x_seq ?_
 refine x_reg ?_
 refine o_move F rfl rfl (fun a F => ?_)
 refine o_len Try.underlying26 F rfl rfl (A0.go hB) (fun a F => ?_)
 have i15 := ((A0.go hB)).r.len64
 refine o_move F rfl rfl (fun a F => ?_)
 refine x_end ?_
 refine x_tn ?_
 obtain ⟨o94, hR, hk95⟩ := thn_some hR
 refine x_cutQ (fun a w => ∃ (s107 : List (List Int)) (v110 : Value) (rb111 : List Nat) (ib112 : List Nat), o94 = .nx s107 ∧ Sk a 20 [(3, v110)] ∧ Below w0.heap.size w0 w ∧ Row 1 (RSl 1 RInt) 27 w0.heap.size w v110 s107 rb111 ib112 ∧ Own w0.heap.size ib112 w) ?_ ?_
 ·
  refine x_blk ?_
  obtain ⟨fl98, hf99, hR⟩ := forL_gen hR
  refine x_loop (fun g a w => ∃ (k114 : Nat) (rest115 : List (List Int)) (s100 : List (List Int)) (v103 : Value) (rb104 : List Nat) (ib105 : List Nat), (k114 ≤ x0.length ∧ x0.drop k114 = rest115) ∧ rest115.length = g ∧ forL fl98 rest115 k114 s100 = some o94 ∧ Sk a 20 [(9, .int .i64 (k114 : Int)), (3, v103), (7, v0), (8, .int .i64 (x0.length : Int))] ∧ Below w0.heap.size w0 w ∧ Row 1 (RSl 1 RInt) 27 w0.heap.size w v103 s100 rb104 ib105 ∧ Own w0.heap.size ib105 w) x0.length ?_ ?_
  ·
   exact ⟨0, x0, [], v11, rb12, [], ⟨Nat.zero_le _, rfl⟩, rfl, hR, F.sub (sc rfl (sc rfl (sc rfl (sc rfl sn)))), hB, h13, (Own.nil _ _)⟩
  ·
   intro g117 a w ⟨k114, rest115, s100, v103, rb104, ib105, hd118, hg119, hR, F, hB, h102, ow106⟩
   cases rest115 with
   | nil =>
    replace hR := forL_nil hR
    have hkk114 := drop_nil hd118.1 hd118.2
    have hlk114 := dec_no hkk114
    refine x_seq ?_
    refine x_reg ?_
    refine o_lss F rfl rfl rfl (fun a F => ?_)
    refine x_end ?_
    refine x_tn ?_
    refine x_seq ?_
    refine x_ifF F rfl hlk114 ?_
    refine x_exit ?_
    refine x_te ?_
    refine x_te ?_
    refine x_be ?_
    refine x_tn ?_
    exact ⟨s100, v103, rb104, ib105, (Option.some.inj hR).symm, F.sub (sc rfl sn), hB, h102, ow106⟩
   | cons x116 rest115 =>
    subst hg119
    replace hd118 := drop_cons hd118.2
    have hxk114 := ix_nat hd118.2.1
    obtain ⟨ck114, hR, hn97⟩ := forL_cons hR
    rw [hf99] at hR
    have hlk114 := dec_yes hd118.1
    refine x_seq ?_
    refine x_reg ?_
    refine o_lss F rfl rfl rfl (fun a F => ?_)
    refine x_end ?_
    refine x_tn ?_
    refine x_seq ?_
    refine x_ifT F rfl hlk114 ?_
    refine x_skip ?_
    refine x_tn ?_
    refine x_seq ?_
    have ikk114 := k64 (Nat.le_of_lt hd118.1) i15
    have ink114 := inc64 hd118.1 i15
    refine x_blk ?_
    refine x_seq ?_
    refine x_reg ?_
    refine o_index Try.underlying26 Try.sizeOf27 F rfl rfl rfl (A0.go hB) hxk114 (fun a p120 b121 h122 s123 F => ?_)
    refine o_loadS Try.isAgg27 F rfl rfl h122 (fun a v124 b125 h126 s127 F => ?_)
    refine o_assign F rfl rfl (fun a F => ?_)
    refine x_end ?_
    refine x_tn ?_
    refine x_reg ?_
    refine o_move F rfl rfl (fun a F => ?_)
    refine o_move F rfl rfl (fun a F => ?_)
    obtain ⟨z128, c129, hR⟩ := bnd_some hR
    refine o_gives F rfl Try.call50 rfl (slices_Clone_s_int64_int64_c z128 c129 _ h126) (fun a vv w l ⟨v130, rb131, hv134, h133⟩ F => ?_)
    subst vv
    have d136 := Dj.new h102.rd.m h133.ownR (Nat.le_refl _)
    have d137 := Dj.app' (Dj.new h102.memR h133.ownR (Nat.le_refl _)).symm (Dj.nil' _)
    have d138 := Dj.app' (Dj.new h102.mem h133.ownR (Nat.le_refl _)).symm (Dj.nil' _)
    replace h133 := h133.base hB.size
    replace hB := Below.through l hB
    replace h102 := h102.go l
    replace ow106 := ow106.go l
    refine o_lit1 (R := (RSl 1 RInt)) (y := z128) Try.underlying26 Try.sizeOf27 Try.zeroValue27 rfl (by decide) (by decide) F rfl rfl (El.sl h133.rd) (fun a w v139 rb140 h141 l F => ?_)
    have ow142 := Own.go (h133.own (Own.nil _ _)) l
    have d144 := Dj.new h102.rd.m h141.ownR (Nat.le_refl _)
    have d145 := Dj.app' (Dj.new h102.memR h141.ownR (Nat.le_refl _)).symm d137
    have d146 := Dj.app' (Dj.new h102.mem h141.ownR (Nat.le_refl _)).symm d138
    replace h141 := h141.base hB.size
    replace hB := Below.through l hB
    replace h102 := h102.go l
    replace ow106 := ow106.go l
    obtain ⟨z147, c148, hR⟩ := bnd_some hR
    refine o_append (sz := 1) (R := (RSl 1 RInt)) (z := ((.slice none 0 0))) (bytes := 24) Try.underlying26 (by kernel_rfl) rfl (by decide) (by decide) (by decide) F rfl rfl rfl h102 h141.src hB.size (Dj.symm d145.r) c148 (fun a w v149 rb150 h151 l keep F => ?_)
    have ow152 := Own.append (Own.goO ow106 l h102.dj.symm) (Own.goO ow142 l (Dj.symm (Dj.symm d145.r))) (Dj.symm d146.r)
    replace hB := hB.o l h102.lo hB.size
    refine o_assign F rfl rfl (fun a F => ?_)
    refine x_end ?_
    refine x_bn ?_
    refine x_tn ?_
    refine x_reg ?_
    refine o_inc F rfl rfl rfl ink114 (fun a F => ?_)
    refine o_move F rfl rfl (fun a F => ?_)
    refine x_end ?_
    refine x_tn ?_
    replace hR := l_go hR hn97
    exact ⟨_, Nat.lt_succ_self _, k114 + 1, rest115, z147, v149, rb150, (ib105 ++ (rb131 ++ [])), ⟨hd118.1, hd118.2.2⟩, rfl, hR, F.sub (sc rfl (sc rfl (sc rfl (sc rfl sn)))), hB, h151, ow152⟩
 ·
  intro a w ⟨s107, v110, rb111, ib112, ho96, F, hB, h109, ow113⟩
  subst ho96
  have hR := then_nx hk95
  refine x_tn ?_
  refine x_seq ?_
  refine x_reg ?_
  refine o_move F rfl rfl (fun a F => ?_)
  refine o_assign F rfl rfl (fun a F => ?_)
  refine x_end ?_
  refine x_tn ?_
  refine x_ret ?_
  refine x_res1 F rfl (rv_t F rfl) ?_
  obtain rfl := Option.some.inj hR
  exact ⟨_, rfl, hB, v110, rb111, ib112, rfl, h109, ow113⟩

def impl_WhyNotClass (N : Nat) (x0 : Template) (x1 : Int) : Option (Int × (List (List Int)) × (List Int) × Int) :=
 bnd (impl_classFault (Template.mk x0.size x0.rels) x1) fun z21 =>
 if (z21 != 0) then
  some (0, [], [], z21)
 else
  bnd (impl_classOp x1) fun z24 =>
  bnd (impl_firstBroken N (Template.mk x0.size x0.rels) (Op.mk z24.arity z24.table)) fun z43 =>
  if (decide (z43 < 0)) then
   some (0, [], [], 6)
  else
   bnd (ix x0.rels z43) fun z47 =>
   bnd (impl_broken N 2 (Op.mk z24.arity z24.table) z47) fun z57 =>
   bnd (impl_ownLists z57.1) fun z72 =>
   some (z43, z72, z57.2, 0)
set_option maxHeartbeats 1000000 in
theorem impl_WhyNotClass_c {N : Nat} {x0 : Template} {x1 : Int} (r : Int × (List (List Int)) × (List Int) × Int) (hR : impl_WhyNotClass N x0 x1 = some r) {v0 : Value} {b0 : List Nat} (w0 : World) (A0 : Rd (Agg 2 RTemplate) w0 v0 x0 b0) (hx1 : I64 x1) : Calls Try.prog 7 #[v0, .int .i64 x1] w0 (Gives (fun v w' => ∃ (v1' : Value) (rb2' : List Nat) (ib3' : List Nat) (v4' : Value) (rb5' : List Nat), v = .tuple #[.int .i64 r.1, v1', v4', .int .i64 r.2.2.2] ∧ I64 r.1 ∧ Row 1 (RSl 1 RInt) 27 w0.heap.size w' v1' r.2.1 rb2' ib3' ∧ Own w0.heap.size ib3' w' ∧ Row 1 RInt 2 w0.heap.size w' v4' r.2.2.1 rb5' [] ∧ I64 r.2.2.2 ∧ Dj (rb2' ++ ib3') (rb5' ++ [])) w0) := by
 unfold impl_WhyNotClass at hR
 refine x_enter (L := [(0, v0), (1, .int .i64 x1)]) Try.func7 rfl rfl rfl (sc rfl (sc rfl sn)) (fun a F => ?_)
 have hB := Below.refl w0.heap.size w0
 refine x_seq ?_
 refine x_reg ?_
 obtain ⟨v15, b16, e18, i14, h17, eb13⟩ := RTemplate.rd (A0.go hB)
 subst e18
 refine o_box F rfl rfl rfl (fun a w b11 K12 l BK12 F => ?_)
 have d19 := (dj1 h17.m BK12).symm
 have CK12 := Nat.le_trans hB.size BK12
 replace hB := Below.through l hB
 replace h17 := h17.go l
 refine o_assign F rfl rfl (fun a F => ?_)
 refine o_assign F rfl rfl (fun a F => ?_)
 refine o_assign F rfl rfl (fun a F => ?_)
 refine o_assign F rfl rfl (fun a F => ?_)
 refine x_end ?_
 refine x_tn ?_
 refine x_seq ?_
 refine x_seq ?_
 refine x_reg ?_
 refine o_bloadA (cs := [.int .i64 x0.size, v15]) Try.isAgg32 Try.sizeOf32 F rfl rfl K12 rfl (fun j hj => by match j, hj with | 0, _ => rfl | 1, _ => rfl) (fun a F => ?_)
 have h20 := RTemplate.mk2 (w := w) i14 h17
 refine o_move F rfl rfl (fun a F => ?_)
 obtain ⟨z21, c22, hR⟩ := bnd_some hR
 refine o_saysI F rfl Try.call22 rfl (impl_classFault_c z21 c22 _ h20 hx1) (fun a w l iz21 F => ?_)
 replace hB := Below.through l hB
 replace h17 := h17.go l
 replace K12 := K12.thru l
 refine o_assign F rfl rfl (fun a F => ?_)
 refine x_end ?_
 refine x_tn ?_
 refine x_seq ?_
 refine x_reg ?_
 refine o_move F rfl rfl (fun a F => ?_)
 refine o_neq F rfl rfl rfl (fun a F => ?_)
 refine x_end ?_
 refine x_tn ?_
 refine x_if F rfl (fun hb23 => ?_) (fun hb23 => ?_)
 ·
  replace hR := ifT hb23 hR
  refine x_seq ?_
  refine x_reg ?_
  refine o_move F rfl rfl (fun a F => ?_)
  refine o_assign F rfl rfl (fun a F => ?_)
  refine o_assign F rfl rfl (fun a F => ?_)
  refine o_assign F rfl rfl (fun a F => ?_)
  refine o_assign F rfl rfl (fun a F => ?_)
  refine x_end ?_
  refine x_tn ?_
  refine x_ret ?_
  refine x_tr ?_
  refine x_res4 F rfl (rv_t F rfl) (rv_t F rfl) (rv_t F rfl) (rv_t F rfl) ?_
  obtain rfl := Option.some.inj hR
  exact ⟨_, rfl, hB, (.slice none 0 0), [], [], (.slice none 0 0), [], rfl, (show I64 (0) by decide), Row.nil 1 (RSl 1 RInt) 27 _ _, Own.nil _ _, Row.nil 1 RInt 2 _ _, iz21, (Dj.nil' _)⟩
 ·
  replace hR := ifF hb23 hR
  refine x_skip ?_
  refine x_tn ?_
  refine x_seq ?_
  refine x_reg ?_
  refine o_move F rfl rfl (fun a F => ?_)
  obtain ⟨z24, c25, hR⟩ := bnd_some hR
  refine o_gives F rfl Try.call23 rfl (impl_classOp_c z24 c25 _ hx1) (fun a vv w l ⟨v26, b27, hv29, h28⟩ F => ?_)
  subst vv
  replace hB := Below.through l hB
  replace h17 := h17.go l
  replace K12 := K12.thru l
  refine o_alloc Try.zeroValue45 F rfl rfl (fun a w b30 K31 l BK31 F => ?_)
  have nb32 := Dj.bb K12 BK31
  have d33 := (dj1 h17.m BK31).symm
  have d34 := (dj1 h28.m BK31).symm
  have CK31 := Nat.le_trans hB.size BK31
  replace hB := Below.through l hB
  replace h17 := h17.go l
  replace h28 := h28.go l
  replace K12 := K12.thru l
  obtain ⟨v37, b38, e40, i36, h39, eb35⟩ := ROp.rd h28
  subst e40
  refine o_bstoreA (vs := [.int .i64 z24.arity, v37]) Try.sizeOf45 F rfl rfl rfl K31 (oc rfl (oc (h39).r.one on)) (Nat.le_of_ble_eq_true rfl) rfl (fun w K31 l => ?_)
  replace hB := hB.o l (fun c hc => by rw [List.mem_singleton] at hc; rw [hc]; exact CK31) hB.size
  replace h17 := h17.goO l d33
  replace h39 := h39.goO l (Dj.sub d34 (fun c hc => by rw [eb35]; simp [hc]))
  replace K12 := K12.only l (by simpa using nb32)
  refine x_end ?_
  refine x_tn ?_
  refine x_seq ?_
  refine x_reg ?_
  refine o_bloadA (cs := [.int .i64 x0.size, v15]) Try.isAgg32 Try.sizeOf32 F rfl rfl K12 rfl (fun j hj => by match j, hj with | 0, _ => rfl | 1, _ => rfl) (fun a F => ?_)
  have h41 := RTemplate.mk2 (w := w) i14 h17
  refine o_bloadA (cs := [.int .i64 z24.arity, v37]) Try.isAgg45 Try.sizeOf45 F rfl rfl K31 rfl (fun j hj => by match j, hj with | 0, _ => rfl | 1, _ => rfl) (fun a F => ?_)
  have h42 := ROp.mk2 (w := w) i36 h39
  obtain ⟨z43, c44, hR⟩ := bnd_some hR
  refine o_saysI F rfl Try.call24 rfl (impl_firstBroken_c z43 c44 _ h41 h42) (fun a w l iz43 F => ?_)
  replace hB := Below.through l hB
  replace h17 := h17.go l
  replace h39 := h39.go l
  replace K12 := K12.thru l
  replace K31 := K31.thru l
  refine o_assign F rfl rfl (fun a F => ?_)
  refine x_end ?_
  refine x_tn ?_
  refine x_seq ?_
  refine x_seq ?_
  refine x_reg ?_
  refine o_move F rfl rfl (fun a F => ?_)
  refine o_lss F rfl rfl rfl (fun a F => ?_)
  refine x_end ?_
  refine x_tn ?_
  refine x_if F rfl (fun hb45 => ?_) (fun hb45 => ?_)
  ·
   replace hR := ifT hb45 hR
   refine x_seq ?_
   refine x_reg ?_
   refine o_assign F rfl rfl (fun a F => ?_)
   refine o_assign F rfl rfl (fun a F => ?_)
   refine o_assign F rfl rfl (fun a F => ?_)
   refine o_assign F rfl rfl (fun a F => ?_)
   refine x_end ?_
   refine x_tn ?_
   refine x_ret ?_
   refine x_tr ?_
   refine x_res4 F rfl (rv_t F rfl) (rv_t F rfl) (rv_t F rfl) (rv_t F rfl) ?_
   obtain rfl := Option.some.inj hR
   exact ⟨_, rfl, hB, (.slice none 0 0), [], [], (.slice none 0 0), [], rfl, (show I64 (0) by decide), Row.nil 1 (RSl 1 RInt) 27 _ _, Own.nil _ _, Row.nil 1 RInt 2 _ _, (show I64 (6) by decide), (Dj.nil' _)⟩
  ·
   replace hR := ifF hb45 hR
   refine x_skip ?_
   refine x_tn ?_
   refine x_seq ?_
   refine x_drawn (by kernel_rfl) (fun w l => ?_)
   replace hB := Below.through l hB
   replace h17 := h17.go l
   replace h39 := h39.go l
   replace K12 := K12.thru l
   replace K31 := K31.thru l
   refine b_q 0 (by kernel_rfl) rfl (by kernel_rfl) (by kernel_rfl) (by kernel_rfl) (by kernel_rfl) ?_
   refine v_val F rfl (fun w l => r_bloadA (cs := [.int .i64 z24.arity, v37]) Try.isAgg45 Try.sizeOf45 F rfl (K31.thru l) rfl (fun j hj => by match j, hj with | 0, _ => rfl | 1, _ => rfl)) (fun a F => ?_)
   have h46 := ROp.mk2 (w := w) i36 h39
   refine b_q 1 (by kernel_rfl) rfl (by kernel_rfl) (by kernel_rfl) (by kernel_rfl) (by kernel_rfl) ?_
   refine v_val F rfl (fun w l => r_bfield fa32_1 F rfl rfl) (fun a F => ?_)
   refine b_q 2 (by kernel_rfl) rfl (by kernel_rfl) (by kernel_rfl) (by kernel_rfl) (by kernel_rfl) ?_
   refine v_val F rfl (fun w l => r_load1 Try.isAgg30 F rfl (((K12.thru l).cell _).trans rfl)) (fun a F => ?_)
   refine b_q0 3 rfl (by kernel_rfl) (by kernel_rfl) (by kernel_rfl) ?_
   refine v_val F rfl (fun w l => r_move F rfl) (fun a F => ?_)
   refine b_q 4 (by kernel_rfl) rfl (by kernel_rfl) (by kernel_rfl) (by kernel_rfl) (by kernel_rfl) ?_
   obtain ⟨z47, c48, hR⟩ := bnd_some hR
   refine v_index Try.underlying30 Try.sizeOf53 F rfl rfl rfl h17 c48 (fun a p49 b50 h51 s52 F => ?_)
   refine b_q 5 (by kernel_rfl) rfl (by kernel_rfl) (by kernel_rfl) (by kernel_rfl) (by kernel_rfl) ?_
   refine v_loadA (fun _ l => l) Try.isAgg53 Try.sizeOf53 F rfl rfl h51 (fun a v53 b54 h55 s56 F => ?_)
   refine b_e 6 rfl (by kernel_rfl) ?_
   obtain ⟨z57, c58, hR⟩ := bnd_some hR
   refine o_gives F rfl Try.call25 rfl (impl_broken_c z57 c58 _ (show I64 (2) by decide) h46 h55) (fun a vv w l ⟨v59, rb60, ib61, v63, rb64, hv68, h62, h66, hz67, dj69⟩ F => ?_)
   subst vv
   replace h62 := h62.base hB.size
   replace h66 := h66.base hB.size
   replace hB := Below.through l hB
   refine x_end ?_
   refine x_tn ?_
   refine ⟨.inl l, ?_⟩
   refine b_q0 7 rfl (by kernel_rfl) (by kernel_rfl) (by kernel_rfl) ?_
   refine v_val F rfl (fun w l => r_move F rfl) (fun a F => ?_)
   refine b_q 8 (by kernel_rfl) rfl (by kernel_rfl) (by kernel_rfl) (by kernel_rfl) (by kernel_rfl) ?_
   refine v_val F rfl (fun w l => r_extract F rfl rfl) (fun a F => ?_)
   refine b_q 9 (by kernel_rfl) rfl (by kernel_rfl) (by kernel_rfl) (by kernel_rfl) (by kernel_rfl) ?_
   refine v_val F rfl (fun w l => r_extract F rfl rfl) (fun a F => ?_)
   refine b_q0 10 rfl (by kernel_rfl) (by kernel_rfl) (by kernel_rfl) ?_
   refine v_val F rfl (fun w l => r_assign F rfl) (fun a F => ?_)
   refine b_q0 11 rfl (by kernel_rfl) (by kernel_rfl) (by kernel_rfl) ?_
   refine v_val F rfl (fun w l => r_assign F rfl) (fun a F => ?_)
   refine b_end (by kernel_rfl) ?_
   refine x_tn ?_
   refine x_seq ?_
   refine x_reg ?_
   refine o_move F rfl rfl (fun a F => ?_)
   refine o_move F rfl rfl (fun a F => ?_)
   obtain ⟨z72, c73, hR⟩ := bnd_some hR
   refine o_gives F rfl Try.call26 rfl (impl_ownLists_c z72 c73 _ h62.rd) (fun a vv w l ⟨v74, rb75, ib76, hv79, h77, ow78⟩ F => ?_)
   subst vv
   have o80 := h77.own ow78
   have d81 := (Dj.new h66.memR o80 (Nat.le_refl _)).symm
   have d82 := (Dj.new h62.memR o80 (Nat.le_refl _)).symm
   have d83 := (Dj.new h62.mem o80 (Nat.le_refl _)).symm
   have d85 := Dj.new h66.rd.m h77.ownR (Nat.le_refl _)
   replace h77 := h77.base hB.size
   replace ow78 := ow78.mono hB.size
   replace hB := Below.through l hB
   replace h66 := h66.go l
   refine o_move F rfl rfl (fun a F => ?_)
   refine o_assign F rfl rfl (fun a F => ?_)
   refine o_assign F rfl rfl (fun a F => ?_)
   refine o_assign F rfl rfl (fun a F => ?_)
   refine o_assign F rfl rfl (fun a F => ?_)
   refine x_end ?_
   refine x_tn ?_
   refine x_ret ?_
   refine x_res4 F rfl (rv_t F rfl) (rv_t F rfl) (rv_t F rfl) (rv_t F rfl) ?_
   obtain rfl := Option.some.inj hR
   exact ⟨_, rfl, hB, v74, rb75, ib76, v63, rb64, rfl, iz43, h77, ow78, h66, (show I64 (0) by decide), (Dj.app d81 (Dj.nil _))⟩
end Go.Proofs.Ytfepllddlmhjiaa
