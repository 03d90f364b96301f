/-
  Functions of the program as plain functions, and that they compute them. Printed by fxgen.py.
-/
import Derived.Test.YtmfichdcomaaeaaX2
namespace Go.Proofs.Ytmfichdcomaaeaa
set_option linter.unusedVariables false
set_option linter.unusedSimpArgs false
set_option maxRecDepth 100000
open Go.RowKit
def slices_Clone_s_int64_int64 (x0 : List Int) : Option (List Int) :=
  bnd (ap ([]) x0) fun z18 =>
  some z18
set_option maxHeartbeats 1000000 in
theorem slices_Clone_s_int64_int64_c {x0 : List Int} (r : (List Int)) (hR : slices_Clone_s_int64_int64 x0 = some r) {v0 : Value} {b0 : List Nat} (w0 : World) (A0 : Rd (Sl 1 RInt) w0 v0 x0 b0) : Calls Try.prog 147 #[v0] w0 (Gives (fun v w' => ∃ (v1' : Value) (rb2' : List Nat), v = v1' ∧ Row 1 RInt 2 w0.heap.size w' v1' r rb2' []) w0) := by
  unfold slices_Clone_s_int64_int64 at hR
  refine x_enter (L := [(0, v0)]) Try.func147 rfl rfl rfl (sc rfl sn) (fun a F => ?_)
  have hB := Below.refl w0.heap.size w0
  refine x_seq ?_
  refine x_reg ?_
  refine o_assign F rfl rfl (fun a F => ?_)
  refine x_end ?_
  refine x_tn ?_
  refine x_seq ?_
  refine x_seq ?_
  refine x_reg ?_
  refine o_move F rfl rfl (fun a F => ?_)
  refine o_eqlnilG Try.underlying34 F rfl rfl rfl (A0.go hB) (fun a nb11 hn12 F => ?_)
  refine x_end ?_
  refine x_tn ?_
  refine x_if F rfl (fun hb13 => ?_) (fun hb13 => ?_)
  · replace hR : some ([]) = some r := by rw [hn12 hb13] at hR; exact hR
    refine x_seq ?_
    refine x_reg ?_
    refine o_assign F rfl rfl (fun a F => ?_)
    refine x_end ?_
    refine x_tn ?_
    refine x_ret ?_
    refine x_tr ?_
    refine x_res1 F rfl (rv_t F rfl) ?_
    obtain rfl := Option.some.inj hR
    exact ⟨_, rfl, hB, (.slice none 0 0), [], rfl, Row.nil 1 RInt 2 _ _⟩
  · refine x_skip ?_
    refine x_tn ?_
    refine x_seq ?_
    refine x_reg ?_
    refine o_lit0 (R := RInt) Try.underlying34 Try.sizeOf2 F rfl (fun a w v14 rb15 h16 l F => ?_)
    replace h16 := h16.base hB.size
    replace hB := Below.through l hB
    refine o_move F rfl rfl (fun a F => ?_)
    obtain ⟨z18, c19, hR⟩ := bnd_some hR
    obtain ⟨ib23, sr24, sn25⟩ := Rd.src (by decide) (A0.go hB)
    refine o_append (sz := 1) (R := RInt) (z := (.int .i64 0)) (bytes := 8) Try.underlying34 (by kernel_rfl) rfl (by decide) (by decide) (by decide) F rfl rfl rfl h16 sr24 hB.size (Dj.symm (Dj.sub (Dj.new A0.m h16.ownR (Nat.le_refl _)) sn25)) c19 (fun a w v20 rb21 h22 l keep F => ?_)
    obtain rfl : ib23 = [] := src_flat sr24 (fun w f x bs h => by first | exact h.2.2 | exact h.2 | exact h.2.2.2.2 | exact h.2.2.2.2.2.2 | exact h.2.2.2.2.2.2.2.2)
    replace h22 := row_nil2 h22
    replace hB := hB.o l h16.lo hB.size
    refine o_assign F rfl rfl (fun a F => ?_)
    refine x_end ?_
    refine x_tn ?_
    refine x_ret ?_
    refine x_res1 F rfl (rv_t F rfl) ?_
    obtain rfl := Option.some.inj hR
    exact ⟨_, rfl, hB, v20, rb21, rfl, h22⟩

def slices_Clone_s_ArcStep_ArcStep (x0 : List ArcStep) : Option (List ArcStep) :=
  bnd (ap ([]) x0) fun z18 =>
  some z18
set_option maxHeartbeats 1000000 in
theorem slices_Clone_s_ArcStep_ArcStep_c {x0 : List ArcStep} (r : (List ArcStep)) (hR : slices_Clone_s_ArcStep_ArcStep x0 = some r) {v0 : Value} {b0 : List Nat} (w0 : World) (A0 : Rd (Sl 3 RArcStep) w0 v0 x0 b0) : Calls Try.prog 148 #[v0] w0 (Gives (fun v w' => ∃ (v1' : Value) (rb2' : List Nat), v = v1' ∧ Row 3 RArcStep 133 w0.heap.size w' v1' r rb2' []) w0) := by
  unfold slices_Clone_s_ArcStep_ArcStep at hR
  refine x_enter (L := [(0, v0)]) Try.func148 rfl rfl rfl (sc rfl sn) (fun a F => ?_)
  have hB := Below.refl w0.heap.size w0
  refine x_seq ?_
  refine x_reg ?_
  refine o_assign F rfl rfl (fun a F => ?_)
  refine x_end ?_
  refine x_tn ?_
  refine x_seq ?_
  refine x_seq ?_
  refine x_reg ?_
  refine o_move F rfl rfl (fun a F => ?_)
  refine o_eqlnilG Try.underlying70 F rfl rfl rfl (A0.go hB) (fun a nb11 hn12 F => ?_)
  refine x_end ?_
  refine x_tn ?_
  refine x_if F rfl (fun hb13 => ?_) (fun hb13 => ?_)
  · replace hR : some ([]) = some r := by rw [hn12 hb13] at hR; exact hR
    refine x_seq ?_
    refine x_reg ?_
    refine o_assign F rfl rfl (fun a F => ?_)
    refine x_end ?_
    refine x_tn ?_
    refine x_ret ?_
    refine x_tr ?_
    refine x_res1 F rfl (rv_t F rfl) ?_
    obtain rfl := Option.some.inj hR
    exact ⟨_, rfl, hB, (.slice none 0 0), [], rfl, Row.nil 3 RArcStep 133 _ _⟩
  · refine x_skip ?_
    refine x_tn ?_
    refine x_seq ?_
    refine x_reg ?_
    refine o_lit0 (R := RArcStep) Try.underlying70 Try.sizeOf133 F rfl (fun a w v14 rb15 h16 l F => ?_)
    replace h16 := h16.base hB.size
    replace hB := Below.through l hB
    refine o_move F rfl rfl (fun a F => ?_)
    obtain ⟨z18, c19, hR⟩ := bnd_some hR
    obtain ⟨ib23, sr24, sn25⟩ := Rd.src (by decide) (A0.go hB)
    refine o_append (sz := 3) (R := RArcStep) (z := (.agg #[.int .i64 0, .int .i64 0, .int .i64 0])) (bytes := 24) Try.underlying70 (by kernel_rfl) rfl (by decide) (by decide) (by decide) F rfl rfl rfl h16 sr24 hB.size (Dj.symm (Dj.sub (Dj.new A0.m h16.ownR (Nat.le_refl _)) sn25)) c19 (fun a w v20 rb21 h22 l keep F => ?_)
    obtain rfl : ib23 = [] := src_flat sr24 (fun w f x bs h => by first | exact h.2.2 | exact h.2 | exact h.2.2.2.2 | exact h.2.2.2.2.2.2 | exact h.2.2.2.2.2.2.2.2)
    replace h22 := row_nil2 h22
    replace hB := hB.o l h16.lo hB.size
    refine o_assign F rfl rfl (fun a F => ?_)
    refine x_end ?_
    refine x_tn ?_
    refine x_ret ?_
    refine x_res1 F rfl (rv_t F rfl) ?_
    obtain rfl := Option.some.inj hR
    exact ⟨_, rfl, hB, v20, rb21, rfl, h22⟩

def slices_Clone_s_PairStep_PairStep (x0 : List PairStep) : Option (List PairStep) :=
  bnd (ap ([]) x0) fun z18 =>
  some z18
set_option maxHeartbeats 1000000 in
theorem slices_Clone_s_PairStep_PairStep_c {x0 : List PairStep} (r : (List PairStep)) (hR : slices_Clone_s_PairStep_PairStep x0 = some r) {v0 : Value} {b0 : List Nat} (w0 : World) (A0 : Rd (Sl 3 RPairStep) w0 v0 x0 b0) : Calls Try.prog 149 #[v0] w0 (Gives (fun v w' => ∃ (v1' : Value) (rb2' : List Nat), v = v1' ∧ Row 3 RPairStep 136 w0.heap.size w' v1' r rb2' []) w0) := by
  unfold slices_Clone_s_PairStep_PairStep at hR
  refine x_enter (L := [(0, v0)]) Try.func149 rfl rfl rfl (sc rfl sn) (fun a F => ?_)
  have hB := Below.refl w0.heap.size w0
  refine x_seq ?_
  refine x_reg ?_
  refine o_assign F rfl rfl (fun a F => ?_)
  refine x_end ?_
  refine x_tn ?_
  refine x_seq ?_
  refine x_seq ?_
  refine x_reg ?_
  refine o_move F rfl rfl (fun a F => ?_)
  refine o_eqlnilG Try.underlying71 F rfl rfl rfl (A0.go hB) (fun a nb11 hn12 F => ?_)
  refine x_end ?_
  refine x_tn ?_
  refine x_if F rfl (fun hb13 => ?_) (fun hb13 => ?_)
  · replace hR : some ([]) = some r := by rw [hn12 hb13] at hR; exact hR
    refine x_seq ?_
    refine x_reg ?_
    refine o_assign F rfl rfl (fun a F => ?_)
    refine x_end ?_
    refine x_tn ?_
    refine x_ret ?_
    refine x_tr ?_
    refine x_res1 F rfl (rv_t F rfl) ?_
    obtain rfl := Option.some.inj hR
    exact ⟨_, rfl, hB, (.slice none 0 0), [], rfl, Row.nil 3 RPairStep 136 _ _⟩
  · refine x_skip ?_
    refine x_tn ?_
    refine x_seq ?_
    refine x_reg ?_
    refine o_lit0 (R := RPairStep) Try.underlying71 Try.sizeOf136 F rfl (fun a w v14 rb15 h16 l F => ?_)
    replace h16 := h16.base hB.size
    replace hB := Below.through l hB
    refine o_move F rfl rfl (fun a F => ?_)
    obtain ⟨z18, c19, hR⟩ := bnd_some hR
    obtain ⟨ib23, sr24, sn25⟩ := Rd.src (by decide) (A0.go hB)
    refine o_append (sz := 3) (R := RPairStep) (z := (.agg #[.int .i64 0, .int .i64 0, .int .i64 0])) (bytes := 24) Try.underlying71 (by kernel_rfl) rfl (by decide) (by decide) (by decide) F rfl rfl rfl h16 sr24 hB.size (Dj.symm (Dj.sub (Dj.new A0.m h16.ownR (Nat.le_refl _)) sn25)) c19 (fun a w v20 rb21 h22 l keep F => ?_)
    obtain rfl : ib23 = [] := src_flat sr24 (fun w f x bs h => by first | exact h.2.2 | exact h.2 | exact h.2.2.2.2 | exact h.2.2.2.2.2.2 | exact h.2.2.2.2.2.2.2.2)
    replace h22 := row_nil2 h22
    replace hB := hB.o l h16.lo hB.size
    refine o_assign F rfl rfl (fun a F => ?_)
    refine x_end ?_
    refine x_tn ?_
    refine x_ret ?_
    refine x_res1 F rfl (rv_t F rfl) ?_
    obtain rfl := Option.some.inj hR
    exact ⟨_, rfl, hB, v20, rb21, rfl, h22⟩

def impl_ownVerdict (x0 : Verdict) : Option Verdict :=
  bnd (slices_Clone_s_int64_int64 x0.values) fun z39 =>
  bnd (slices_Clone_s_ArcStep_ArcStep x0.arcs) fun z51 =>
  bnd (slices_Clone_s_PairStep_PairStep x0.pairs) fun z64 =>
  bnd (slices_Clone_s_int64_int64 x0.numbers) fun z78 =>
  some ((Verdict.mk x0.kind z39 z51 z64 z78))
set_option maxHeartbeats 1000000 in
theorem impl_ownVerdict_c {x0 : Verdict} (r : Verdict) (hR : impl_ownVerdict x0 = some r) {v0 : Value} {b0 : List Nat} (w0 : World) (A0 : Rd (Agg 5 RVerdict) w0 v0 x0 b0) : Calls Try.prog 91 #[v0] w0 (Gives (fun v w' => ∃ (v1' : Value) (rb2' : List Nat) (v4' : Value) (rb5' : List Nat) (v7' : Value) (rb8' : List Nat) (v10' : Value) (rb11' : List Nat), v = .agg #[.int .i64 r.kind, v1', v4', v7', v10'] ∧ I64 r.kind ∧ Row 1 RInt 2 w0.heap.size w' v1' r.values rb2' [] ∧ Row 3 RArcStep 133 w0.heap.size w' v4' r.arcs rb5' [] ∧ Row 3 RPairStep 136 w0.heap.size w' v7' r.pairs rb8' [] ∧ Row 1 RInt 2 w0.heap.size w' v10' r.numbers rb11' [] ∧ Dj (rb2' ++ []) (rb5' ++ []) ∧ Dj (rb2' ++ []) (rb8' ++ []) ∧ Dj (rb2' ++ []) (rb11' ++ []) ∧ Dj (rb5' ++ []) (rb8' ++ []) ∧ Dj (rb5' ++ []) (rb11' ++ []) ∧ Dj (rb8' ++ []) (rb11' ++ [])) w0) := by
  unfold impl_ownVerdict at hR
  refine x_enter (L := [(0, v0)]) Try.func91 rfl rfl rfl (sc rfl sn) (fun a F => ?_)
  have hB := Below.refl w0.heap.size w0
  refine x_seq ?_
  refine x_reg ?_
  obtain ⟨v15, v18, v21, v24, b16, b19, b22, b25, e27, i14, h17, h20, h23, h26, eb13⟩ := RVerdict.rd (A0.go hB)
  subst e27
  refine o_box F rfl rfl rfl (fun a w b11 K12 l BK12 F => ?_)
  have d28 := (dj1 h17.m BK12).symm
  have d29 := (dj1 h20.m BK12).symm
  have d30 := (dj1 h23.m BK12).symm
  have d31 := (dj1 h26.m BK12).symm
  have CK12 := Nat.le_trans hB.size BK12
  replace hB := Below.through l hB
  replace h17 := h17.go l
  replace h20 := h20.go l
  replace h23 := h23.go l
  replace h26 := h26.go l
  refine o_alloc Try.zeroValue73 F rfl rfl (fun a w b32 K33 l BK33 F => ?_)
  have nb34 := Dj.bb K12 BK33
  have d35 := (dj1 h17.m BK33).symm
  have d36 := (dj1 h20.m BK33).symm
  have d37 := (dj1 h23.m BK33).symm
  have d38 := (dj1 h26.m BK33).symm
  have CK33 := Nat.le_trans hB.size BK33
  replace hB := Below.through l hB
  replace h17 := h17.go l
  replace h20 := h20.go l
  replace h23 := h23.go l
  replace h26 := h26.go l
  replace K12 := K12.thru l
  refine x_end ?_
  refine x_tn ?_
  refine x_seq ?_
  refine x_drawn (by kernel_rfl) (fun w l => ?_)
  replace hB := Below.through l hB
  replace h17 := h17.go l
  replace h20 := h20.go l
  replace h23 := h23.go l
  replace h26 := h26.go l
  replace K12 := K12.thru l
  replace K33 := K33.thru l
  refine b_q 0 rfl (by kernel_rfl) (by kernel_rfl) (by kernel_rfl) (by kernel_rfl) ?_
  refine v_val F rfl (fun w l => r_bfield fa73_0 F rfl rfl) (fun a F => ?_)
  refine b_q 1 rfl (by kernel_rfl) (by kernel_rfl) (by kernel_rfl) (by kernel_rfl) ?_
  refine v_val F rfl (fun w l => r_load1 Try.isAgg2 F rfl (((K12.thru l).cell _).trans rfl)) (fun a F => ?_)
  refine b_q 2 rfl (by kernel_rfl) (by kernel_rfl) (by kernel_rfl) (by kernel_rfl) ?_
  refine v_val F rfl (fun w l => r_bfield fa73_1 F rfl rfl) (fun a F => ?_)
  refine b_q 3 rfl (by kernel_rfl) (by kernel_rfl) (by kernel_rfl) (by kernel_rfl) ?_
  refine v_val F rfl (fun w l => r_load1 Try.isAgg34 F rfl (((K12.thru l).cell _).trans rfl)) (fun a F => ?_)
  refine b_q 5 rfl (by kernel_rfl) (by kernel_rfl) (by kernel_rfl) (by kernel_rfl) ?_
  refine v_val F rfl (fun w l => r_bfield fa73_2 F rfl rfl) (fun a F => ?_)
  refine b_q 6 rfl (by kernel_rfl) (by kernel_rfl) (by kernel_rfl) (by kernel_rfl) ?_
  refine v_val F rfl (fun w l => r_load1 Try.isAgg70 F rfl (((K12.thru l).cell _).trans rfl)) (fun a F => ?_)
  refine b_q 8 rfl (by kernel_rfl) (by kernel_rfl) (by kernel_rfl) (by kernel_rfl) ?_
  refine v_val F rfl (fun w l => r_bfield fa73_3 F rfl rfl) (fun a F => ?_)
  refine b_q 9 rfl (by kernel_rfl) (by kernel_rfl) (by kernel_rfl) (by kernel_rfl) ?_
  refine v_val F rfl (fun w l => r_load1 Try.isAgg71 F rfl (((K12.thru l).cell _).trans rfl)) (fun a F => ?_)
  refine b_q 11 rfl (by kernel_rfl) (by kernel_rfl) (by kernel_rfl) (by kernel_rfl) ?_
  refine v_val F rfl (fun w l => r_bfield fa73_4 F rfl rfl) (fun a F => ?_)
  refine b_q 12 rfl (by kernel_rfl) (by kernel_rfl) (by kernel_rfl) (by kernel_rfl) ?_
  refine v_val F rfl (fun w l => r_load1 Try.isAgg34 F rfl (((K12.thru l).cell _).trans rfl)) (fun a F => ?_)
  refine b_e 4 rfl (by kernel_rfl) ?_
  obtain ⟨z39, c40, hR⟩ := bnd_some hR
  refine o_gives F rfl Try.call147 rfl (slices_Clone_s_int64_int64_c z39 c40 _ h17) (fun a vv w l ⟨v41, rb42, hv45, h44⟩ F => ?_)
  subst vv
  have d47 := Dj.new h20.m h44.ownR (Nat.le_refl _)
  have d48 := Dj.new h23.m h44.ownR (Nat.le_refl _)
  have d49 := Dj.new h26.m h44.ownR (Nat.le_refl _)
  have d50 := Dj.new (inm1 K33) h44.ownR (Nat.le_refl _)
  replace h44 := h44.base hB.size
  replace hB := Below.through l hB
  replace h20 := h20.go l
  replace h23 := h23.go l
  replace h26 := h26.go l
  replace K33 := K33.thru l
  refine x_end ?_
  refine x_tn ?_
  refine ⟨.inl l, ?_⟩
  refine b_e 7 rfl (by kernel_rfl) ?_
  obtain ⟨z51, c52, hR⟩ := bnd_some hR
  refine o_gives F rfl Try.call148 rfl (slices_Clone_s_ArcStep_ArcStep_c z51 c52 _ h20) (fun a vv w l ⟨v53, rb54, hv57, h56⟩ F => ?_)
  subst vv
  have d59 := Dj.new h23.m h56.ownR (Nat.le_refl _)
  have d60 := Dj.new h26.m h56.ownR (Nat.le_refl _)
  have d61 := Dj.new h44.rd.m h56.ownR (Nat.le_refl _)
  have d62 := Dj.new (inm1 K33) h56.ownR (Nat.le_refl _)
  have d63 := Dj.app' (Dj.new h44.memR h56.ownR (Nat.le_refl _)).symm (Dj.nil' _)
  replace h56 := h56.base hB.size
  replace hB := Below.through l hB
  replace h23 := h23.go l
  replace h26 := h26.go l
  replace h44 := h44.go l
  replace K33 := K33.thru l
  refine x_end ?_
  refine x_tn ?_
  refine ⟨.inl l, ?_⟩
  refine b_e 10 rfl (by kernel_rfl) ?_
  obtain ⟨z64, c65, hR⟩ := bnd_some hR
  refine o_gives F rfl Try.call149 rfl (slices_Clone_s_PairStep_PairStep_c z64 c65 _ h23) (fun a vv w l ⟨v66, rb67, hv70, h69⟩ F => ?_)
  subst vv
  have d72 := Dj.new h26.m h69.ownR (Nat.le_refl _)
  have d73 := Dj.new h44.rd.m h69.ownR (Nat.le_refl _)
  have d74 := Dj.new h56.rd.m h69.ownR (Nat.le_refl _)
  have d75 := Dj.new (inm1 K33) h69.ownR (Nat.le_refl _)
  have d76 := Dj.app' (Dj.new h44.memR h69.ownR (Nat.le_refl _)).symm (Dj.nil' _)
  have d77 := Dj.app' (Dj.new h56.memR h69.ownR (Nat.le_refl _)).symm (Dj.nil' _)
  replace h69 := h69.base hB.size
  replace hB := Below.through l hB
  replace h26 := h26.go l
  replace h44 := h44.go l
  replace h56 := h56.go l
  replace K33 := K33.thru l
  refine x_end ?_
  refine x_tn ?_
  refine ⟨.inl l, ?_⟩
  refine b_e 13 rfl (by kernel_rfl) ?_
  obtain ⟨z78, c79, hR⟩ := bnd_some hR
  refine o_gives F rfl Try.call147 rfl (slices_Clone_s_int64_int64_c z78 c79 _ h26) (fun a vv w l ⟨v80, rb81, hv84, h83⟩ F => ?_)
  subst vv
  have d86 := Dj.new h44.rd.m h83.ownR (Nat.le_refl _)
  have d87 := Dj.new h56.rd.m h83.ownR (Nat.le_refl _)
  have d88 := Dj.new h69.rd.m h83.ownR (Nat.le_refl _)
  have d89 := Dj.new (inm1 K33) h83.ownR (Nat.le_refl _)
  have d90 := Dj.app' (Dj.new h44.memR h83.ownR (Nat.le_refl _)).symm (Dj.nil' _)
  have d91 := Dj.app' (Dj.new h56.memR h83.ownR (Nat.le_refl _)).symm (Dj.nil' _)
  have d92 := Dj.app' (Dj.new h69.memR h83.ownR (Nat.le_refl _)).symm (Dj.nil' _)
  replace h83 := h83.base hB.size
  replace hB := Below.through l hB
  replace h44 := h44.go l
  replace h56 := h56.go l
  replace h69 := h69.go l
  replace K33 := K33.thru l
  refine x_end ?_
  refine x_tn ?_
  refine ⟨.inl l, ?_⟩
  refine b_q 14 rfl (by kernel_rfl) (by kernel_rfl) (by kernel_rfl) (by kernel_rfl) ?_
  refine v_val F rfl (fun w l => r_build Try.underlying73 Try.zeroValue73 (fun w => by simp [Try.sizeOf2, Try.sizeOf34, Try.sizeOf70, Try.sizeOf71]; rfl) F rfl rfl rfl rfl (oc rfl (oc (h44.rd).r.one (oc (h56.rd).r.one (oc (h69.rd).r.one (oc (h83.rd).r.one on))))) rfl rfl) (fun a F => ?_)
  have h93 := RVerdict.mk2 (w := w) i14 h44.rd h56.rd h69.rd h83.rd
  refine b_e 15 rfl (by kernel_rfl) ?_
  refine o_bstoreA (vs := [.int .i64 x0.kind, v41, v53, v66, v80]) Try.sizeOf73 F rfl rfl rfl K33 (oc rfl (oc (h44.rd).r.one (oc (h56.rd).r.one (oc (h69.rd).r.one (oc (h83.rd).r.one on))))) (Nat.le_of_ble_eq_true rfl) rfl (fun w K33 l => ?_)
  replace hB := hB.o l (fun c hc => by rw [List.mem_singleton] at hc; rw [hc]; exact CK33) hB.size
  replace h44 := h44.goO l (Dj.app' (Dj.symm d50) (Dj.nil' _))
  replace h56 := h56.goO l (Dj.app' (Dj.symm d62) (Dj.nil' _))
  replace h69 := h69.goO l (Dj.app' (Dj.symm d75) (Dj.nil' _))
  replace h83 := h83.goO l (Dj.app' (Dj.symm d89) (Dj.nil' _))
  refine x_end ?_
  refine x_tn ?_
  refine ⟨.inr (by kernel_rfl), ?_⟩
  refine b_end (by kernel_rfl) ?_
  refine x_tn ?_
  refine x_ret ?_
  refine x_res1 F rfl (rv_cA (arr := #[.int .i64 x0.kind, v41, v53, v66, v80]) F Try.isAgg73 Try.sizeOf73 rfl K33) ?_
  obtain rfl := Option.some.inj hR
  exact ⟨_, rfl, hB, v41, rb42, v53, rb54, v66, rb67, v80, rb81, rfl, i14, h44, h56, h69, h83, (Dj.app d61 (Dj.nil _)), (Dj.app d73 (Dj.nil _)), (Dj.app d86 (Dj.nil _)), (Dj.app d74 (Dj.nil _)), (Dj.app d87 (Dj.nil _)), (Dj.app d88 (Dj.nil _))⟩

def impl_spoiltValue (x0 : Int) : Option Int :=
  if (decide (1 < x0)) then
    some 0
  else
    some ((IntKind.i64.wrap (1 - x0)))
set_option maxHeartbeats 1000000 in
theorem impl_spoiltValue_c {x0 : Int} (r : Int) (hR : impl_spoiltValue x0 = some r)  (w0 : World) (hx0 : I64 x0) : Calls Try.prog 92 #[.int .i64 x0] w0 (SaysI r w0) := by
  unfold impl_spoiltValue at hR
  refine x_enter (L := [(0, .int .i64 x0)]) Try.func92 rfl rfl rfl (sc rfl sn) (fun a F => ?_)
  have hB := Below.refl w0.heap.size w0
  refine x_seq ?_
  refine x_reg ?_
  refine o_assign F rfl rfl (fun a F => ?_)
  refine x_end ?_
  refine x_tn ?_
  refine x_seq ?_
  refine x_seq ?_
  refine x_reg ?_
  refine o_move F rfl rfl (fun a F => ?_)
  refine o_gtr F rfl rfl rfl (fun a F => ?_)
  refine x_end ?_
  refine x_tn ?_
  refine x_if F rfl (fun hb11 => ?_) (fun hb11 => ?_)
  · replace hR := ifT hb11 hR
    refine x_seq ?_
    refine x_reg ?_
    refine o_assign F rfl rfl (fun a F => ?_)
    refine x_end ?_
    refine x_tn ?_
    refine x_ret ?_
    refine x_tr ?_
    refine x_res1 F rfl (rv_t F rfl) ?_
    obtain rfl := Option.some.inj hR
    exact ⟨⟨rfl, hB⟩, (show I64 (0) by decide)⟩
  · replace hR := ifF hb11 hR
    refine x_skip ?_
    refine x_tn ?_
    refine x_seq ?_
    refine x_reg ?_
    refine o_move F rfl rfl (fun a F => ?_)
    refine o_subW F rfl rfl rfl (fun a F => ?_)
    refine o_assign F rfl rfl (fun a F => ?_)
    refine x_end ?_
    refine x_tn ?_
    refine x_ret ?_
    refine x_res1 F rfl (rv_t F rfl) ?_
    obtain rfl := Option.some.inj hR
    exact ⟨⟨rfl, hB⟩, (wr64 _)⟩

def impl_cut_ArcStep (x0 : List ArcStep) : Option (List ArcStep) :=
  bnd (ck ((x0.length : Int) - 1)) fun z12 =>
  bnd (sl x0 0 (if 0 < z12 then z12 else 0)) fun z14 =>
  bnd (slices_Clone_s_ArcStep_ArcStep z14) fun z20 =>
  some z20
set_option maxHeartbeats 1000000 in
theorem impl_cut_ArcStep_c {x0 : List ArcStep} (r : (List ArcStep)) (hR : impl_cut_ArcStep x0 = some r) {v0 : Value} {b0 : List Nat} (w0 : World) (A0 : Rd (Sl 3 RArcStep) w0 v0 x0 b0) : Calls Try.prog 93 #[v0] w0 (Gives (fun v w' => ∃ (v1' : Value) (rb2' : List Nat), v = v1' ∧ Row 3 RArcStep 133 w0.heap.size w' v1' r rb2' []) w0) := by
  unfold impl_cut_ArcStep at hR
  refine x_enter (L := [(0, v0)]) Try.func93 rfl rfl rfl (sc rfl sn) (fun a F => ?_)
  have hB := Below.refl w0.heap.size w0
  refine x_seq ?_
  refine x_reg ?_
  refine o_assign F rfl rfl (fun a F => ?_)
  refine x_end ?_
  refine x_tn ?_
  refine x_seq ?_
  refine x_reg ?_
  refine o_move F rfl rfl (fun a F => ?_)
  refine o_move F rfl rfl (fun a F => ?_)
  refine o_len Try.underlying70 F rfl rfl (A0.go hB) (fun a F => ?_)
  have i11 := ((A0.go hB)).r.len64
  obtain ⟨z12, c13, hR⟩ := bnd_some hR
  refine o_sub F rfl rfl rfl c13 (fun a F => ?_)
  refine o_max F rfl rfl rfl (fun a F => ?_)
  obtain ⟨z14, c15, hR⟩ := bnd_some hR
  refine o_sliceh Try.underlying70 Try.sizeOf133 F rfl rfl rfl (A0.go hB) c15 (fun a v16 b17 h18 s19 F => ?_)
  obtain ⟨z20, c21, hR⟩ := bnd_some hR
  refine o_gives F rfl Try.call148 rfl (slices_Clone_s_ArcStep_ArcStep_c z20 c21 _ h18) (fun a vv w l ⟨v22, rb23, hv26, h25⟩ F => ?_)
  subst vv
  replace h25 := h25.base hB.size
  replace hB := Below.through l hB
  refine o_assign F rfl rfl (fun a F => ?_)
  refine x_end ?_
  refine x_tn ?_
  refine x_ret ?_
  refine x_res1 F rfl (rv_t F rfl) ?_
  obtain rfl := Option.some.inj hR
  exact ⟨_, rfl, hB, v22, rb23, rfl, h25⟩

def impl_cut_PairStep (x0 : List PairStep) : Option (List PairStep) :=
  bnd (ck ((x0.length : Int) - 1)) fun z12 =>
  bnd (sl x0 0 (if 0 < z12 then z12 else 0)) fun z14 =>
  bnd (slices_Clone_s_PairStep_PairStep z14) fun z20 =>
  some z20
set_option maxHeartbeats 1000000 in
theorem impl_cut_PairStep_c {x0 : List PairStep} (r : (List PairStep)) (hR : impl_cut_PairStep x0 = some r) {v0 : Value} {b0 : List Nat} (w0 : World) (A0 : Rd (Sl 3 RPairStep) w0 v0 x0 b0) : Calls Try.prog 94 #[v0] w0 (Gives (fun v w' => ∃ (v1' : Value) (rb2' : List Nat), v = v1' ∧ Row 3 RPairStep 136 w0.heap.size w' v1' r rb2' []) w0) := by
  unfold impl_cut_PairStep at hR
  refine x_enter (L := [(0, v0)]) Try.func94 rfl rfl rfl (sc rfl sn) (fun a F => ?_)
  have hB := Below.refl w0.heap.size w0
  refine x_seq ?_
  refine x_reg ?_
  refine o_assign F rfl rfl (fun a F => ?_)
  refine x_end ?_
  refine x_tn ?_
  refine x_seq ?_
  refine x_reg ?_
  refine o_move F rfl rfl (fun a F => ?_)
  refine o_move F rfl rfl (fun a F => ?_)
  refine o_len Try.underlying71 F rfl rfl (A0.go hB) (fun a F => ?_)
  have i11 := ((A0.go hB)).r.len64
  obtain ⟨z12, c13, hR⟩ := bnd_some hR
  refine o_sub F rfl rfl rfl c13 (fun a F => ?_)
  refine o_max F rfl rfl rfl (fun a F => ?_)
  obtain ⟨z14, c15, hR⟩ := bnd_some hR
  refine o_sliceh Try.underlying71 Try.sizeOf136 F rfl rfl rfl (A0.go hB) c15 (fun a v16 b17 h18 s19 F => ?_)
  obtain ⟨z20, c21, hR⟩ := bnd_some hR
  refine o_gives F rfl Try.call149 rfl (slices_Clone_s_PairStep_PairStep_c z20 c21 _ h18) (fun a vv w l ⟨v22, rb23, hv26, h25⟩ F => ?_)
  subst vv
  replace h25 := h25.base hB.size
  replace hB := Below.through l hB
  refine o_assign F rfl rfl (fun a F => ?_)
  refine x_end ?_
  refine x_tn ?_
  refine x_ret ?_
  refine x_res1 F rfl (rv_t F rfl) ?_
  obtain rfl := Option.some.inj hR
  exact ⟨_, rfl, hB, v22, rb23, rfl, h25⟩

def impl_cut_int64 (x0 : List Int) : Option (List Int) :=
  bnd (ck ((x0.length : Int) - 1)) fun z12 =>
  bnd (sl x0 0 (if 0 < z12 then z12 else 0)) fun z14 =>
  bnd (slices_Clone_s_int64_int64 z14) fun z20 =>
  some z20
set_option maxHeartbeats 1000000 in
theorem impl_cut_int64_c {x0 : List Int} (r : (List Int)) (hR : impl_cut_int64 x0 = some r) {v0 : Value} {b0 : List Nat} (w0 : World) (A0 : Rd (Sl 1 RInt) w0 v0 x0 b0) : Calls Try.prog 95 #[v0] w0 (Gives (fun v w' => ∃ (v1' : Value) (rb2' : List Nat), v = v1' ∧ Row 1 RInt 2 w0.heap.size w' v1' r rb2' []) w0) := by
  unfold impl_cut_int64 at hR
  refine x_enter (L := [(0, v0)]) Try.func95 rfl rfl rfl (sc rfl sn) (fun a F => ?_)
  have hB := Below.refl w0.heap.size w0
  refine x_seq ?_
  refine x_reg ?_
  refine o_assign F rfl rfl (fun a F => ?_)
  refine x_end ?_
  refine x_tn ?_
  refine x_seq ?_
  refine x_reg ?_
  refine o_move F rfl rfl (fun a F => ?_)
  refine o_move F rfl rfl (fun a F => ?_)
  refine o_len Try.underlying34 F rfl rfl (A0.go hB) (fun a F => ?_)
  have i11 := ((A0.go hB)).r.len64
  obtain ⟨z12, c13, hR⟩ := bnd_some hR
  refine o_sub F rfl rfl rfl c13 (fun a F => ?_)
  refine o_max F rfl rfl rfl (fun a F => ?_)
  obtain ⟨z14, c15, hR⟩ := bnd_some hR
  refine o_sliceh Try.underlying34 Try.sizeOf2 F rfl rfl rfl (A0.go hB) c15 (fun a v16 b17 h18 s19 F => ?_)
  obtain ⟨z20, c21, hR⟩ := bnd_some hR
  refine o_gives F rfl Try.call147 rfl (slices_Clone_s_int64_int64_c z20 c21 _ h18) (fun a vv w l ⟨v22, rb23, hv26, h25⟩ F => ?_)
  subst vv
  replace h25 := h25.base hB.size
  replace hB := Below.through l hB
  refine o_assign F rfl rfl (fun a F => ?_)
  refine x_end ?_
  refine x_tn ?_
  refine x_ret ?_
  refine x_res1 F rfl (rv_t F rfl) ?_
  obtain rfl := Option.some.inj hR
  exact ⟨_, rfl, hB, v22, rb23, rfl, h25⟩

def impl_SpoiltVerdict (x0 : Verdict) : Option Verdict :=
  bnd (impl_ownVerdict (Verdict.mk x0.kind x0.values x0.arcs x0.pairs x0.numbers)) fun z40 =>
  if (x0.kind == 0) then
    thn (σ := (List Int)) (
      if (decide (0 < (z40.values.length : Int))) then
        bnd (ix z40.values 0) fun z155 =>
        bnd (impl_spoiltValue z155) fun z162 =>
        some (.nx (z40.values.set (0 : Int).toNat z162))
      else
        some (.nx z40.values)) fun s141 =>
    some ((Verdict.mk z40.kind s141 z40.arcs z40.pairs z40.numbers))
  else
    bnd (impl_cut_ArcStep x0.arcs) fun z179 =>
    bnd (impl_cut_PairStep x0.pairs) fun z199 =>
    bnd (impl_cut_int64 x0.numbers) fun z220 =>
    some ((Verdict.mk z40.kind z40.values z179 z199 z220))
set_option maxHeartbeats 1000000 in
theorem impl_SpoiltVerdict_c {x0 : Verdict} (r : Verdict) (hR : impl_SpoiltVerdict x0 = some r) {v0 : Value} {b0 : List Nat} (w0 : World) (A0 : Rd (Agg 5 RVerdict) w0 v0 x0 b0) : Calls Try.prog 40 #[v0] w0 (Gives (fun v w' => ∃ (v1' : Value) (rb2' : List Nat) (v4' : Value) (rb5' : List Nat) (v7' : Value) (rb8' : List Nat) (v10' : Value) (rb11' : List Nat), v = .agg #[.int .i64 r.kind, v1', v4', v7', v10'] ∧ I64 r.kind ∧ Row 1 RInt 2 w0.heap.size w' v1' r.values rb2' [] ∧ Row 3 RArcStep 133 w0.heap.size w' v4' r.arcs rb5' [] ∧ Row 3 RPairStep 136 w0.heap.size w' v7' r.pairs rb8' [] ∧ Row 1 RInt 2 w0.heap.size w' v10' r.numbers rb11' [] ∧ Dj (rb2' ++ []) (rb5' ++ []) ∧ Dj (rb2' ++ []) (rb8' ++ []) ∧ Dj (rb2' ++ []) (rb11' ++ []) ∧ Dj (rb5' ++ []) (rb8' ++ []) ∧ Dj (rb5' ++ []) (rb11' ++ []) ∧ Dj (rb8' ++ []) (rb11' ++ [])) w0) := by
  unfold impl_SpoiltVerdict at hR
  refine x_enter (L := [(0, v0)]) Try.func40 rfl rfl rfl (sc rfl sn) (fun a F => ?_)
  have hB := Below.refl w0.heap.size w0
  refine x_seq ?_
  refine x_reg ?_
  obtain ⟨v15, v18, v21, v24, b16, b19, b22, b25, e27, i14, h17, h20, h23, h26, eb13⟩ := RVerdict.rd (A0.go hB)
  subst e27
  refine o_box F rfl rfl rfl (fun a w b11 K12 l BK12 F => ?_)
  have d28 := (dj1 h17.m BK12).symm
  have d29 := (dj1 h20.m BK12).symm
  have d30 := (dj1 h23.m BK12).symm
  have d31 := (dj1 h26.m BK12).symm
  have CK12 := Nat.le_trans hB.size BK12
  replace hB := Below.through l hB
  replace h17 := h17.go l
  replace h20 := h20.go l
  replace h23 := h23.go l
  replace h26 := h26.go l
  refine o_alloc Try.zeroValue73 F rfl rfl (fun a w b32 K33 l BK33 F => ?_)
  have nb34 := Dj.bb K12 BK33
  have d35 := (dj1 h17.m BK33).symm
  have d36 := (dj1 h20.m BK33).symm
  have d37 := (dj1 h23.m BK33).symm
  have d38 := (dj1 h26.m BK33).symm
  have CK33 := Nat.le_trans hB.size BK33
  replace hB := Below.through l hB
  replace h17 := h17.go l
  replace h20 := h20.go l
  replace h23 := h23.go l
  replace h26 := h26.go l
  replace K12 := K12.thru l
  refine x_end ?_
  refine x_tn ?_
  refine x_seq ?_
  refine x_reg ?_
  refine o_bloadA (cs := [.int .i64 x0.kind, v15, v18, v21, v24]) Try.isAgg73 Try.sizeOf73 F rfl rfl K12 rfl (fun j hj => by match j, hj with | 0, _ => rfl | 1, _ => rfl | 2, _ => rfl | 3, _ => rfl | 4, _ => rfl) (fun a F => ?_)
  have h39 := RVerdict.mk2 (w := w) i14 h17 h20 h23 h26
  obtain ⟨z40, c41, hR⟩ := bnd_some hR
  refine o_gives F rfl Try.call91 rfl (impl_ownVerdict_c z40 c41 _ h39) (fun a vv w l ⟨v43, rb44, v47, rb48, v51, rb52, v55, rb56, hv59, i42, h46, h50, h54, h58, dj60, dj61, dj62, dj63, dj64, dj65⟩ F => ?_)
  subst vv
  have d67 := Dj.new h17.m h46.ownR (Nat.le_refl _)
  have d68 := Dj.new h20.m h46.ownR (Nat.le_refl _)
  have d69 := Dj.new h23.m h46.ownR (Nat.le_refl _)
  have d70 := Dj.new h26.m h46.ownR (Nat.le_refl _)
  have d71 := Dj.new (inm1 K12) h46.ownR (Nat.le_refl _)
  have d72 := Dj.new (inm1 K33) h46.ownR (Nat.le_refl _)
  replace h46 := h46.base hB.size
  have d74 := Dj.new h17.m h50.ownR (Nat.le_refl _)
  have d75 := Dj.new h20.m h50.ownR (Nat.le_refl _)
  have d76 := Dj.new h23.m h50.ownR (Nat.le_refl _)
  have d77 := Dj.new h26.m h50.ownR (Nat.le_refl _)
  have d78 := Dj.new (inm1 K12) h50.ownR (Nat.le_refl _)
  have d79 := Dj.new (inm1 K33) h50.ownR (Nat.le_refl _)
  replace h50 := h50.base hB.size
  have d81 := Dj.new h17.m h54.ownR (Nat.le_refl _)
  have d82 := Dj.new h20.m h54.ownR (Nat.le_refl _)
  have d83 := Dj.new h23.m h54.ownR (Nat.le_refl _)
  have d84 := Dj.new h26.m h54.ownR (Nat.le_refl _)
  have d85 := Dj.new (inm1 K12) h54.ownR (Nat.le_refl _)
  have d86 := Dj.new (inm1 K33) h54.ownR (Nat.le_refl _)
  replace h54 := h54.base hB.size
  have d88 := Dj.new h17.m h58.ownR (Nat.le_refl _)
  have d89 := Dj.new h20.m h58.ownR (Nat.le_refl _)
  have d90 := Dj.new h23.m h58.ownR (Nat.le_refl _)
  have d91 := Dj.new h26.m h58.ownR (Nat.le_refl _)
  have d92 := Dj.new (inm1 K12) h58.ownR (Nat.le_refl _)
  have d93 := Dj.new (inm1 K33) h58.ownR (Nat.le_refl _)
  replace h58 := h58.base hB.size
  replace hB := Below.through l hB
  replace h17 := h17.go l
  replace h20 := h20.go l
  replace h23 := h23.go l
  replace h26 := h26.go l
  replace K12 := K12.thru l
  replace K33 := K33.thru l
  have h94 := RVerdict.mk2 (w := w) i42 h46.rd h50.rd h54.rd h58.rd
  refine o_alloc Try.zeroValue73 F rfl rfl (fun a w b95 K96 l BK96 F => ?_)
  have d97 := dj1 h58.memR BK96
  have d98 := dj1 h46.memR BK96
  have d99 := dj1 h50.memR BK96
  have d100 := dj1 h54.memR BK96
  have nb101 := Dj.bb K12 BK96
  have nb102 := Dj.bb K33 BK96
  have d103 := (dj1 h17.m BK96).symm
  have d104 := (dj1 h20.m BK96).symm
  have d105 := (dj1 h23.m BK96).symm
  have d106 := (dj1 h26.m BK96).symm
  have d107 := (dj1 h94.m BK96).symm
  have d108 := (dj1 h58.rd.m BK96).symm
  have d109 := (dj1 h46.rd.m BK96).symm
  have d110 := (dj1 h50.rd.m BK96).symm
  have d111 := (dj1 h54.rd.m BK96).symm
  have CK96 := Nat.le_trans hB.size BK96
  replace hB := Below.through l hB
  replace h17 := h17.go l
  replace h20 := h20.go l
  replace h23 := h23.go l
  replace h26 := h26.go l
  replace h58 := h58.go l
  replace h46 := h46.go l
  replace h50 := h50.go l
  replace h54 := h54.go l
  replace h94 := h94.go l
  replace K12 := K12.thru l
  replace K33 := K33.thru l
  refine o_bstoreA (vs := [.int .i64 z40.kind, v43, v47, v51, v55]) Try.sizeOf73 F rfl rfl rfl K96 (oc rfl (oc (h46.rd).r.one (oc (h50.rd).r.one (oc (h54.rd).r.one (oc (h58.rd).r.one on))))) (Nat.le_of_ble_eq_true rfl) rfl (fun w K96 l => ?_)
  replace hB := hB.o l (fun c hc => by rw [List.mem_singleton] at hc; rw [hc]; exact CK96) hB.size
  replace h17 := h17.goO l d103
  replace h20 := h20.goO l d104
  replace h23 := h23.goO l d105
  replace h26 := h26.goO l d106
  replace h58 := h58.goO l d108
  replace h46 := h46.goO l d109
  replace h50 := h50.goO l d110
  replace h54 := h54.goO l d111
  replace K12 := K12.only l (by simpa using nb101)
  replace K33 := K33.only l (by simpa using nb102)
  refine x_end ?_
  refine x_tn ?_
  refine x_seq ?_
  refine x_seq ?_
  refine x_reg ?_
  refine o_bfield fa73_0 F rfl rfl rfl (fun a F => ?_)
  refine o_bload Try.isAgg2 F rfl rfl K12 rfl (fun a F => ?_)
  refine o_eql F rfl rfl rfl (fun a F => ?_)
  refine x_end ?_
  refine x_tn ?_
  refine x_if F rfl (fun hb112 => ?_) (fun hb112 => ?_)
  · replace hR := ifT hb112 hR
    refine x_seq ?_
    refine x_seq ?_
    refine x_reg ?_
    refine o_bfield fa73_1 F rfl rfl rfl (fun a F => ?_)
    refine o_bload Try.isAgg34 F rfl rfl K96 rfl (fun a F => ?_)
    refine o_len Try.underlying34 F rfl rfl h46.rd (fun a F => ?_)
    have i113 := (h46.rd).r.len64
    refine o_gtr F rfl rfl rfl (fun a F => ?_)
    refine x_end ?_
    refine x_tn ?_
    obtain ⟨o138, hR, hk139⟩ := thn_some hR
    refine x_cutQ (fun a w => ∃ (s141 : List Int) (v143 : Value) (rb144 : List Nat), o138 = .nx s141 ∧ Sk a 35 [(2, .pointer (some ⟨b32, 0, none⟩)), (3, .pointer (some ⟨b95, 0, none⟩))] ∧ Below w0.heap.size w0 w ∧ Row 1 RInt 2 w0.heap.size w v143 s141 rb144 ([]) ∧ Row 1 RInt 2 w0.heap.size w v55 z40.numbers rb56 ([]) ∧ Row 3 RArcStep 133 w0.heap.size w v47 z40.arcs rb48 ([]) ∧ Row 3 RPairStep 136 w0.heap.size w v51 z40.pairs rb52 ([]) ∧ Blk w b32 #[.int .i64 0, (.slice none 0 0), (.slice none 0 0), (.slice none 0 0), (.slice none 0 0)] 73 ∧ Blk w b95 #[.int .i64 z40.kind, v143, v47, v51, v55] 73 ∧ Dj (rb144 ++ []) [b32] ∧ Dj (rb144 ++ []) [b95] ∧ Dj (rb56 ++ []) rb144 ∧ Dj (rb144 ++ []) rb56 ∧ Dj (rb48 ++ []) rb144 ∧ Dj (rb144 ++ []) rb48 ∧ Dj (rb52 ++ []) rb144 ∧ Dj (rb144 ++ []) rb52) ?_ ?_
    · refine x_if F rfl (fun hb154 => ?_) (fun hb154 => ?_)
      · replace hR := ifT hb154 hR
        refine x_drawn (by kernel_rfl) (fun w l => ?_)
        replace hB := Below.through l hB
        replace h58 := h58.go l
        replace h46 := h46.go l
        replace h50 := h50.go l
        replace h54 := h54.go l
        replace K33 := K33.thru l
        replace K96 := K96.thru l
        refine b_q 0 rfl (by kernel_rfl) (by kernel_rfl) (by kernel_rfl) (by kernel_rfl) ?_
        refine v_val F rfl (fun w l => r_bfield fa73_1 F rfl rfl) (fun a F => ?_)
        refine b_q 1 rfl (by kernel_rfl) (by kernel_rfl) (by kernel_rfl) (by kernel_rfl) ?_
        refine v_val F rfl (fun w l => r_load1 Try.isAgg34 F rfl (((K96.thru l).cell _).trans rfl)) (fun a F => ?_)
        refine b_q 2 rfl (by kernel_rfl) (by kernel_rfl) (by kernel_rfl) (by kernel_rfl) ?_
        refine v_val F rfl (fun w l => r_bfield fa73_1 F rfl rfl) (fun a F => ?_)
        refine b_q 3 rfl (by kernel_rfl) (by kernel_rfl) (by kernel_rfl) (by kernel_rfl) ?_
        refine v_val F rfl (fun w l => r_load1 Try.isAgg34 F rfl (((K96.thru l).cell _).trans rfl)) (fun a F => ?_)
        refine b_q 4 rfl (by kernel_rfl) (by kernel_rfl) (by kernel_rfl) (by kernel_rfl) ?_
        obtain ⟨z155, c156, hR⟩ := bnd_some hR
        refine v_index Try.underlying34 Try.sizeOf2 F rfl rfl rfl h46.rd c156 (fun a p157 b158 h159 s160 F => ?_)
        refine b_q 5 rfl (by kernel_rfl) (by kernel_rfl) (by kernel_rfl) (by kernel_rfl) ?_
        have i161 := (h159).i64
        refine v_val F rfl (fun w l => r_loadI Try.isAgg2 F rfl ((h159).go l)) (fun a F => ?_)
        refine b_e 6 rfl (by kernel_rfl) ?_
        obtain ⟨z162, c163, hR⟩ := bnd_some hR
        refine o_saysI F rfl Try.call92 rfl (impl_spoiltValue_c z162 c163 _ i161) (fun a w l iz162 F => ?_)
        replace hB := Below.through l hB
        replace h58 := h58.go l
        replace h46 := h46.go l
        replace h50 := h50.go l
        replace h54 := h54.go l
        replace K33 := K33.thru l
        replace K96 := K96.thru l
        refine x_end ?_
        refine x_tn ?_
        refine ⟨.inl l, ?_⟩
        refine b_e 7 rfl (by kernel_rfl) ?_
        refine o_rindex Try.underlying34 Try.sizeOf2 F rfl rfl rfl h46 c156 (fun a p164 b165 h166 s167 rp168 F => ?_)
        refine x_end ?_
        refine x_tn ?_
        refine ⟨.inl (Below.refl _ _), ?_⟩
        refine b_e 8 rfl (by kernel_rfl) ?_
        refine o_rstore Try.sizeOf2 F rfl rfl rfl h46 rp168 (ix_lt c156) (El.int iz162) rfl (Dj.nil _) (fun w ib170 h169 l s171 keep => ?_)
        obtain rfl : ib170 = [] := sub_nil_nil s171
        have d173 := keep _ (inm1 K33) d72
        have d174 := keep _ h50.rd.m (Dj.symm (Dj.l dj60))
        have d175 := keep _ h54.rd.m (Dj.symm (Dj.l dj61))
        have d176 := keep _ h58.rd.m (Dj.symm (Dj.l dj62))
        have d177 := keep _ (inm1 K96) d98
        replace hB := hB.o l h46.lo hB.size
        replace h58 := h58.goO l (Dj.symm (Dj.l dj62))
        replace h50 := h50.goO l (Dj.symm (Dj.l dj60))
        replace h54 := h54.goO l (Dj.symm (Dj.l dj61))
        replace K33 := K33.only l d72.not
        replace K96 := K96.only l d98.not
        refine x_end ?_
        refine x_tn ?_
        refine ⟨.inr (by kernel_rfl), ?_⟩
        refine b_end (by kernel_rfl) ?_
        refine x_tn ?_
        exact ⟨(z40.values.set (0 : Int).toNat z162), v43, rb44, (Option.some.inj hR).symm, F.sub (sc rfl (sc rfl sn)), hB, h169, h58, h50, h54, K33, K96, (Dj.app' (Dj.symm d173) (Dj.nil' _)), (Dj.app' (Dj.symm d177) (Dj.nil' _)), d176, (Dj.app' (Dj.symm (Dj.l d176)) (Dj.nil' _)), d174, (Dj.app' (Dj.symm (Dj.l d174)) (Dj.nil' _)), d175, (Dj.app' (Dj.symm (Dj.l d175)) (Dj.nil' _))⟩
      · replace hR := ifF hb154 hR
        refine x_skip ?_
        refine x_tn ?_
        exact ⟨z40.values, v43, rb44, (Option.some.inj hR).symm, F.sub (sc rfl (sc rfl sn)), hB, h46, h58, h50, h54, K33, K96, (Dj.app' (Dj.symm d72) (Dj.nil' _)), d109, (Dj.symm (Dj.l dj62)), (Dj.symm (Dj.l (Dj.symm dj62))), (Dj.symm (Dj.l dj60)), (Dj.symm (Dj.l (Dj.symm dj60))), (Dj.symm (Dj.l dj61)), (Dj.symm (Dj.l (Dj.symm dj61)))⟩
    · intro a w ⟨s141, v143, rb144, ho140, F, hB, h145, h58, h50, h54, K33, K96, d146, d147, d148, d149, d150, d151, d152, d153⟩
      subst ho140
      have hR := then_nx hk139
      refine x_tn ?_
      refine x_seq ?_
      refine x_reg ?_
      refine o_bloadA (cs := [.int .i64 z40.kind, v143, v47, v51, v55]) Try.isAgg73 Try.sizeOf73 F rfl rfl K96 rfl (fun j hj => by match j, hj with | 0, _ => rfl | 1, _ => rfl | 2, _ => rfl | 3, _ => rfl | 4, _ => rfl) (fun a F => ?_)
      have h178 := RVerdict.mk2 (w := w) i42 h145.rd h50.rd h54.rd h58.rd
      refine o_bstoreA (vs := [.int .i64 z40.kind, v143, v47, v51, v55]) Try.sizeOf73 F rfl rfl rfl K33 (oc rfl (oc (h145.rd).r.one (oc (h50.rd).r.one (oc (h54.rd).r.one (oc (h58.rd).r.one on))))) (Nat.le_of_ble_eq_true rfl) rfl (fun w K33 l => ?_)
      replace hB := hB.o l (fun c hc => by rw [List.mem_singleton] at hc; rw [hc]; exact CK33) hB.size
      replace h58 := h58.goO l (Dj.app' (Dj.symm d93) (Dj.nil' _))
      replace h50 := h50.goO l (Dj.app' (Dj.symm d79) (Dj.nil' _))
      replace h54 := h54.goO l (Dj.app' (Dj.symm d86) (Dj.nil' _))
      replace h145 := h145.goO l d146
      refine x_end ?_
      refine x_tn ?_
      refine x_ret ?_
      refine x_tr ?_
      refine x_res1 F rfl (rv_cA (arr := #[.int .i64 z40.kind, v143, v47, v51, v55]) F Try.isAgg73 Try.sizeOf73 rfl K33) ?_
      obtain rfl := Option.some.inj hR
      exact ⟨_, rfl, hB, v143, rb144, v47, rb48, v51, rb52, v55, rb56, rfl, i42, h145, h50, h54, h58, (Dj.app d151 (Dj.nil _)), (Dj.app d153 (Dj.nil _)), (Dj.app d149 (Dj.nil _)), (Dj.app (Dj.symm (Dj.l (Dj.symm dj63))) (Dj.nil _)), (Dj.app (Dj.symm (Dj.l (Dj.symm dj64))) (Dj.nil _)), (Dj.app (Dj.symm (Dj.l (Dj.symm dj65))) (Dj.nil _))⟩
  · replace hR := ifF hb112 hR
    refine x_skip ?_
    refine x_tn ?_
    refine x_seq ?_
    refine x_drawn (by kernel_rfl) (fun w l => ?_)
    replace hB := Below.through l hB
    replace h17 := h17.go l
    replace h20 := h20.go l
    replace h23 := h23.go l
    replace h26 := h26.go l
    replace h58 := h58.go l
    replace h46 := h46.go l
    replace h50 := h50.go l
    replace h54 := h54.go l
    replace K12 := K12.thru l
    replace K33 := K33.thru l
    replace K96 := K96.thru l
    refine b_q 0 rfl (by kernel_rfl) (by kernel_rfl) (by kernel_rfl) (by kernel_rfl) ?_
    refine v_val F rfl (fun w l => r_bfield fa73_2 F rfl rfl) (fun a F => ?_)
    refine b_q 1 rfl (by kernel_rfl) (by kernel_rfl) (by kernel_rfl) (by kernel_rfl) ?_
    refine v_val F rfl (fun w l => r_load1 Try.isAgg70 F rfl (((K12.thru l).cell _).trans rfl)) (fun a F => ?_)
    refine b_q 3 rfl (by kernel_rfl) (by kernel_rfl) (by kernel_rfl) (by kernel_rfl) ?_
    refine v_val F rfl (fun w l => r_bfield fa73_3 F rfl rfl) (fun a F => ?_)
    refine b_q 4 rfl (by kernel_rfl) (by kernel_rfl) (by kernel_rfl) (by kernel_rfl) ?_
    refine v_val F rfl (fun w l => r_load1 Try.isAgg71 F rfl (((K12.thru l).cell _).trans rfl)) (fun a F => ?_)
    refine b_q 6 rfl (by kernel_rfl) (by kernel_rfl) (by kernel_rfl) (by kernel_rfl) ?_
    refine v_val F rfl (fun w l => r_bfield fa73_4 F rfl rfl) (fun a F => ?_)
    refine b_q 7 rfl (by kernel_rfl) (by kernel_rfl) (by kernel_rfl) (by kernel_rfl) ?_
    refine v_val F rfl (fun w l => r_load1 Try.isAgg34 F rfl (((K12.thru l).cell _).trans rfl)) (fun a F => ?_)
    refine b_e 2 rfl (by kernel_rfl) ?_
    obtain ⟨z179, c180, hR⟩ := bnd_some hR
    refine o_gives F rfl Try.call93 rfl (impl_cut_ArcStep_c z179 c180 _ h20) (fun a vv w l ⟨v181, rb182, hv185, h184⟩ F => ?_)
    subst vv
    have d187 := Dj.new h23.m h184.ownR (Nat.le_refl _)
    have d188 := Dj.new h26.m h184.ownR (Nat.le_refl _)
    have d189 := Dj.new h58.rd.m h184.ownR (Nat.le_refl _)
    have d190 := Dj.new h46.rd.m h184.ownR (Nat.le_refl _)
    have d191 := Dj.new h50.rd.m h184.ownR (Nat.le_refl _)
    have d192 := Dj.new h54.rd.m h184.ownR (Nat.le_refl _)
    have d193 := Dj.new (inm1 K33) h184.ownR (Nat.le_refl _)
    have d194 := Dj.new (inm1 K96) h184.ownR (Nat.le_refl _)
    have d195 := Dj.app' (Dj.new h58.memR h184.ownR (Nat.le_refl _)).symm (Dj.nil' _)
    have d196 := Dj.app' (Dj.new h46.memR h184.ownR (Nat.le_refl _)).symm (Dj.nil' _)
    have d197 := Dj.app' (Dj.new h50.memR h184.ownR (Nat.le_refl _)).symm (Dj.nil' _)
    have d198 := Dj.app' (Dj.new h54.memR h184.ownR (Nat.le_refl _)).symm (Dj.nil' _)
    replace h184 := h184.base hB.size
    replace hB := Below.through l hB
    replace h23 := h23.go l
    replace h26 := h26.go l
    replace h58 := h58.go l
    replace h46 := h46.go l
    replace h50 := h50.go l
    replace h54 := h54.go l
    replace K33 := K33.thru l
    replace K96 := K96.thru l
    refine x_end ?_
    refine x_tn ?_
    refine ⟨.inl l, ?_⟩
    refine b_q 9 rfl (by kernel_rfl) (by kernel_rfl) (by kernel_rfl) (by kernel_rfl) ?_
    refine v_val F rfl (fun w l => r_bfield fa73_2 F rfl rfl) (fun a F => ?_)
    refine b_e 5 rfl (by kernel_rfl) ?_
    obtain ⟨z199, c200, hR⟩ := bnd_some hR
    refine o_gives F rfl Try.call94 rfl (impl_cut_PairStep_c z199 c200 _ h23) (fun a vv w l ⟨v201, rb202, hv205, h204⟩ F => ?_)
    subst vv
    have d207 := Dj.new h26.m h204.ownR (Nat.le_refl _)
    have d208 := Dj.new h58.rd.m h204.ownR (Nat.le_refl _)
    have d209 := Dj.new h46.rd.m h204.ownR (Nat.le_refl _)
    have d210 := Dj.new h50.rd.m h204.ownR (Nat.le_refl _)
    have d211 := Dj.new h54.rd.m h204.ownR (Nat.le_refl _)
    have d212 := Dj.new h184.rd.m h204.ownR (Nat.le_refl _)
    have d213 := Dj.new (inm1 K33) h204.ownR (Nat.le_refl _)
    have d214 := Dj.new (inm1 K96) h204.ownR (Nat.le_refl _)
    have d215 := Dj.app' (Dj.new h58.memR h204.ownR (Nat.le_refl _)).symm (Dj.nil' _)
    have d216 := Dj.app' (Dj.new h46.memR h204.ownR (Nat.le_refl _)).symm (Dj.nil' _)
    have d217 := Dj.app' (Dj.new h50.memR h204.ownR (Nat.le_refl _)).symm (Dj.nil' _)
    have d218 := Dj.app' (Dj.new h54.memR h204.ownR (Nat.le_refl _)).symm (Dj.nil' _)
    have d219 := Dj.app' (Dj.new h184.memR h204.ownR (Nat.le_refl _)).symm (Dj.nil' _)
    replace h204 := h204.base hB.size
    replace hB := Below.through l hB
    replace h26 := h26.go l
    replace h58 := h58.go l
    replace h46 := h46.go l
    replace h50 := h50.go l
    replace h54 := h54.go l
    replace h184 := h184.go l
    replace K33 := K33.thru l
    replace K96 := K96.thru l
    refine x_end ?_
    refine x_tn ?_
    refine ⟨.inl l, ?_⟩
    refine b_e 8 rfl (by kernel_rfl) ?_
    obtain ⟨z220, c221, hR⟩ := bnd_some hR
    refine o_gives F rfl Try.call95 rfl (impl_cut_int64_c z220 c221 _ h26) (fun a vv w l ⟨v222, rb223, hv226, h225⟩ F => ?_)
    subst vv
    have d228 := Dj.new h58.rd.m h225.ownR (Nat.le_refl _)
    have d229 := Dj.new h46.rd.m h225.ownR (Nat.le_refl _)
    have d230 := Dj.new h50.rd.m h225.ownR (Nat.le_refl _)
    have d231 := Dj.new h54.rd.m h225.ownR (Nat.le_refl _)
    have d232 := Dj.new h184.rd.m h225.ownR (Nat.le_refl _)
    have d233 := Dj.new h204.rd.m h225.ownR (Nat.le_refl _)
    have d234 := Dj.new (inm1 K33) h225.ownR (Nat.le_refl _)
    have d235 := Dj.new (inm1 K96) h225.ownR (Nat.le_refl _)
    have d236 := Dj.app' (Dj.new h58.memR h225.ownR (Nat.le_refl _)).symm (Dj.nil' _)
    have d237 := Dj.app' (Dj.new h46.memR h225.ownR (Nat.le_refl _)).symm (Dj.nil' _)
    have d238 := Dj.app' (Dj.new h50.memR h225.ownR (Nat.le_refl _)).symm (Dj.nil' _)
    have d239 := Dj.app' (Dj.new h54.memR h225.ownR (Nat.le_refl _)).symm (Dj.nil' _)
    have d240 := Dj.app' (Dj.new h184.memR h225.ownR (Nat.le_refl _)).symm (Dj.nil' _)
    have d241 := Dj.app' (Dj.new h204.memR h225.ownR (Nat.le_refl _)).symm (Dj.nil' _)
    replace h225 := h225.base hB.size
    replace hB := Below.through l hB
    replace h58 := h58.go l
    replace h46 := h46.go l
    replace h50 := h50.go l
    replace h54 := h54.go l
    replace h184 := h184.go l
    replace h204 := h204.go l
    replace K33 := K33.thru l
    replace K96 := K96.thru l
    refine x_end ?_
    refine x_tn ?_
    refine ⟨.inl l, ?_⟩
    refine b_e 10 rfl (by kernel_rfl) ?_
    refine o_bstore Try.sizeOf70 F rfl rfl rfl K96 (h184.rd).r.one (by simp) rfl (fun w K96 l => ?_)
    replace hB := hB.o l (fun c hc => by rw [List.mem_singleton] at hc; rw [hc]; exact CK96) hB.size
    replace h58 := h58.goO l d108
    replace h46 := h46.goO l d109
    replace h54 := h54.goO l d111
    replace h184 := h184.goO l (Dj.app' (Dj.symm d194) (Dj.nil' _))
    replace h204 := h204.goO l (Dj.app' (Dj.symm d214) (Dj.nil' _))
    replace h225 := h225.goO l (Dj.app' (Dj.symm d235) (Dj.nil' _))
    replace K33 := K33.only l (by simpa using nb102)
    refine x_end ?_
    refine x_tn ?_
    refine ⟨.inr (by kernel_rfl), ?_⟩
    refine b_q 11 rfl (by kernel_rfl) (by kernel_rfl) (by kernel_rfl) (by kernel_rfl) ?_
    refine v_val F rfl (fun w l => r_bfield fa73_3 F rfl rfl) (fun a F => ?_)
    refine b_e 12 rfl (by kernel_rfl) ?_
    refine o_bstore Try.sizeOf71 F rfl rfl rfl K96 (h204.rd).r.one (by simp) rfl (fun w K96 l => ?_)
    replace hB := hB.o l (fun c hc => by rw [List.mem_singleton] at hc; rw [hc]; exact CK96) hB.size
    replace h58 := h58.goO l d108
    replace h46 := h46.goO l d109
    replace h184 := h184.goO l (Dj.app' (Dj.symm d194) (Dj.nil' _))
    replace h204 := h204.goO l (Dj.app' (Dj.symm d214) (Dj.nil' _))
    replace h225 := h225.goO l (Dj.app' (Dj.symm d235) (Dj.nil' _))
    replace K33 := K33.only l (by simpa using nb102)
    refine x_end ?_
    refine x_tn ?_
    refine ⟨.inr (by kernel_rfl), ?_⟩
    refine b_q 13 rfl (by kernel_rfl) (by kernel_rfl) (by kernel_rfl) (by kernel_rfl) ?_
    refine v_val F rfl (fun w l => r_bfield fa73_4 F rfl rfl) (fun a F => ?_)
    refine b_e 14 rfl (by kernel_rfl) ?_
    refine o_bstore Try.sizeOf34 F rfl rfl rfl K96 (h225.rd).r.one (by simp) rfl (fun w K96 l => ?_)
    replace hB := hB.o l (fun c hc => by rw [List.mem_singleton] at hc; rw [hc]; exact CK96) hB.size
    replace h46 := h46.goO l d109
    replace h184 := h184.goO l (Dj.app' (Dj.symm d194) (Dj.nil' _))
    replace h204 := h204.goO l (Dj.app' (Dj.symm d214) (Dj.nil' _))
    replace h225 := h225.goO l (Dj.app' (Dj.symm d235) (Dj.nil' _))
    replace K33 := K33.only l (by simpa using nb102)
    refine x_end ?_
    refine x_tn ?_
    refine ⟨.inr (by kernel_rfl), ?_⟩
    refine b_end (by kernel_rfl) ?_
    refine x_tn ?_
    refine x_seq ?_
    refine x_reg ?_
    refine o_bloadA (cs := [.int .i64 z40.kind, v43, v181, v201, v222]) Try.isAgg73 Try.sizeOf73 F rfl rfl K96 rfl (fun j hj => by match j, hj with | 0, _ => rfl | 1, _ => rfl | 2, _ => rfl | 3, _ => rfl | 4, _ => rfl) (fun a F => ?_)
    have h242 := RVerdict.mk2 (w := w) i42 h46.rd h184.rd h204.rd h225.rd
    refine o_bstoreA (vs := [.int .i64 z40.kind, v43, v181, v201, v222]) Try.sizeOf73 F rfl rfl rfl K33 (oc rfl (oc (h46.rd).r.one (oc (h184.rd).r.one (oc (h204.rd).r.one (oc (h225.rd).r.one on))))) (Nat.le_of_ble_eq_true rfl) rfl (fun w K33 l => ?_)
    replace hB := hB.o l (fun c hc => by rw [List.mem_singleton] at hc; rw [hc]; exact CK33) hB.size
    replace h46 := h46.goO l (Dj.app' (Dj.symm d72) (Dj.nil' _))
    replace h184 := h184.goO l (Dj.app' (Dj.symm d193) (Dj.nil' _))
    replace h204 := h204.goO l (Dj.app' (Dj.symm d213) (Dj.nil' _))
    replace h225 := h225.goO l (Dj.app' (Dj.symm d234) (Dj.nil' _))
    refine x_end ?_
    refine x_tn ?_
    refine x_ret ?_
    refine x_res1 F rfl (rv_cA (arr := #[.int .i64 z40.kind, v43, v181, v201, v222]) F Try.isAgg73 Try.sizeOf73 rfl K33) ?_
    obtain rfl := Option.some.inj hR
    exact ⟨_, rfl, hB, v43, rb44, v181, rb182, v201, rb202, v222, rb223, rfl, i42, h46, h184, h204, h225, (Dj.app d190 (Dj.nil _)), (Dj.app d209 (Dj.nil _)), (Dj.app d229 (Dj.nil _)), (Dj.app d212 (Dj.nil _)), (Dj.app d232 (Dj.nil _)), (Dj.app d233 (Dj.nil _))⟩

def spec_l10Copy (x0 : Verdict) : Option Verdict :=
  bnd (spec_l00Own x0.values) fun z50 =>
  bnd (ap ([]) x0.arcs) fun z72 =>
  bnd (ap ([]) x0.pairs) fun z96 =>
  bnd (spec_l00Own x0.numbers) fun z109 =>
  some ((Verdict.mk x0.kind z50 z72 z96 z109))
set_option maxHeartbeats 1000000 in
theorem spec_l10Copy_c {x0 : Verdict} (r : Verdict) (hR : spec_l10Copy x0 = some r) {v0 : Value} {b0 : List Nat} (w0 : World) (A0 : Rd (Pt 5 RVerdict) w0 v0 x0 b0) : Calls Try.prog 87 #[v0] w0 (Gives (fun v w' => ∃ (v1' : Value) (rb2' : List Nat) (v4' : Value) (rb5' : List Nat) (v7' : Value) (rb8' : List Nat) (v10' : Value) (rb11' : List Nat), v = .agg #[.int .i64 r.kind, v1', v4', v7', v10'] ∧ I64 r.kind ∧ Row 1 RInt 2 w0.heap.size w' v1' r.values rb2' [] ∧ Row 3 RArcStep 133 w0.heap.size w' v4' r.arcs rb5' [] ∧ Row 3 RPairStep 136 w0.heap.size w' v7' r.pairs rb8' [] ∧ Row 1 RInt 2 w0.heap.size w' v10' r.numbers rb11' [] ∧ Dj (rb2' ++ []) (rb5' ++ []) ∧ Dj (rb2' ++ []) (rb8' ++ []) ∧ Dj (rb2' ++ []) (rb11' ++ []) ∧ Dj (rb5' ++ []) (rb8' ++ []) ∧ Dj (rb5' ++ []) (rb11' ++ []) ∧ Dj (rb8' ++ []) (rb11' ++ [])) w0) := by
  unfold spec_l10Copy at hR
  refine x_enter (L := [(0, v0)]) Try.func87 rfl rfl rfl (sc rfl sn) (fun a F => ?_)
  have hB := Below.refl w0.heap.size w0
  refine x_seq ?_
  refine x_reg ?_
  refine o_alloc Try.zeroValue73 F rfl rfl (fun a w b11 K12 l BK12 F => ?_)
  have CK12 := Nat.le_trans hB.size BK12
  replace hB := Below.through l hB
  refine x_end ?_
  refine x_tn ?_
  refine x_seq ?_
  obtain ⟨z50, c51, hR⟩ := bnd_some hR
  obtain ⟨z72, c73, hR⟩ := bnd_some hR
  obtain ⟨z96, c97, hR⟩ := bnd_some hR
  obtain ⟨z109, c110, hR⟩ := bnd_some hR
  refine x_drawnB (by kernel_rfl) (fun w l hsz => ?_)
  replace hB := Below.through l hB
  replace K12 := K12.thru l
  refine b_q 0 rfl (by kernel_rfl) (by kernel_rfl) (by kernel_rfl) (by kernel_rfl) ?_
  refine v_val F rfl (fun w l => r_move F rfl) (fun a F => ?_)
  refine b_q 1 rfl (by kernel_rfl) (by kernel_rfl) (by kernel_rfl) (by kernel_rfl) ?_
  refine v_val F rfl (fun w l => r_nilCheckP F rfl (A0.go hB)) (fun a F => ?_)
  refine b_q 2 rfl (by kernel_rfl) (by kernel_rfl) (by kernel_rfl) (by kernel_rfl) ?_
  refine v_field (s' := 1) fa73_0 F rfl rfl (A0.go hB) RVerdict.f0 (fun a p125 b126 h127 s128 F => ?_)
  refine b_q 3 rfl (by kernel_rfl) (by kernel_rfl) (by kernel_rfl) (by kernel_rfl) ?_
  have i129 := (h127).i64
  refine v_val F rfl (fun w l => r_loadI Try.isAgg2 F rfl ((h127).go l)) (fun a F => ?_)
  refine b_q 4 rfl (by kernel_rfl) (by kernel_rfl) (by kernel_rfl) (by kernel_rfl) ?_
  refine v_val F rfl (fun w l => r_move F rfl) (fun a F => ?_)
  refine b_q 5 rfl (by kernel_rfl) (by kernel_rfl) (by kernel_rfl) (by kernel_rfl) ?_
  refine v_val F rfl (fun w l => r_nilCheckP F rfl (A0.go hB)) (fun a F => ?_)
  refine b_q 6 rfl (by kernel_rfl) (by kernel_rfl) (by kernel_rfl) (by kernel_rfl) ?_
  refine v_field (s' := 1) fa73_1 F rfl rfl (A0.go hB) RVerdict.f1 (fun a p130 b131 h132 s133 F => ?_)
  refine b_q 7 rfl (by kernel_rfl) (by kernel_rfl) (by kernel_rfl) (by kernel_rfl) ?_
  refine v_loadS (fun _ l => l) Try.isAgg34 F rfl rfl h132 (fun a v134 b135 h136 s137 F => ?_)
  refine b_q 10 rfl (by kernel_rfl) (by kernel_rfl) (by kernel_rfl) (by kernel_rfl) ?_
  refine v_val F rfl (fun w l => r_move F rfl) (fun a F => ?_)
  refine b_q 11 rfl (by kernel_rfl) (by kernel_rfl) (by kernel_rfl) (by kernel_rfl) ?_
  refine v_val F rfl (fun w l => r_nilCheckP F rfl (A0.go hB)) (fun a F => ?_)
  refine b_q 12 rfl (by kernel_rfl) (by kernel_rfl) (by kernel_rfl) (by kernel_rfl) ?_
  refine v_field (s' := 1) fa73_2 F rfl rfl (A0.go hB) RVerdict.f2 (fun a p138 b139 h140 s141 F => ?_)
  refine b_q 13 rfl (by kernel_rfl) (by kernel_rfl) (by kernel_rfl) (by kernel_rfl) ?_
  refine v_loadS (fun _ l => l) Try.isAgg70 F rfl rfl h140 (fun a v142 b143 h144 s145 F => ?_)
  refine b_q 16 rfl (by kernel_rfl) (by kernel_rfl) (by kernel_rfl) (by kernel_rfl) ?_
  refine v_val F rfl (fun w l => r_move F rfl) (fun a F => ?_)
  refine b_q 17 rfl (by kernel_rfl) (by kernel_rfl) (by kernel_rfl) (by kernel_rfl) ?_
  refine v_val F rfl (fun w l => r_nilCheckP F rfl (A0.go hB)) (fun a F => ?_)
  refine b_q 18 rfl (by kernel_rfl) (by kernel_rfl) (by kernel_rfl) (by kernel_rfl) ?_
  refine v_field (s' := 1) fa73_3 F rfl rfl (A0.go hB) RVerdict.f3 (fun a p146 b147 h148 s149 F => ?_)
  refine b_q 19 rfl (by kernel_rfl) (by kernel_rfl) (by kernel_rfl) (by kernel_rfl) ?_
  refine v_loadS (fun _ l => l) Try.isAgg71 F rfl rfl h148 (fun a v150 b151 h152 s153 F => ?_)
  refine b_q 21 rfl (by kernel_rfl) (by kernel_rfl) (by kernel_rfl) (by kernel_rfl) ?_
  refine v_val F rfl (fun w l => r_move F rfl) (fun a F => ?_)
  refine b_q 22 rfl (by kernel_rfl) (by kernel_rfl) (by kernel_rfl) (by kernel_rfl) ?_
  refine v_val F rfl (fun w l => r_nilCheckP F rfl (A0.go hB)) (fun a F => ?_)
  refine b_q 23 rfl (by kernel_rfl) (by kernel_rfl) (by kernel_rfl) (by kernel_rfl) ?_
  refine v_field (s' := 1) fa73_4 F rfl rfl (A0.go hB) RVerdict.f4 (fun a p154 b155 h156 s157 F => ?_)
  refine b_q 24 rfl (by kernel_rfl) (by kernel_rfl) (by kernel_rfl) (by kernel_rfl) ?_
  refine v_loadS (fun _ l => l) Try.isAgg34 F rfl rfl h156 (fun a v158 b159 h160 s161 F => ?_)
  refine b_es [8, 9, 15] (by kernel_rfl) (by simp) ⟨⟨_, rfl, ?_⟩, ⟨_, rfl, ?_⟩, ⟨_, rfl, ?_⟩, trivial⟩
  · refine o_gives F rfl Try.call144 rfl (spec_l00Own_c z50 c51 _ h136) (fun a vv w l ⟨v162, rb163, hv166, h165⟩ F => ?_)
    subst vv
    have d168 := Dj.new h144.m h165.ownR (Nat.le_refl _)
    have d169 := Dj.new h152.m h165.ownR (Nat.le_refl _)
    have d170 := Dj.new h160.m h165.ownR (Nat.le_refl _)
    have d171 := Dj.new (inm1 K12) h165.ownR (Nat.le_refl _)
    have lo172 := fun c hc => Nat.le_trans hsz (h165.lo c hc)
    replace h165 := h165.base hB.size
    replace hB := Below.through l hB
    replace h144 := h144.go l
    replace h152 := h152.go l
    replace h160 := h160.go l
    replace K12 := K12.thru l
    refine x_end ?_
    refine x_tn ?_
    refine ⟨.inl (l.mono hsz), ?_⟩
    replace hsz := Nat.le_trans hsz l.size
    refine b_es [9, 15] (by kernel_rfl) (by simp) ⟨⟨_, rfl, ?_⟩, ⟨_, rfl, ?_⟩, trivial⟩
    · refine o_lit0 (R := RArcStep) Try.underlying70 Try.sizeOf133 F rfl (fun a w v173 rb174 h175 l F => ?_)
      have d177 := Dj.new h144.m h175.ownR (Nat.le_refl _)
      have d178 := Dj.new h152.m h175.ownR (Nat.le_refl _)
      have d179 := Dj.new h160.m h175.ownR (Nat.le_refl _)
      have d180 := Dj.new h165.rd.m h175.ownR (Nat.le_refl _)
      have d181 := Dj.new (inm1 K12) h175.ownR (Nat.le_refl _)
      have d182 := Dj.app' (Dj.new h165.memR h175.ownR (Nat.le_refl _)).symm (Dj.nil' _)
      have lo183 := fun c hc => Nat.le_trans hsz (h175.lo c hc)
      replace h175 := h175.base hB.size
      replace hB := Below.through l hB
      replace h144 := h144.go l
      replace h152 := h152.go l
      replace h160 := h160.go l
      replace h165 := h165.go l
      replace K12 := K12.thru l
      refine x_end ?_
      refine x_tn ?_
      refine ⟨.inl (l.mono hsz), ?_⟩
      replace hsz := Nat.le_trans hsz l.size
      refine b_es [14, 15] (by kernel_rfl) (by simp) ⟨⟨_, rfl, ?_⟩, ⟨_, rfl, ?_⟩, trivial⟩
      · obtain ⟨ib187, sr188, sn189⟩ := Rd.src (by decide) h144
        refine o_append (sz := 3) (R := RArcStep) (z := (.agg #[.int .i64 0, .int .i64 0, .int .i64 0])) (bytes := 24) Try.underlying70 (by kernel_rfl) rfl (by decide) (by decide) (by decide) F rfl rfl rfl h175 sr188 hB.size (Dj.symm (Dj.sub d177 sn189)) c73 (fun a w v184 rb185 h186 l keep F => ?_)
        obtain rfl : ib187 = [] := src_flat sr188 (fun w f x bs h => by first | exact h.2.2 | exact h.2 | exact h.2.2.2.2 | exact h.2.2.2.2.2.2 | exact h.2.2.2.2.2.2.2.2)
        replace h186 := row_nil2 h186
        have d191 := keep _ h152.m d178
        have d192 := keep _ h160.m d179
        have d193 := keep _ h165.rd.m d180
        have d194 := keep _ (inm1 K12) d181
        replace hB := hB.o l h175.lo hB.size
        replace h152 := h152.goO l d178
        replace h160 := h160.goO l d179
        replace h165 := h165.goO l d180
        replace K12 := K12.only l d181.not
        refine x_end ?_
        refine x_tn ?_
        refine ⟨.inl ((Below.refl _ _).o l lo183 hsz), ?_⟩
        replace hsz := Nat.le_trans hsz l.size
        refine b_e 15 rfl (by kernel_rfl) ?_
        refine o_lit0 (R := RPairStep) Try.underlying71 Try.sizeOf136 F rfl (fun a w v195 rb196 h197 l F => ?_)
        have d199 := Dj.new h152.m h197.ownR (Nat.le_refl _)
        have d200 := Dj.new h160.m h197.ownR (Nat.le_refl _)
        have d201 := Dj.new h165.rd.m h197.ownR (Nat.le_refl _)
        have d202 := Dj.new h186.rd.m h197.ownR (Nat.le_refl _)
        have d203 := Dj.new (inm1 K12) h197.ownR (Nat.le_refl _)
        have d204 := Dj.app' (Dj.new h165.memR h197.ownR (Nat.le_refl _)).symm (Dj.nil' _)
        have d205 := Dj.app' (Dj.new h186.memR h197.ownR (Nat.le_refl _)).symm (Dj.nil' _)
        have lo206 := fun c hc => Nat.le_trans hsz (h197.lo c hc)
        replace h197 := h197.base hB.size
        replace hB := Below.through l hB
        replace h152 := h152.go l
        replace h160 := h160.go l
        replace h165 := h165.go l
        replace h186 := h186.go l
        replace K12 := K12.thru l
        refine x_end ?_
        refine x_tn ?_
        refine ⟨.inl (l.mono hsz), ?_⟩
        replace hsz := Nat.le_trans hsz l.size
        refine b_e 20 rfl (by kernel_rfl) ?_
        obtain ⟨ib210, sr211, sn212⟩ := Rd.src (by decide) h152
        refine o_append (sz := 3) (R := RPairStep) (z := (.agg #[.int .i64 0, .int .i64 0, .int .i64 0])) (bytes := 24) Try.underlying71 (by kernel_rfl) rfl (by decide) (by decide) (by decide) F rfl rfl rfl h197 sr211 hB.size (Dj.symm (Dj.sub d199 sn212)) c97 (fun a w v207 rb208 h209 l keep F => ?_)
        obtain rfl : ib210 = [] := src_flat sr211 (fun w f x bs h => by first | exact h.2.2 | exact h.2 | exact h.2.2.2.2 | exact h.2.2.2.2.2.2 | exact h.2.2.2.2.2.2.2.2)
        replace h209 := row_nil2 h209
        have d214 := keep _ h160.m d200
        have d215 := keep _ h165.rd.m d201
        have d216 := keep _ h186.rd.m d202
        have d217 := keep _ (inm1 K12) d203
        replace hB := hB.o l h197.lo hB.size
        replace h160 := h160.goO l d200
        replace h165 := h165.goO l d201
        replace h186 := h186.goO l d202
        replace K12 := K12.only l d203.not
        refine x_end ?_
        refine x_tn ?_
        refine ⟨.inl ((Below.refl _ _).o l lo206 hsz), ?_⟩
        replace hsz := Nat.le_trans hsz l.size
        refine b_e 25 rfl (by kernel_rfl) ?_
        refine o_gives F rfl Try.call144 rfl (spec_l00Own_c z109 c110 _ h160) (fun a vv w l ⟨v218, rb219, hv222, h221⟩ F => ?_)
        subst vv
        have d224 := Dj.new h165.rd.m h221.ownR (Nat.le_refl _)
        have d225 := Dj.new h186.rd.m h221.ownR (Nat.le_refl _)
        have d226 := Dj.new h209.rd.m h221.ownR (Nat.le_refl _)
        have d227 := Dj.new (inm1 K12) h221.ownR (Nat.le_refl _)
        have d228 := Dj.app' (Dj.new h165.memR h221.ownR (Nat.le_refl _)).symm (Dj.nil' _)
        have d229 := Dj.app' (Dj.new h186.memR h221.ownR (Nat.le_refl _)).symm (Dj.nil' _)
        have d230 := Dj.app' (Dj.new h209.memR h221.ownR (Nat.le_refl _)).symm (Dj.nil' _)
        have lo231 := fun c hc => Nat.le_trans hsz (h221.lo c hc)
        replace h221 := h221.base hB.size
        replace hB := Below.through l hB
        replace h165 := h165.go l
        replace h186 := h186.go l
        replace h209 := h209.go l
        replace K12 := K12.thru l
        refine x_end ?_
        refine x_tn ?_
        refine ⟨.inl (l.mono hsz), ?_⟩
        replace hsz := Nat.le_trans hsz l.size
        refine b_q 26 rfl (by kernel_rfl) (by kernel_rfl) (by kernel_rfl) (by kernel_rfl) ?_
        refine v_val F rfl (fun w l => r_build Try.underlying73 Try.zeroValue73 (fun w => by simp [Try.sizeOf2, Try.sizeOf34, Try.sizeOf70, Try.sizeOf71]; rfl) F rfl rfl rfl rfl (oc rfl (oc (h165.rd).r.one (oc (h186.rd).r.one (oc (h209.rd).r.one (oc (h221.rd).r.one on))))) rfl rfl) (fun a F => ?_)
        have h232 := RVerdict.mk2 (w := w) i129 h165.rd h186.rd h209.rd h221.rd
        refine b_e 27 rfl (by kernel_rfl) ?_
        refine o_bstoreA (vs := [.int .i64 x0.kind, v162, v184, v207, v218]) Try.sizeOf73 F rfl rfl rfl K12 (oc rfl (oc (h165.rd).r.one (oc (h186.rd).r.one (oc (h209.rd).r.one (oc (h221.rd).r.one on))))) (Nat.le_of_ble_eq_true rfl) rfl (fun w K12 l => ?_)
        replace hB := hB.o l (fun c hc => by rw [List.mem_singleton] at hc; rw [hc]; exact CK12) hB.size
        replace h165 := h165.goO l (Dj.app' (Dj.symm d171) (Dj.nil' _))
        replace h186 := h186.goO l (Dj.app' (Dj.symm d194) (Dj.nil' _))
        replace h209 := h209.goO l (Dj.app' (Dj.symm d217) (Dj.nil' _))
        replace h221 := h221.goO l (Dj.app' (Dj.symm d227) (Dj.nil' _))
        refine x_end ?_
        refine x_tn ?_
        refine ⟨.inr (by kernel_rfl), ?_⟩
        replace hsz := Nat.le_trans hsz l.size
        refine b_end (by kernel_rfl) ?_
        refine x_tn ?_
        refine x_ret ?_
        refine x_res1 F rfl (rv_cA (arr := #[.int .i64 x0.kind, v162, v184, v207, v218]) F Try.isAgg73 Try.sizeOf73 rfl K12) ?_
        obtain rfl := Option.some.inj hR
        exact ⟨_, rfl, hB, v162, rb163, v184, rb185, v207, rb208, v218, rb219, rfl, i129, h165, h186, h209, h221, (Dj.app d193 (Dj.nil _)), (Dj.app d215 (Dj.nil _)), (Dj.app d224 (Dj.nil _)), (Dj.app d216 (Dj.nil _)), (Dj.app d225 (Dj.nil _)), (Dj.app d226 (Dj.nil _))⟩
      · refine o_lit0 (R := RPairStep) Try.underlying71 Try.sizeOf136 F rfl (fun a w v233 rb234 h235 l F => ?_)
        have d237 := Dj.new h144.m h235.ownR (Nat.le_refl _)
        have d238 := Dj.new h152.m h235.ownR (Nat.le_refl _)
        have d239 := Dj.new h160.m h235.ownR (Nat.le_refl _)
        have d240 := Dj.new h165.rd.m h235.ownR (Nat.le_refl _)
        have d241 := Dj.new h175.rd.m h235.ownR (Nat.le_refl _)
        have d242 := Dj.new (inm1 K12) h235.ownR (Nat.le_refl _)
        have d243 := Dj.app' (Dj.new h165.memR h235.ownR (Nat.le_refl _)).symm (Dj.nil' _)
        have d244 := Dj.app' (Dj.new h175.memR h235.ownR (Nat.le_refl _)).symm (Dj.nil' _)
        have lo245 := fun c hc => Nat.le_trans hsz (h235.lo c hc)
        replace h235 := h235.base hB.size
        replace hB := Below.through l hB
        replace h144 := h144.go l
        replace h152 := h152.go l
        replace h160 := h160.go l
        replace h165 := h165.go l
        replace h175 := h175.go l
        replace K12 := K12.thru l
        refine x_end ?_
        refine x_tn ?_
        refine ⟨.inl (l.mono hsz), ?_⟩
        replace hsz := Nat.le_trans hsz l.size
        refine b_e 14 rfl (by kernel_rfl) ?_
        obtain ⟨ib249, sr250, sn251⟩ := Rd.src (by decide) h144
        refine o_append (sz := 3) (R := RArcStep) (z := (.agg #[.int .i64 0, .int .i64 0, .int .i64 0])) (bytes := 24) Try.underlying70 (by kernel_rfl) rfl (by decide) (by decide) (by decide) F rfl rfl rfl h175 sr250 hB.size (Dj.symm (Dj.sub d177 sn251)) c73 (fun a w v246 rb247 h248 l keep F => ?_)
        obtain rfl : ib249 = [] := src_flat sr250 (fun w f x bs h => by first | exact h.2.2 | exact h.2 | exact h.2.2.2.2 | exact h.2.2.2.2.2.2 | exact h.2.2.2.2.2.2.2.2)
        replace h248 := row_nil2 h248
        have d253 := keep _ h152.m d178
        have d254 := keep _ h160.m d179
        have d255 := keep _ h165.rd.m d180
        have d256 := keep _ (inm1 K12) d181
        have d257 := keep _ h235.rd.m d244
        replace hB := hB.o l h175.lo hB.size
        replace h152 := h152.goO l d178
        replace h160 := h160.goO l d179
        replace h165 := h165.goO l d180
        replace h235 := h235.goO l d244
        replace K12 := K12.only l d181.not
        refine x_end ?_
        refine x_tn ?_
        refine ⟨.inl ((Below.refl _ _).o l lo183 hsz), ?_⟩
        replace hsz := Nat.le_trans hsz l.size
        refine b_e 20 rfl (by kernel_rfl) ?_
        obtain ⟨ib261, sr262, sn263⟩ := Rd.src (by decide) h152
        refine o_append (sz := 3) (R := RPairStep) (z := (.agg #[.int .i64 0, .int .i64 0, .int .i64 0])) (bytes := 24) Try.underlying71 (by kernel_rfl) rfl (by decide) (by decide) (by decide) F rfl rfl rfl h235 sr262 hB.size (Dj.symm (Dj.sub d238 sn263)) c97 (fun a w v258 rb259 h260 l keep F => ?_)
        obtain rfl : ib261 = [] := src_flat sr262 (fun w f x bs h => by first | exact h.2.2 | exact h.2 | exact h.2.2.2.2 | exact h.2.2.2.2.2.2 | exact h.2.2.2.2.2.2.2.2)
        replace h260 := row_nil2 h260
        have d265 := keep _ h160.m d239
        have d266 := keep _ h165.rd.m d240
        have d267 := keep _ (inm1 K12) d242
        have d268 := keep _ h248.rd.m (Dj.app' (Dj.symm (Dj.l d257)) (Dj.nil' _))
        replace hB := hB.o l h235.lo hB.size
        replace h160 := h160.goO l d239
        replace h165 := h165.goO l d240
        replace h248 := h248.goO l (Dj.app' (Dj.symm (Dj.l d257)) (Dj.nil' _))
        replace K12 := K12.only l d242.not
        refine x_end ?_
        refine x_tn ?_
        refine ⟨.inl ((Below.refl _ _).o l lo245 hsz), ?_⟩
        replace hsz := Nat.le_trans hsz l.size
        refine b_e 25 rfl (by kernel_rfl) ?_
        refine o_gives F rfl Try.call144 rfl (spec_l00Own_c z109 c110 _ h160) (fun a vv w l ⟨v269, rb270, hv273, h272⟩ F => ?_)
        subst vv
        have d275 := Dj.new h165.rd.m h272.ownR (Nat.le_refl _)
        have d276 := Dj.new h248.rd.m h272.ownR (Nat.le_refl _)
        have d277 := Dj.new h260.rd.m h272.ownR (Nat.le_refl _)
        have d278 := Dj.new (inm1 K12) h272.ownR (Nat.le_refl _)
        have d279 := Dj.app' (Dj.new h165.memR h272.ownR (Nat.le_refl _)).symm (Dj.nil' _)
        have d280 := Dj.app' (Dj.new h248.memR h272.ownR (Nat.le_refl _)).symm (Dj.nil' _)
        have d281 := Dj.app' (Dj.new h260.memR h272.ownR (Nat.le_refl _)).symm (Dj.nil' _)
        have lo282 := fun c hc => Nat.le_trans hsz (h272.lo c hc)
        replace h272 := h272.base hB.size
        replace hB := Below.through l hB
        replace h165 := h165.go l
        replace h248 := h248.go l
        replace h260 := h260.go l
        replace K12 := K12.thru l
        refine x_end ?_
        refine x_tn ?_
        refine ⟨.inl (l.mono hsz), ?_⟩
        replace hsz := Nat.le_trans hsz l.size
        refine b_q 26 rfl (by kernel_rfl) (by kernel_rfl) (by kernel_rfl) (by kernel_rfl) ?_
        refine v_val F rfl (fun w l => r_build Try.underlying73 Try.zeroValue73 (fun w => by simp [Try.sizeOf2, Try.sizeOf34, Try.sizeOf70, Try.sizeOf71]; rfl) F rfl rfl rfl rfl (oc rfl (oc (h165.rd).r.one (oc (h248.rd).r.one (oc (h260.rd).r.one (oc (h272.rd).r.one on))))) rfl rfl) (fun a F => ?_)
        have h283 := RVerdict.mk2 (w := w) i129 h165.rd h248.rd h260.rd h272.rd
        refine b_e 27 rfl (by kernel_rfl) ?_
        refine o_bstoreA (vs := [.int .i64 x0.kind, v162, v246, v258, v269]) Try.sizeOf73 F rfl rfl rfl K12 (oc rfl (oc (h165.rd).r.one (oc (h248.rd).r.one (oc (h260.rd).r.one (oc (h272.rd).r.one on))))) (Nat.le_of_ble_eq_true rfl) rfl (fun w K12 l => ?_)
        replace hB := hB.o l (fun c hc => by rw [List.mem_singleton] at hc; rw [hc]; exact CK12) hB.size
        replace h165 := h165.goO l (Dj.app' (Dj.symm d171) (Dj.nil' _))
        replace h248 := h248.goO l (Dj.app' (Dj.symm d256) (Dj.nil' _))
        replace h260 := h260.goO l (Dj.app' (Dj.symm d267) (Dj.nil' _))
        replace h272 := h272.goO l (Dj.app' (Dj.symm d278) (Dj.nil' _))
        refine x_end ?_
        refine x_tn ?_
        refine ⟨.inr (by kernel_rfl), ?_⟩
        replace hsz := Nat.le_trans hsz l.size
        refine b_end (by kernel_rfl) ?_
        refine x_tn ?_
        refine x_ret ?_
        refine x_res1 F rfl (rv_cA (arr := #[.int .i64 x0.kind, v162, v246, v258, v269]) F Try.isAgg73 Try.sizeOf73 rfl K12) ?_
        obtain rfl := Option.some.inj hR
        exact ⟨_, rfl, hB, v162, rb163, v246, rb247, v258, rb259, v269, rb270, rfl, i129, h165, h248, h260, h272, (Dj.app d255 (Dj.nil _)), (Dj.app d266 (Dj.nil _)), (Dj.app d275 (Dj.nil _)), (Dj.app d268 (Dj.nil _)), (Dj.app d276 (Dj.nil _)), (Dj.app d277 (Dj.nil _))⟩
    · refine o_lit0 (R := RPairStep) Try.underlying71 Try.sizeOf136 F rfl (fun a w v284 rb285 h286 l F => ?_)
      have d288 := Dj.new h144.m h286.ownR (Nat.le_refl _)
      have d289 := Dj.new h152.m h286.ownR (Nat.le_refl _)
      have d290 := Dj.new h160.m h286.ownR (Nat.le_refl _)
      have d291 := Dj.new h165.rd.m h286.ownR (Nat.le_refl _)
      have d292 := Dj.new (inm1 K12) h286.ownR (Nat.le_refl _)
      have d293 := Dj.app' (Dj.new h165.memR h286.ownR (Nat.le_refl _)).symm (Dj.nil' _)
      have lo294 := fun c hc => Nat.le_trans hsz (h286.lo c hc)
      replace h286 := h286.base hB.size
      replace hB := Below.through l hB
      replace h144 := h144.go l
      replace h152 := h152.go l
      replace h160 := h160.go l
      replace h165 := h165.go l
      replace K12 := K12.thru l
      refine x_end ?_
      refine x_tn ?_
      refine ⟨.inl (l.mono hsz), ?_⟩
      replace hsz := Nat.le_trans hsz l.size
      refine b_e 9 rfl (by kernel_rfl) ?_
      refine o_lit0 (R := RArcStep) Try.underlying70 Try.sizeOf133 F rfl (fun a w v295 rb296 h297 l F => ?_)
      have d299 := Dj.new h144.m h297.ownR (Nat.le_refl _)
      have d300 := Dj.new h152.m h297.ownR (Nat.le_refl _)
      have d301 := Dj.new h160.m h297.ownR (Nat.le_refl _)
      have d302 := Dj.new h165.rd.m h297.ownR (Nat.le_refl _)
      have d303 := Dj.new h286.rd.m h297.ownR (Nat.le_refl _)
      have d304 := Dj.new (inm1 K12) h297.ownR (Nat.le_refl _)
      have d305 := Dj.app' (Dj.new h165.memR h297.ownR (Nat.le_refl _)).symm (Dj.nil' _)
      have d306 := Dj.app' (Dj.new h286.memR h297.ownR (Nat.le_refl _)).symm (Dj.nil' _)
      have lo307 := fun c hc => Nat.le_trans hsz (h297.lo c hc)
      replace h297 := h297.base hB.size
      replace hB := Below.through l hB
      replace h144 := h144.go l
      replace h152 := h152.go l
      replace h160 := h160.go l
      replace h165 := h165.go l
      replace h286 := h286.go l
      replace K12 := K12.thru l
      refine x_end ?_
      refine x_tn ?_
      refine ⟨.inl (l.mono hsz), ?_⟩
      replace hsz := Nat.le_trans hsz l.size
      refine b_e 14 rfl (by kernel_rfl) ?_
      obtain ⟨ib311, sr312, sn313⟩ := Rd.src (by decide) h144
      refine o_append (sz := 3) (R := RArcStep) (z := (.agg #[.int .i64 0, .int .i64 0, .int .i64 0])) (bytes := 24) Try.underlying70 (by kernel_rfl) rfl (by decide) (by decide) (by decide) F rfl rfl rfl h297 sr312 hB.size (Dj.symm (Dj.sub d299 sn313)) c73 (fun a w v308 rb309 h310 l keep F => ?_)
      obtain rfl : ib311 = [] := src_flat sr312 (fun w f x bs h => by first | exact h.2.2 | exact h.2 | exact h.2.2.2.2 | exact h.2.2.2.2.2.2 | exact h.2.2.2.2.2.2.2.2)
      replace h310 := row_nil2 h310
      have d315 := keep _ h152.m d300
      have d316 := keep _ h160.m d301
      have d317 := keep _ h165.rd.m d302
      have d318 := keep _ h286.rd.m d303
      have d319 := keep _ (inm1 K12) d304
      replace hB := hB.o l h297.lo hB.size
      replace h152 := h152.goO l d300
      replace h160 := h160.goO l d301
      replace h165 := h165.goO l d302
      replace h286 := h286.goO l d303
      replace K12 := K12.only l d304.not
      refine x_end ?_
      refine x_tn ?_
      refine ⟨.inl ((Below.refl _ _).o l lo307 hsz), ?_⟩
      replace hsz := Nat.le_trans hsz l.size
      refine b_e 20 rfl (by kernel_rfl) ?_
      obtain ⟨ib323, sr324, sn325⟩ := Rd.src (by decide) h152
      refine o_append (sz := 3) (R := RPairStep) (z := (.agg #[.int .i64 0, .int .i64 0, .int .i64 0])) (bytes := 24) Try.underlying71 (by kernel_rfl) rfl (by decide) (by decide) (by decide) F rfl rfl rfl h286 sr324 hB.size (Dj.symm (Dj.sub d289 sn325)) c97 (fun a w v320 rb321 h322 l keep F => ?_)
      obtain rfl : ib323 = [] := src_flat sr324 (fun w f x bs h => by first | exact h.2.2 | exact h.2 | exact h.2.2.2.2 | exact h.2.2.2.2.2.2 | exact h.2.2.2.2.2.2.2.2)
      replace h322 := row_nil2 h322
      have d327 := keep _ h160.m d290
      have d328 := keep _ h165.rd.m d291
      have d329 := keep _ (inm1 K12) d292
      have d330 := keep _ h310.rd.m (Dj.app' (Dj.symm (Dj.l d318)) (Dj.nil' _))
      replace hB := hB.o l h286.lo hB.size
      replace h160 := h160.goO l d290
      replace h165 := h165.goO l d291
      replace h310 := h310.goO l (Dj.app' (Dj.symm (Dj.l d318)) (Dj.nil' _))
      replace K12 := K12.only l d292.not
      refine x_end ?_
      refine x_tn ?_
      refine ⟨.inl ((Below.refl _ _).o l lo294 hsz), ?_⟩
      replace hsz := Nat.le_trans hsz l.size
      refine b_e 25 rfl (by kernel_rfl) ?_
      refine o_gives F rfl Try.call144 rfl (spec_l00Own_c z109 c110 _ h160) (fun a vv w l ⟨v331, rb332, hv335, h334⟩ F => ?_)
      subst vv
      have d337 := Dj.new h165.rd.m h334.ownR (Nat.le_refl _)
      have d338 := Dj.new h310.rd.m h334.ownR (Nat.le_refl _)
      have d339 := Dj.new h322.rd.m h334.ownR (Nat.le_refl _)
      have d340 := Dj.new (inm1 K12) h334.ownR (Nat.le_refl _)
      have d341 := Dj.app' (Dj.new h165.memR h334.ownR (Nat.le_refl _)).symm (Dj.nil' _)
      have d342 := Dj.app' (Dj.new h310.memR h334.ownR (Nat.le_refl _)).symm (Dj.nil' _)
      have d343 := Dj.app' (Dj.new h322.memR h334.ownR (Nat.le_refl _)).symm (Dj.nil' _)
      have lo344 := fun c hc => Nat.le_trans hsz (h334.lo c hc)
      replace h334 := h334.base hB.size
      replace hB := Below.through l hB
      replace h165 := h165.go l
      replace h310 := h310.go l
      replace h322 := h322.go l
      replace K12 := K12.thru l
      refine x_end ?_
      refine x_tn ?_
      refine ⟨.inl (l.mono hsz), ?_⟩
      replace hsz := Nat.le_trans hsz l.size
      refine b_q 26 rfl (by kernel_rfl) (by kernel_rfl) (by kernel_rfl) (by kernel_rfl) ?_
      refine v_val F rfl (fun w l => r_build Try.underlying73 Try.zeroValue73 (fun w => by simp [Try.sizeOf2, Try.sizeOf34, Try.sizeOf70, Try.sizeOf71]; rfl) F rfl rfl rfl rfl (oc rfl (oc (h165.rd).r.one (oc (h310.rd).r.one (oc (h322.rd).r.one (oc (h334.rd).r.one on))))) rfl rfl) (fun a F => ?_)
      have h345 := RVerdict.mk2 (w := w) i129 h165.rd h310.rd h322.rd h334.rd
      refine b_e 27 rfl (by kernel_rfl) ?_
      refine o_bstoreA (vs := [.int .i64 x0.kind, v162, v308, v320, v331]) Try.sizeOf73 F rfl rfl rfl K12 (oc rfl (oc (h165.rd).r.one (oc (h310.rd).r.one (oc (h322.rd).r.one (oc (h334.rd).r.one on))))) (Nat.le_of_ble_eq_true rfl) rfl (fun w K12 l => ?_)
      replace hB := hB.o l (fun c hc => by rw [List.mem_singleton] at hc; rw [hc]; exact CK12) hB.size
      replace h165 := h165.goO l (Dj.app' (Dj.symm d171) (Dj.nil' _))
      replace h310 := h310.goO l (Dj.app' (Dj.symm d319) (Dj.nil' _))
      replace h322 := h322.goO l (Dj.app' (Dj.symm d329) (Dj.nil' _))
      replace h334 := h334.goO l (Dj.app' (Dj.symm d340) (Dj.nil' _))
      refine x_end ?_
      refine x_tn ?_
      refine ⟨.inr (by kernel_rfl), ?_⟩
      replace hsz := Nat.le_trans hsz l.size
      refine b_end (by kernel_rfl) ?_
      refine x_tn ?_
      refine x_ret ?_
      refine x_res1 F rfl (rv_cA (arr := #[.int .i64 x0.kind, v162, v308, v320, v331]) F Try.isAgg73 Try.sizeOf73 rfl K12) ?_
      obtain rfl := Option.some.inj hR
      exact ⟨_, rfl, hB, v162, rb163, v308, rb309, v320, rb321, v331, rb332, rfl, i129, h165, h310, h322, h334, (Dj.app d317 (Dj.nil _)), (Dj.app d328 (Dj.nil _)), (Dj.app d337 (Dj.nil _)), (Dj.app d330 (Dj.nil _)), (Dj.app d338 (Dj.nil _)), (Dj.app d339 (Dj.nil _))⟩
  · refine o_lit0 (R := RArcStep) Try.underlying70 Try.sizeOf133 F rfl (fun a w v346 rb347 h348 l F => ?_)
    have d350 := Dj.new h136.m h348.ownR (Nat.le_refl _)
    have d351 := Dj.new h144.m h348.ownR (Nat.le_refl _)
    have d352 := Dj.new h152.m h348.ownR (Nat.le_refl _)
    have d353 := Dj.new h160.m h348.ownR (Nat.le_refl _)
    have d354 := Dj.new (inm1 K12) h348.ownR (Nat.le_refl _)
    have lo355 := fun c hc => Nat.le_trans hsz (h348.lo c hc)
    replace h348 := h348.base hB.size
    replace hB := Below.through l hB
    replace h136 := h136.go l
    replace h144 := h144.go l
    replace h152 := h152.go l
    replace h160 := h160.go l
    replace K12 := K12.thru l
    refine x_end ?_
    refine x_tn ?_
    refine ⟨.inl (l.mono hsz), ?_⟩
    replace hsz := Nat.le_trans hsz l.size
    refine b_es [8, 15] (by kernel_rfl) (by simp) ⟨⟨_, rfl, ?_⟩, ⟨_, rfl, ?_⟩, trivial⟩
    · refine o_gives F rfl Try.call144 rfl (spec_l00Own_c z50 c51 _ h136) (fun a vv w l ⟨v356, rb357, hv360, h359⟩ F => ?_)
      subst vv
      have d362 := Dj.new h144.m h359.ownR (Nat.le_refl _)
      have d363 := Dj.new h152.m h359.ownR (Nat.le_refl _)
      have d364 := Dj.new h160.m h359.ownR (Nat.le_refl _)
      have d365 := Dj.new h348.rd.m h359.ownR (Nat.le_refl _)
      have d366 := Dj.new (inm1 K12) h359.ownR (Nat.le_refl _)
      have d367 := Dj.app' (Dj.new h348.memR h359.ownR (Nat.le_refl _)).symm (Dj.nil' _)
      have lo368 := fun c hc => Nat.le_trans hsz (h359.lo c hc)
      replace h359 := h359.base hB.size
      replace hB := Below.through l hB
      replace h144 := h144.go l
      replace h152 := h152.go l
      replace h160 := h160.go l
      replace h348 := h348.go l
      replace K12 := K12.thru l
      refine x_end ?_
      refine x_tn ?_
      refine ⟨.inl (l.mono hsz), ?_⟩
      replace hsz := Nat.le_trans hsz l.size
      refine b_es [14, 15] (by kernel_rfl) (by simp) ⟨⟨_, rfl, ?_⟩, ⟨_, rfl, ?_⟩, trivial⟩
      · obtain ⟨ib372, sr373, sn374⟩ := Rd.src (by decide) h144
        refine o_append (sz := 3) (R := RArcStep) (z := (.agg #[.int .i64 0, .int .i64 0, .int .i64 0])) (bytes := 24) Try.underlying70 (by kernel_rfl) rfl (by decide) (by decide) (by decide) F rfl rfl rfl h348 sr373 hB.size (Dj.symm (Dj.sub d351 sn374)) c73 (fun a w v369 rb370 h371 l keep F => ?_)
        obtain rfl : ib372 = [] := src_flat sr373 (fun w f x bs h => by first | exact h.2.2 | exact h.2 | exact h.2.2.2.2 | exact h.2.2.2.2.2.2 | exact h.2.2.2.2.2.2.2.2)
        replace h371 := row_nil2 h371
        have d376 := keep _ h152.m d352
        have d377 := keep _ h160.m d353
        have d378 := keep _ (inm1 K12) d354
        have d379 := keep _ h359.rd.m d367
        replace hB := hB.o l h348.lo hB.size
        replace h152 := h152.goO l d352
        replace h160 := h160.goO l d353
        replace h359 := h359.goO l d367
        replace K12 := K12.only l d354.not
        refine x_end ?_
        refine x_tn ?_
        refine ⟨.inl ((Below.refl _ _).o l lo355 hsz), ?_⟩
        replace hsz := Nat.le_trans hsz l.size
        refine b_e 15 rfl (by kernel_rfl) ?_
        refine o_lit0 (R := RPairStep) Try.underlying71 Try.sizeOf136 F rfl (fun a w v380 rb381 h382 l F => ?_)
        have d384 := Dj.new h152.m h382.ownR (Nat.le_refl _)
        have d385 := Dj.new h160.m h382.ownR (Nat.le_refl _)
        have d386 := Dj.new h359.rd.m h382.ownR (Nat.le_refl _)
        have d387 := Dj.new h371.rd.m h382.ownR (Nat.le_refl _)
        have d388 := Dj.new (inm1 K12) h382.ownR (Nat.le_refl _)
        have d389 := Dj.app' (Dj.new h359.memR h382.ownR (Nat.le_refl _)).symm (Dj.nil' _)
        have d390 := Dj.app' (Dj.new h371.memR h382.ownR (Nat.le_refl _)).symm (Dj.nil' _)
        have lo391 := fun c hc => Nat.le_trans hsz (h382.lo c hc)
        replace h382 := h382.base hB.size
        replace hB := Below.through l hB
        replace h152 := h152.go l
        replace h160 := h160.go l
        replace h359 := h359.go l
        replace h371 := h371.go l
        replace K12 := K12.thru l
        refine x_end ?_
        refine x_tn ?_
        refine ⟨.inl (l.mono hsz), ?_⟩
        replace hsz := Nat.le_trans hsz l.size
        refine b_e 20 rfl (by kernel_rfl) ?_
        obtain ⟨ib395, sr396, sn397⟩ := Rd.src (by decide) h152
        refine o_append (sz := 3) (R := RPairStep) (z := (.agg #[.int .i64 0, .int .i64 0, .int .i64 0])) (bytes := 24) Try.underlying71 (by kernel_rfl) rfl (by decide) (by decide) (by decide) F rfl rfl rfl h382 sr396 hB.size (Dj.symm (Dj.sub d384 sn397)) c97 (fun a w v392 rb393 h394 l keep F => ?_)
        obtain rfl : ib395 = [] := src_flat sr396 (fun w f x bs h => by first | exact h.2.2 | exact h.2 | exact h.2.2.2.2 | exact h.2.2.2.2.2.2 | exact h.2.2.2.2.2.2.2.2)
        replace h394 := row_nil2 h394
        have d399 := keep _ h160.m d385
        have d400 := keep _ h359.rd.m d386
        have d401 := keep _ h371.rd.m d387
        have d402 := keep _ (inm1 K12) d388
        replace hB := hB.o l h382.lo hB.size
        replace h160 := h160.goO l d385
        replace h359 := h359.goO l d386
        replace h371 := h371.goO l d387
        replace K12 := K12.only l d388.not
        refine x_end ?_
        refine x_tn ?_
        refine ⟨.inl ((Below.refl _ _).o l lo391 hsz), ?_⟩
        replace hsz := Nat.le_trans hsz l.size
        refine b_e 25 rfl (by kernel_rfl) ?_
        refine o_gives F rfl Try.call144 rfl (spec_l00Own_c z109 c110 _ h160) (fun a vv w l ⟨v403, rb404, hv407, h406⟩ F => ?_)
        subst vv
        have d409 := Dj.new h359.rd.m h406.ownR (Nat.le_refl _)
        have d410 := Dj.new h371.rd.m h406.ownR (Nat.le_refl _)
        have d411 := Dj.new h394.rd.m h406.ownR (Nat.le_refl _)
        have d412 := Dj.new (inm1 K12) h406.ownR (Nat.le_refl _)
        have d413 := Dj.app' (Dj.new h359.memR h406.ownR (Nat.le_refl _)).symm (Dj.nil' _)
        have d414 := Dj.app' (Dj.new h371.memR h406.ownR (Nat.le_refl _)).symm (Dj.nil' _)
        have d415 := Dj.app' (Dj.new h394.memR h406.ownR (Nat.le_refl _)).symm (Dj.nil' _)
        have lo416 := fun c hc => Nat.le_trans hsz (h406.lo c hc)
        replace h406 := h406.base hB.size
        replace hB := Below.through l hB
        replace h359 := h359.go l
        replace h371 := h371.go l
        replace h394 := h394.go l
        replace K12 := K12.thru l
        refine x_end ?_
        refine x_tn ?_
        refine ⟨.inl (l.mono hsz), ?_⟩
        replace hsz := Nat.le_trans hsz l.size
        refine b_q 26 rfl (by kernel_rfl) (by kernel_rfl) (by kernel_rfl) (by kernel_rfl) ?_
        refine v_val F rfl (fun w l => r_build Try.underlying73 Try.zeroValue73 (fun w => by simp [Try.sizeOf2, Try.sizeOf34, Try.sizeOf70, Try.sizeOf71]; rfl) F rfl rfl rfl rfl (oc rfl (oc (h359.rd).r.one (oc (h371.rd).r.one (oc (h394.rd).r.one (oc (h406.rd).r.one on))))) rfl rfl) (fun a F => ?_)
        have h417 := RVerdict.mk2 (w := w) i129 h359.rd h371.rd h394.rd h406.rd
        refine b_e 27 rfl (by kernel_rfl) ?_
        refine o_bstoreA (vs := [.int .i64 x0.kind, v356, v369, v392, v403]) Try.sizeOf73 F rfl rfl rfl K12 (oc rfl (oc (h359.rd).r.one (oc (h371.rd).r.one (oc (h394.rd).r.one (oc (h406.rd).r.one on))))) (Nat.le_of_ble_eq_true rfl) rfl (fun w K12 l => ?_)
        replace hB := hB.o l (fun c hc => by rw [List.mem_singleton] at hc; rw [hc]; exact CK12) hB.size
        replace h359 := h359.goO l (Dj.app' (Dj.symm d366) (Dj.nil' _))
        replace h371 := h371.goO l (Dj.app' (Dj.symm d378) (Dj.nil' _))
        replace h394 := h394.goO l (Dj.app' (Dj.symm d402) (Dj.nil' _))
        replace h406 := h406.goO l (Dj.app' (Dj.symm d412) (Dj.nil' _))
        refine x_end ?_
        refine x_tn ?_
        refine ⟨.inr (by kernel_rfl), ?_⟩
        replace hsz := Nat.le_trans hsz l.size
        refine b_end (by kernel_rfl) ?_
        refine x_tn ?_
        refine x_ret ?_
        refine x_res1 F rfl (rv_cA (arr := #[.int .i64 x0.kind, v356, v369, v392, v403]) F Try.isAgg73 Try.sizeOf73 rfl K12) ?_
        obtain rfl := Option.some.inj hR
        exact ⟨_, rfl, hB, v356, rb357, v369, rb370, v392, rb393, v403, rb404, rfl, i129, h359, h371, h394, h406, (Dj.app d379 (Dj.nil _)), (Dj.app d400 (Dj.nil _)), (Dj.app d409 (Dj.nil _)), (Dj.app d401 (Dj.nil _)), (Dj.app d410 (Dj.nil _)), (Dj.app d411 (Dj.nil _))⟩
      · refine o_lit0 (R := RPairStep) Try.underlying71 Try.sizeOf136 F rfl (fun a w v418 rb419 h420 l F => ?_)
        have d422 := Dj.new h144.m h420.ownR (Nat.le_refl _)
        have d423 := Dj.new h152.m h420.ownR (Nat.le_refl _)
        have d424 := Dj.new h160.m h420.ownR (Nat.le_refl _)
        have d425 := Dj.new h348.rd.m h420.ownR (Nat.le_refl _)
        have d426 := Dj.new h359.rd.m h420.ownR (Nat.le_refl _)
        have d427 := Dj.new (inm1 K12) h420.ownR (Nat.le_refl _)
        have d428 := Dj.app' (Dj.new h348.memR h420.ownR (Nat.le_refl _)).symm (Dj.nil' _)
        have d429 := Dj.app' (Dj.new h359.memR h420.ownR (Nat.le_refl _)).symm (Dj.nil' _)
        have lo430 := fun c hc => Nat.le_trans hsz (h420.lo c hc)
        replace h420 := h420.base hB.size
        replace hB := Below.through l hB
        replace h144 := h144.go l
        replace h152 := h152.go l
        replace h160 := h160.go l
        replace h348 := h348.go l
        replace h359 := h359.go l
        replace K12 := K12.thru l
        refine x_end ?_
        refine x_tn ?_
        refine ⟨.inl (l.mono hsz), ?_⟩
        replace hsz := Nat.le_trans hsz l.size
        refine b_e 14 rfl (by kernel_rfl) ?_
        obtain ⟨ib434, sr435, sn436⟩ := Rd.src (by decide) h144
        refine o_append (sz := 3) (R := RArcStep) (z := (.agg #[.int .i64 0, .int .i64 0, .int .i64 0])) (bytes := 24) Try.underlying70 (by kernel_rfl) rfl (by decide) (by decide) (by decide) F rfl rfl rfl h348 sr435 hB.size (Dj.symm (Dj.sub d351 sn436)) c73 (fun a w v431 rb432 h433 l keep F => ?_)
        obtain rfl : ib434 = [] := src_flat sr435 (fun w f x bs h => by first | exact h.2.2 | exact h.2 | exact h.2.2.2.2 | exact h.2.2.2.2.2.2 | exact h.2.2.2.2.2.2.2.2)
        replace h433 := row_nil2 h433
        have d438 := keep _ h152.m d352
        have d439 := keep _ h160.m d353
        have d440 := keep _ (inm1 K12) d354
        have d441 := keep _ h359.rd.m d367
        have d442 := keep _ h420.rd.m d428
        replace hB := hB.o l h348.lo hB.size
        replace h152 := h152.goO l d352
        replace h160 := h160.goO l d353
        replace h359 := h359.goO l d367
        replace h420 := h420.goO l d428
        replace K12 := K12.only l d354.not
        refine x_end ?_
        refine x_tn ?_
        refine ⟨.inl ((Below.refl _ _).o l lo355 hsz), ?_⟩
        replace hsz := Nat.le_trans hsz l.size
        refine b_e 20 rfl (by kernel_rfl) ?_
        obtain ⟨ib446, sr447, sn448⟩ := Rd.src (by decide) h152
        refine o_append (sz := 3) (R := RPairStep) (z := (.agg #[.int .i64 0, .int .i64 0, .int .i64 0])) (bytes := 24) Try.underlying71 (by kernel_rfl) rfl (by decide) (by decide) (by decide) F rfl rfl rfl h420 sr447 hB.size (Dj.symm (Dj.sub d423 sn448)) c97 (fun a w v443 rb444 h445 l keep F => ?_)
        obtain rfl : ib446 = [] := src_flat sr447 (fun w f x bs h => by first | exact h.2.2 | exact h.2 | exact h.2.2.2.2 | exact h.2.2.2.2.2.2 | exact h.2.2.2.2.2.2.2.2)
        replace h445 := row_nil2 h445
        have d450 := keep _ h160.m d424
        have d451 := keep _ h359.rd.m d426
        have d452 := keep _ (inm1 K12) d427
        have d453 := keep _ h433.rd.m (Dj.app' (Dj.symm (Dj.l d442)) (Dj.nil' _))
        replace hB := hB.o l h420.lo hB.size
        replace h160 := h160.goO l d424
        replace h359 := h359.goO l d426
        replace h433 := h433.goO l (Dj.app' (Dj.symm (Dj.l d442)) (Dj.nil' _))
        replace K12 := K12.only l d427.not
        refine x_end ?_
        refine x_tn ?_
        refine ⟨.inl ((Below.refl _ _).o l lo430 hsz), ?_⟩
        replace hsz := Nat.le_trans hsz l.size
        refine b_e 25 rfl (by kernel_rfl) ?_
        refine o_gives F rfl Try.call144 rfl (spec_l00Own_c z109 c110 _ h160) (fun a vv w l ⟨v454, rb455, hv458, h457⟩ F => ?_)
        subst vv
        have d460 := Dj.new h359.rd.m h457.ownR (Nat.le_refl _)
        have d461 := Dj.new h433.rd.m h457.ownR (Nat.le_refl _)
        have d462 := Dj.new h445.rd.m h457.ownR (Nat.le_refl _)
        have d463 := Dj.new (inm1 K12) h457.ownR (Nat.le_refl _)
        have d464 := Dj.app' (Dj.new h359.memR h457.ownR (Nat.le_refl _)).symm (Dj.nil' _)
        have d465 := Dj.app' (Dj.new h433.memR h457.ownR (Nat.le_refl _)).symm (Dj.nil' _)
        have d466 := Dj.app' (Dj.new h445.memR h457.ownR (Nat.le_refl _)).symm (Dj.nil' _)
        have lo467 := fun c hc => Nat.le_trans hsz (h457.lo c hc)
        replace h457 := h457.base hB.size
        replace hB := Below.through l hB
        replace h359 := h359.go l
        replace h433 := h433.go l
        replace h445 := h445.go l
        replace K12 := K12.thru l
        refine x_end ?_
        refine x_tn ?_
        refine ⟨.inl (l.mono hsz), ?_⟩
        replace hsz := Nat.le_trans hsz l.size
        refine b_q 26 rfl (by kernel_rfl) (by kernel_rfl) (by kernel_rfl) (by kernel_rfl) ?_
        refine v_val F rfl (fun w l => r_build Try.underlying73 Try.zeroValue73 (fun w => by simp [Try.sizeOf2, Try.sizeOf34, Try.sizeOf70, Try.sizeOf71]; rfl) F rfl rfl rfl rfl (oc rfl (oc (h359.rd).r.one (oc (h433.rd).r.one (oc (h445.rd).r.one (oc (h457.rd).r.one on))))) rfl rfl) (fun a F => ?_)
        have h468 := RVerdict.mk2 (w := w) i129 h359.rd h433.rd h445.rd h457.rd
        refine b_e 27 rfl (by kernel_rfl) ?_
        refine o_bstoreA (vs := [.int .i64 x0.kind, v356, v431, v443, v454]) Try.sizeOf73 F rfl rfl rfl K12 (oc rfl (oc (h359.rd).r.one (oc (h433.rd).r.one (oc (h445.rd).r.one (oc (h457.rd).r.one on))))) (Nat.le_of_ble_eq_true rfl) rfl (fun w K12 l => ?_)
        replace hB := hB.o l (fun c hc => by rw [List.mem_singleton] at hc; rw [hc]; exact CK12) hB.size
        replace h359 := h359.goO l (Dj.app' (Dj.symm d366) (Dj.nil' _))
        replace h433 := h433.goO l (Dj.app' (Dj.symm d440) (Dj.nil' _))
        replace h445 := h445.goO l (Dj.app' (Dj.symm d452) (Dj.nil' _))
        replace h457 := h457.goO l (Dj.app' (Dj.symm d463) (Dj.nil' _))
        refine x_end ?_
        refine x_tn ?_
        refine ⟨.inr (by kernel_rfl), ?_⟩
        replace hsz := Nat.le_trans hsz l.size
        refine b_end (by kernel_rfl) ?_
        refine x_tn ?_
        refine x_ret ?_
        refine x_res1 F rfl (rv_cA (arr := #[.int .i64 x0.kind, v356, v431, v443, v454]) F Try.isAgg73 Try.sizeOf73 rfl K12) ?_
        obtain rfl := Option.some.inj hR
        exact ⟨_, rfl, hB, v356, rb357, v431, rb432, v443, rb444, v454, rb455, rfl, i129, h359, h433, h445, h457, (Dj.app d441 (Dj.nil _)), (Dj.app d451 (Dj.nil _)), (Dj.app d460 (Dj.nil _)), (Dj.app d453 (Dj.nil _)), (Dj.app d461 (Dj.nil _)), (Dj.app d462 (Dj.nil _))⟩
    · refine o_lit0 (R := RPairStep) Try.underlying71 Try.sizeOf136 F rfl (fun a w v469 rb470 h471 l F => ?_)
      have d473 := Dj.new h136.m h471.ownR (Nat.le_refl _)
      have d474 := Dj.new h144.m h471.ownR (Nat.le_refl _)
      have d475 := Dj.new h152.m h471.ownR (Nat.le_refl _)
      have d476 := Dj.new h160.m h471.ownR (Nat.le_refl _)
      have d477 := Dj.new h348.rd.m h471.ownR (Nat.le_refl _)
      have d478 := Dj.new (inm1 K12) h471.ownR (Nat.le_refl _)
      have d479 := Dj.app' (Dj.new h348.memR h471.ownR (Nat.le_refl _)).symm (Dj.nil' _)
      have lo480 := fun c hc => Nat.le_trans hsz (h471.lo c hc)
      replace h471 := h471.base hB.size
      replace hB := Below.through l hB
      replace h136 := h136.go l
      replace h144 := h144.go l
      replace h152 := h152.go l
      replace h160 := h160.go l
      replace h348 := h348.go l
      replace K12 := K12.thru l
      refine x_end ?_
      refine x_tn ?_
      refine ⟨.inl (l.mono hsz), ?_⟩
      replace hsz := Nat.le_trans hsz l.size
      refine b_e 8 rfl (by kernel_rfl) ?_
      refine o_gives F rfl Try.call144 rfl (spec_l00Own_c z50 c51 _ h136) (fun a vv w l ⟨v481, rb482, hv485, h484⟩ F => ?_)
      subst vv
      have d487 := Dj.new h144.m h484.ownR (Nat.le_refl _)
      have d488 := Dj.new h152.m h484.ownR (Nat.le_refl _)
      have d489 := Dj.new h160.m h484.ownR (Nat.le_refl _)
      have d490 := Dj.new h348.rd.m h484.ownR (Nat.le_refl _)
      have d491 := Dj.new h471.rd.m h484.ownR (Nat.le_refl _)
      have d492 := Dj.new (inm1 K12) h484.ownR (Nat.le_refl _)
      have d493 := Dj.app' (Dj.new h348.memR h484.ownR (Nat.le_refl _)).symm (Dj.nil' _)
      have d494 := Dj.app' (Dj.new h471.memR h484.ownR (Nat.le_refl _)).symm (Dj.nil' _)
      have lo495 := fun c hc => Nat.le_trans hsz (h484.lo c hc)
      replace h484 := h484.base hB.size
      replace hB := Below.through l hB
      replace h144 := h144.go l
      replace h152 := h152.go l
      replace h160 := h160.go l
      replace h348 := h348.go l
      replace h471 := h471.go l
      replace K12 := K12.thru l
      refine x_end ?_
      refine x_tn ?_
      refine ⟨.inl (l.mono hsz), ?_⟩
      replace hsz := Nat.le_trans hsz l.size
      refine b_e 14 rfl (by kernel_rfl) ?_
      obtain ⟨ib499, sr500, sn501⟩ := Rd.src (by decide) h144
      refine o_append (sz := 3) (R := RArcStep) (z := (.agg #[.int .i64 0, .int .i64 0, .int .i64 0])) (bytes := 24) Try.underlying70 (by kernel_rfl) rfl (by decide) (by decide) (by decide) F rfl rfl rfl h348 sr500 hB.size (Dj.symm (Dj.sub d351 sn501)) c73 (fun a w v496 rb497 h498 l keep F => ?_)
      obtain rfl : ib499 = [] := src_flat sr500 (fun w f x bs h => by first | exact h.2.2 | exact h.2 | exact h.2.2.2.2 | exact h.2.2.2.2.2.2 | exact h.2.2.2.2.2.2.2.2)
      replace h498 := row_nil2 h498
      have d503 := keep _ h152.m d352
      have d504 := keep _ h160.m d353
      have d505 := keep _ (inm1 K12) d354
      have d506 := keep _ h471.rd.m d479
      have d507 := keep _ h484.rd.m d493
      replace hB := hB.o l h348.lo hB.size
      replace h152 := h152.goO l d352
      replace h160 := h160.goO l d353
      replace h471 := h471.goO l d479
      replace h484 := h484.goO l d493
      replace K12 := K12.only l d354.not
      refine x_end ?_
      refine x_tn ?_
      refine ⟨.inl ((Below.refl _ _).o l lo355 hsz), ?_⟩
      replace hsz := Nat.le_trans hsz l.size
      refine b_e 20 rfl (by kernel_rfl) ?_
      obtain ⟨ib511, sr512, sn513⟩ := Rd.src (by decide) h152
      refine o_append (sz := 3) (R := RPairStep) (z := (.agg #[.int .i64 0, .int .i64 0, .int .i64 0])) (bytes := 24) Try.underlying71 (by kernel_rfl) rfl (by decide) (by decide) (by decide) F rfl rfl rfl h471 sr512 hB.size (Dj.symm (Dj.sub d475 sn513)) c97 (fun a w v508 rb509 h510 l keep F => ?_)
      obtain rfl : ib511 = [] := src_flat sr512 (fun w f x bs h => by first | exact h.2.2 | exact h.2 | exact h.2.2.2.2 | exact h.2.2.2.2.2.2 | exact h.2.2.2.2.2.2.2.2)
      replace h510 := row_nil2 h510
      have d515 := keep _ h160.m d476
      have d516 := keep _ (inm1 K12) d478
      have d517 := keep _ h484.rd.m d494
      have d518 := keep _ h498.rd.m (Dj.app' (Dj.symm (Dj.l d506)) (Dj.nil' _))
      replace hB := hB.o l h471.lo hB.size
      replace h160 := h160.goO l d476
      replace h484 := h484.goO l d494
      replace h498 := h498.goO l (Dj.app' (Dj.symm (Dj.l d506)) (Dj.nil' _))
      replace K12 := K12.only l d478.not
      refine x_end ?_
      refine x_tn ?_
      refine ⟨.inl ((Below.refl _ _).o l lo480 hsz), ?_⟩
      replace hsz := Nat.le_trans hsz l.size
      refine b_e 25 rfl (by kernel_rfl) ?_
      refine o_gives F rfl Try.call144 rfl (spec_l00Own_c z109 c110 _ h160) (fun a vv w l ⟨v519, rb520, hv523, h522⟩ F => ?_)
      subst vv
      have d525 := Dj.new h484.rd.m h522.ownR (Nat.le_refl _)
      have d526 := Dj.new h498.rd.m h522.ownR (Nat.le_refl _)
      have d527 := Dj.new h510.rd.m h522.ownR (Nat.le_refl _)
      have d528 := Dj.new (inm1 K12) h522.ownR (Nat.le_refl _)
      have d529 := Dj.app' (Dj.new h484.memR h522.ownR (Nat.le_refl _)).symm (Dj.nil' _)
      have d530 := Dj.app' (Dj.new h498.memR h522.ownR (Nat.le_refl _)).symm (Dj.nil' _)
      have d531 := Dj.app' (Dj.new h510.memR h522.ownR (Nat.le_refl _)).symm (Dj.nil' _)
      have lo532 := fun c hc => Nat.le_trans hsz (h522.lo c hc)
      replace h522 := h522.base hB.size
      replace hB := Below.through l hB
      replace h484 := h484.go l
      replace h498 := h498.go l
      replace h510 := h510.go l
      replace K12 := K12.thru l
      refine x_end ?_
      refine x_tn ?_
      refine ⟨.inl (l.mono hsz), ?_⟩
      replace hsz := Nat.le_trans hsz l.size
      refine b_q 26 rfl (by kernel_rfl) (by kernel_rfl) (by kernel_rfl) (by kernel_rfl) ?_
      refine v_val F rfl (fun w l => r_build Try.underlying73 Try.zeroValue73 (fun w => by simp [Try.sizeOf2, Try.sizeOf34, Try.sizeOf70, Try.sizeOf71]; rfl) F rfl rfl rfl rfl (oc rfl (oc (h484.rd).r.one (oc (h498.rd).r.one (oc (h510.rd).r.one (oc (h522.rd).r.one on))))) rfl rfl) (fun a F => ?_)
      have h533 := RVerdict.mk2 (w := w) i129 h484.rd h498.rd h510.rd h522.rd
      refine b_e 27 rfl (by kernel_rfl) ?_
      refine o_bstoreA (vs := [.int .i64 x0.kind, v481, v496, v508, v519]) Try.sizeOf73 F rfl rfl rfl K12 (oc rfl (oc (h484.rd).r.one (oc (h498.rd).r.one (oc (h510.rd).r.one (oc (h522.rd).r.one on))))) (Nat.le_of_ble_eq_true rfl) rfl (fun w K12 l => ?_)
      replace hB := hB.o l (fun c hc => by rw [List.mem_singleton] at hc; rw [hc]; exact CK12) hB.size
      replace h484 := h484.goO l (Dj.app' (Dj.symm d492) (Dj.nil' _))
      replace h498 := h498.goO l (Dj.app' (Dj.symm d505) (Dj.nil' _))
      replace h510 := h510.goO l (Dj.app' (Dj.symm d516) (Dj.nil' _))
      replace h522 := h522.goO l (Dj.app' (Dj.symm d528) (Dj.nil' _))
      refine x_end ?_
      refine x_tn ?_
      refine ⟨.inr (by kernel_rfl), ?_⟩
      replace hsz := Nat.le_trans hsz l.size
      refine b_end (by kernel_rfl) ?_
      refine x_tn ?_
      refine x_ret ?_
      refine x_res1 F rfl (rv_cA (arr := #[.int .i64 x0.kind, v481, v496, v508, v519]) F Try.isAgg73 Try.sizeOf73 rfl K12) ?_
      obtain rfl := Option.some.inj hR
      exact ⟨_, rfl, hB, v481, rb482, v496, rb497, v508, rb509, v519, rb520, rfl, i129, h484, h498, h510, h522, (Dj.app d507 (Dj.nil _)), (Dj.app d517 (Dj.nil _)), (Dj.app d525 (Dj.nil _)), (Dj.app d518 (Dj.nil _)), (Dj.app d526 (Dj.nil _)), (Dj.app d527 (Dj.nil _))⟩
  · refine o_lit0 (R := RPairStep) Try.underlying71 Try.sizeOf136 F rfl (fun a w v534 rb535 h536 l F => ?_)
    have d538 := Dj.new h136.m h536.ownR (Nat.le_refl _)
    have d539 := Dj.new h144.m h536.ownR (Nat.le_refl _)
    have d540 := Dj.new h152.m h536.ownR (Nat.le_refl _)
    have d541 := Dj.new h160.m h536.ownR (Nat.le_refl _)
    have d542 := Dj.new (inm1 K12) h536.ownR (Nat.le_refl _)
    have lo543 := fun c hc => Nat.le_trans hsz (h536.lo c hc)
    replace h536 := h536.base hB.size
    replace hB := Below.through l hB
    replace h136 := h136.go l
    replace h144 := h144.go l
    replace h152 := h152.go l
    replace h160 := h160.go l
    replace K12 := K12.thru l
    refine x_end ?_
    refine x_tn ?_
    refine ⟨.inl (l.mono hsz), ?_⟩
    replace hsz := Nat.le_trans hsz l.size
    refine b_es [8, 9] (by kernel_rfl) (by simp) ⟨⟨_, rfl, ?_⟩, ⟨_, rfl, ?_⟩, trivial⟩
    · refine o_gives F rfl Try.call144 rfl (spec_l00Own_c z50 c51 _ h136) (fun a vv w l ⟨v544, rb545, hv548, h547⟩ F => ?_)
      subst vv
      have d550 := Dj.new h144.m h547.ownR (Nat.le_refl _)
      have d551 := Dj.new h152.m h547.ownR (Nat.le_refl _)
      have d552 := Dj.new h160.m h547.ownR (Nat.le_refl _)
      have d553 := Dj.new h536.rd.m h547.ownR (Nat.le_refl _)
      have d554 := Dj.new (inm1 K12) h547.ownR (Nat.le_refl _)
      have d555 := Dj.app' (Dj.new h536.memR h547.ownR (Nat.le_refl _)).symm (Dj.nil' _)
      have lo556 := fun c hc => Nat.le_trans hsz (h547.lo c hc)
      replace h547 := h547.base hB.size
      replace hB := Below.through l hB
      replace h144 := h144.go l
      replace h152 := h152.go l
      replace h160 := h160.go l
      replace h536 := h536.go l
      replace K12 := K12.thru l
      refine x_end ?_
      refine x_tn ?_
      refine ⟨.inl (l.mono hsz), ?_⟩
      replace hsz := Nat.le_trans hsz l.size
      refine b_e 9 rfl (by kernel_rfl) ?_
      refine o_lit0 (R := RArcStep) Try.underlying70 Try.sizeOf133 F rfl (fun a w v557 rb558 h559 l F => ?_)
      have d561 := Dj.new h144.m h559.ownR (Nat.le_refl _)
      have d562 := Dj.new h152.m h559.ownR (Nat.le_refl _)
      have d563 := Dj.new h160.m h559.ownR (Nat.le_refl _)
      have d564 := Dj.new h536.rd.m h559.ownR (Nat.le_refl _)
      have d565 := Dj.new h547.rd.m h559.ownR (Nat.le_refl _)
      have d566 := Dj.new (inm1 K12) h559.ownR (Nat.le_refl _)
      have d567 := Dj.app' (Dj.new h536.memR h559.ownR (Nat.le_refl _)).symm (Dj.nil' _)
      have d568 := Dj.app' (Dj.new h547.memR h559.ownR (Nat.le_refl _)).symm (Dj.nil' _)
      have lo569 := fun c hc => Nat.le_trans hsz (h559.lo c hc)
      replace h559 := h559.base hB.size
      replace hB := Below.through l hB
      replace h144 := h144.go l
      replace h152 := h152.go l
      replace h160 := h160.go l
      replace h536 := h536.go l
      replace h547 := h547.go l
      replace K12 := K12.thru l
      refine x_end ?_
      refine x_tn ?_
      refine ⟨.inl (l.mono hsz), ?_⟩
      replace hsz := Nat.le_trans hsz l.size
      refine b_e 14 rfl (by kernel_rfl) ?_
      obtain ⟨ib573, sr574, sn575⟩ := Rd.src (by decide) h144
      refine o_append (sz := 3) (R := RArcStep) (z := (.agg #[.int .i64 0, .int .i64 0, .int .i64 0])) (bytes := 24) Try.underlying70 (by kernel_rfl) rfl (by decide) (by decide) (by decide) F rfl rfl rfl h559 sr574 hB.size (Dj.symm (Dj.sub d561 sn575)) c73 (fun a w v570 rb571 h572 l keep F => ?_)
      obtain rfl : ib573 = [] := src_flat sr574 (fun w f x bs h => by first | exact h.2.2 | exact h.2 | exact h.2.2.2.2 | exact h.2.2.2.2.2.2 | exact h.2.2.2.2.2.2.2.2)
      replace h572 := row_nil2 h572
      have d577 := keep _ h152.m d562
      have d578 := keep _ h160.m d563
      have d579 := keep _ h536.rd.m d564
      have d580 := keep _ h547.rd.m d565
      have d581 := keep _ (inm1 K12) d566
      replace hB := hB.o l h559.lo hB.size
      replace h152 := h152.goO l d562
      replace h160 := h160.goO l d563
      replace h536 := h536.goO l d564
      replace h547 := h547.goO l d565
      replace K12 := K12.only l d566.not
      refine x_end ?_
      refine x_tn ?_
      refine ⟨.inl ((Below.refl _ _).o l lo569 hsz), ?_⟩
      replace hsz := Nat.le_trans hsz l.size
      refine b_e 20 rfl (by kernel_rfl) ?_
      obtain ⟨ib585, sr586, sn587⟩ := Rd.src (by decide) h152
      refine o_append (sz := 3) (R := RPairStep) (z := (.agg #[.int .i64 0, .int .i64 0, .int .i64 0])) (bytes := 24) Try.underlying71 (by kernel_rfl) rfl (by decide) (by decide) (by decide) F rfl rfl rfl h536 sr586 hB.size (Dj.symm (Dj.sub d540 sn587)) c97 (fun a w v582 rb583 h584 l keep F => ?_)
      obtain rfl : ib585 = [] := src_flat sr586 (fun w f x bs h => by first | exact h.2.2 | exact h.2 | exact h.2.2.2.2 | exact h.2.2.2.2.2.2 | exact h.2.2.2.2.2.2.2.2)
      replace h584 := row_nil2 h584
      have d589 := keep _ h160.m d541
      have d590 := keep _ (inm1 K12) d542
      have d591 := keep _ h547.rd.m d555
      have d592 := keep _ h572.rd.m (Dj.app' (Dj.symm (Dj.l d579)) (Dj.nil' _))
      replace hB := hB.o l h536.lo hB.size
      replace h160 := h160.goO l d541
      replace h547 := h547.goO l d555
      replace h572 := h572.goO l (Dj.app' (Dj.symm (Dj.l d579)) (Dj.nil' _))
      replace K12 := K12.only l d542.not
      refine x_end ?_
      refine x_tn ?_
      refine ⟨.inl ((Below.refl _ _).o l lo543 hsz), ?_⟩
      replace hsz := Nat.le_trans hsz l.size
      refine b_e 25 rfl (by kernel_rfl) ?_
      refine o_gives F rfl Try.call144 rfl (spec_l00Own_c z109 c110 _ h160) (fun a vv w l ⟨v593, rb594, hv597, h596⟩ F => ?_)
      subst vv
      have d599 := Dj.new h547.rd.m h596.ownR (Nat.le_refl _)
      have d600 := Dj.new h572.rd.m h596.ownR (Nat.le_refl _)
      have d601 := Dj.new h584.rd.m h596.ownR (Nat.le_refl _)
      have d602 := Dj.new (inm1 K12) h596.ownR (Nat.le_refl _)
      have d603 := Dj.app' (Dj.new h547.memR h596.ownR (Nat.le_refl _)).symm (Dj.nil' _)
      have d604 := Dj.app' (Dj.new h572.memR h596.ownR (Nat.le_refl _)).symm (Dj.nil' _)
      have d605 := Dj.app' (Dj.new h584.memR h596.ownR (Nat.le_refl _)).symm (Dj.nil' _)
      have lo606 := fun c hc => Nat.le_trans hsz (h596.lo c hc)
      replace h596 := h596.base hB.size
      replace hB := Below.through l hB
      replace h547 := h547.go l
      replace h572 := h572.go l
      replace h584 := h584.go l
      replace K12 := K12.thru l
      refine x_end ?_
      refine x_tn ?_
      refine ⟨.inl (l.mono hsz), ?_⟩
      replace hsz := Nat.le_trans hsz l.size
      refine b_q 26 rfl (by kernel_rfl) (by kernel_rfl) (by kernel_rfl) (by kernel_rfl) ?_
      refine v_val F rfl (fun w l => r_build Try.underlying73 Try.zeroValue73 (fun w => by simp [Try.sizeOf2, Try.sizeOf34, Try.sizeOf70, Try.sizeOf71]; rfl) F rfl rfl rfl rfl (oc rfl (oc (h547.rd).r.one (oc (h572.rd).r.one (oc (h584.rd).r.one (oc (h596.rd).r.one on))))) rfl rfl) (fun a F => ?_)
      have h607 := RVerdict.mk2 (w := w) i129 h547.rd h572.rd h584.rd h596.rd
      refine b_e 27 rfl (by kernel_rfl) ?_
      refine o_bstoreA (vs := [.int .i64 x0.kind, v544, v570, v582, v593]) Try.sizeOf73 F rfl rfl rfl K12 (oc rfl (oc (h547.rd).r.one (oc (h572.rd).r.one (oc (h584.rd).r.one (oc (h596.rd).r.one on))))) (Nat.le_of_ble_eq_true rfl) rfl (fun w K12 l => ?_)
      replace hB := hB.o l (fun c hc => by rw [List.mem_singleton] at hc; rw [hc]; exact CK12) hB.size
      replace h547 := h547.goO l (Dj.app' (Dj.symm d554) (Dj.nil' _))
      replace h572 := h572.goO l (Dj.app' (Dj.symm d581) (Dj.nil' _))
      replace h584 := h584.goO l (Dj.app' (Dj.symm d590) (Dj.nil' _))
      replace h596 := h596.goO l (Dj.app' (Dj.symm d602) (Dj.nil' _))
      refine x_end ?_
      refine x_tn ?_
      refine ⟨.inr (by kernel_rfl), ?_⟩
      replace hsz := Nat.le_trans hsz l.size
      refine b_end (by kernel_rfl) ?_
      refine x_tn ?_
      refine x_ret ?_
      refine x_res1 F rfl (rv_cA (arr := #[.int .i64 x0.kind, v544, v570, v582, v593]) F Try.isAgg73 Try.sizeOf73 rfl K12) ?_
      obtain rfl := Option.some.inj hR
      exact ⟨_, rfl, hB, v544, rb545, v570, rb571, v582, rb583, v593, rb594, rfl, i129, h547, h572, h584, h596, (Dj.app d580 (Dj.nil _)), (Dj.app d591 (Dj.nil _)), (Dj.app d599 (Dj.nil _)), (Dj.app d592 (Dj.nil _)), (Dj.app d600 (Dj.nil _)), (Dj.app d601 (Dj.nil _))⟩
    · refine o_lit0 (R := RArcStep) Try.underlying70 Try.sizeOf133 F rfl (fun a w v608 rb609 h610 l F => ?_)
      have d612 := Dj.new h136.m h610.ownR (Nat.le_refl _)
      have d613 := Dj.new h144.m h610.ownR (Nat.le_refl _)
      have d614 := Dj.new h152.m h610.ownR (Nat.le_refl _)
      have d615 := Dj.new h160.m h610.ownR (Nat.le_refl _)
      have d616 := Dj.new h536.rd.m h610.ownR (Nat.le_refl _)
      have d617 := Dj.new (inm1 K12) h610.ownR (Nat.le_refl _)
      have d618 := Dj.app' (Dj.new h536.memR h610.ownR (Nat.le_refl _)).symm (Dj.nil' _)
      have lo619 := fun c hc => Nat.le_trans hsz (h610.lo c hc)
      replace h610 := h610.base hB.size
      replace hB := Below.through l hB
      replace h136 := h136.go l
      replace h144 := h144.go l
      replace h152 := h152.go l
      replace h160 := h160.go l
      replace h536 := h536.go l
      replace K12 := K12.thru l
      refine x_end ?_
      refine x_tn ?_
      refine ⟨.inl (l.mono hsz), ?_⟩
      replace hsz := Nat.le_trans hsz l.size
      refine b_e 8 rfl (by kernel_rfl) ?_
      refine o_gives F rfl Try.call144 rfl (spec_l00Own_c z50 c51 _ h136) (fun a vv w l ⟨v620, rb621, hv624, h623⟩ F => ?_)
      subst vv
      have d626 := Dj.new h144.m h623.ownR (Nat.le_refl _)
      have d627 := Dj.new h152.m h623.ownR (Nat.le_refl _)
      have d628 := Dj.new h160.m h623.ownR (Nat.le_refl _)
      have d629 := Dj.new h536.rd.m h623.ownR (Nat.le_refl _)
      have d630 := Dj.new h610.rd.m h623.ownR (Nat.le_refl _)
      have d631 := Dj.new (inm1 K12) h623.ownR (Nat.le_refl _)
      have d632 := Dj.app' (Dj.new h536.memR h623.ownR (Nat.le_refl _)).symm (Dj.nil' _)
      have d633 := Dj.app' (Dj.new h610.memR h623.ownR (Nat.le_refl _)).symm (Dj.nil' _)
      have lo634 := fun c hc => Nat.le_trans hsz (h623.lo c hc)
      replace h623 := h623.base hB.size
      replace hB := Below.through l hB
      replace h144 := h144.go l
      replace h152 := h152.go l
      replace h160 := h160.go l
      replace h536 := h536.go l
      replace h610 := h610.go l
      replace K12 := K12.thru l
      refine x_end ?_
      refine x_tn ?_
      refine ⟨.inl (l.mono hsz), ?_⟩
      replace hsz := Nat.le_trans hsz l.size
      refine b_e 14 rfl (by kernel_rfl) ?_
      obtain ⟨ib638, sr639, sn640⟩ := Rd.src (by decide) h144
      refine o_append (sz := 3) (R := RArcStep) (z := (.agg #[.int .i64 0, .int .i64 0, .int .i64 0])) (bytes := 24) Try.underlying70 (by kernel_rfl) rfl (by decide) (by decide) (by decide) F rfl rfl rfl h610 sr639 hB.size (Dj.symm (Dj.sub d613 sn640)) c73 (fun a w v635 rb636 h637 l keep F => ?_)
      obtain rfl : ib638 = [] := src_flat sr639 (fun w f x bs h => by first | exact h.2.2 | exact h.2 | exact h.2.2.2.2 | exact h.2.2.2.2.2.2 | exact h.2.2.2.2.2.2.2.2)
      replace h637 := row_nil2 h637
      have d642 := keep _ h152.m d614
      have d643 := keep _ h160.m d615
      have d644 := keep _ h536.rd.m d616
      have d645 := keep _ (inm1 K12) d617
      have d646 := keep _ h623.rd.m d633
      replace hB := hB.o l h610.lo hB.size
      replace h152 := h152.goO l d614
      replace h160 := h160.goO l d615
      replace h536 := h536.goO l d616
      replace h623 := h623.goO l d633
      replace K12 := K12.only l d617.not
      refine x_end ?_
      refine x_tn ?_
      refine ⟨.inl ((Below.refl _ _).o l lo619 hsz), ?_⟩
      replace hsz := Nat.le_trans hsz l.size
      refine b_e 20 rfl (by kernel_rfl) ?_
      obtain ⟨ib650, sr651, sn652⟩ := Rd.src (by decide) h152
      refine o_append (sz := 3) (R := RPairStep) (z := (.agg #[.int .i64 0, .int .i64 0, .int .i64 0])) (bytes := 24) Try.underlying71 (by kernel_rfl) rfl (by decide) (by decide) (by decide) F rfl rfl rfl h536 sr651 hB.size (Dj.symm (Dj.sub d540 sn652)) c97 (fun a w v647 rb648 h649 l keep F => ?_)
      obtain rfl : ib650 = [] := src_flat sr651 (fun w f x bs h => by first | exact h.2.2 | exact h.2 | exact h.2.2.2.2 | exact h.2.2.2.2.2.2 | exact h.2.2.2.2.2.2.2.2)
      replace h649 := row_nil2 h649
      have d654 := keep _ h160.m d541
      have d655 := keep _ (inm1 K12) d542
      have d656 := keep _ h623.rd.m d632
      have d657 := keep _ h637.rd.m (Dj.app' (Dj.symm (Dj.l d644)) (Dj.nil' _))
      replace hB := hB.o l h536.lo hB.size
      replace h160 := h160.goO l d541
      replace h623 := h623.goO l d632
      replace h637 := h637.goO l (Dj.app' (Dj.symm (Dj.l d644)) (Dj.nil' _))
      replace K12 := K12.only l d542.not
      refine x_end ?_
      refine x_tn ?_
      refine ⟨.inl ((Below.refl _ _).o l lo543 hsz), ?_⟩
      replace hsz := Nat.le_trans hsz l.size
      refine b_e 25 rfl (by kernel_rfl) ?_
      refine o_gives F rfl Try.call144 rfl (spec_l00Own_c z109 c110 _ h160) (fun a vv w l ⟨v658, rb659, hv662, h661⟩ F => ?_)
      subst vv
      have d664 := Dj.new h623.rd.m h661.ownR (Nat.le_refl _)
      have d665 := Dj.new h637.rd.m h661.ownR (Nat.le_refl _)
      have d666 := Dj.new h649.rd.m h661.ownR (Nat.le_refl _)
      have d667 := Dj.new (inm1 K12) h661.ownR (Nat.le_refl _)
      have d668 := Dj.app' (Dj.new h623.memR h661.ownR (Nat.le_refl _)).symm (Dj.nil' _)
      have d669 := Dj.app' (Dj.new h637.memR h661.ownR (Nat.le_refl _)).symm (Dj.nil' _)
      have d670 := Dj.app' (Dj.new h649.memR h661.ownR (Nat.le_refl _)).symm (Dj.nil' _)
      have lo671 := fun c hc => Nat.le_trans hsz (h661.lo c hc)
      replace h661 := h661.base hB.size
      replace hB := Below.through l hB
      replace h623 := h623.go l
      replace h637 := h637.go l
      replace h649 := h649.go l
      replace K12 := K12.thru l
      refine x_end ?_
      refine x_tn ?_
      refine ⟨.inl (l.mono hsz), ?_⟩
      replace hsz := Nat.le_trans hsz l.size
      refine b_q 26 rfl (by kernel_rfl) (by kernel_rfl) (by kernel_rfl) (by kernel_rfl) ?_
      refine v_val F rfl (fun w l => r_build Try.underlying73 Try.zeroValue73 (fun w => by simp [Try.sizeOf2, Try.sizeOf34, Try.sizeOf70, Try.sizeOf71]; rfl) F rfl rfl rfl rfl (oc rfl (oc (h623.rd).r.one (oc (h637.rd).r.one (oc (h649.rd).r.one (oc (h661.rd).r.one on))))) rfl rfl) (fun a F => ?_)
      have h672 := RVerdict.mk2 (w := w) i129 h623.rd h637.rd h649.rd h661.rd
      refine b_e 27 rfl (by kernel_rfl) ?_
      refine o_bstoreA (vs := [.int .i64 x0.kind, v620, v635, v647, v658]) Try.sizeOf73 F rfl rfl rfl K12 (oc rfl (oc (h623.rd).r.one (oc (h637.rd).r.one (oc (h649.rd).r.one (oc (h661.rd).r.one on))))) (Nat.le_of_ble_eq_true rfl) rfl (fun w K12 l => ?_)
      replace hB := hB.o l (fun c hc => by rw [List.mem_singleton] at hc; rw [hc]; exact CK12) hB.size
      replace h623 := h623.goO l (Dj.app' (Dj.symm d631) (Dj.nil' _))
      replace h637 := h637.goO l (Dj.app' (Dj.symm d645) (Dj.nil' _))
      replace h649 := h649.goO l (Dj.app' (Dj.symm d655) (Dj.nil' _))
      replace h661 := h661.goO l (Dj.app' (Dj.symm d667) (Dj.nil' _))
      refine x_end ?_
      refine x_tn ?_
      refine ⟨.inr (by kernel_rfl), ?_⟩
      replace hsz := Nat.le_trans hsz l.size
      refine b_end (by kernel_rfl) ?_
      refine x_tn ?_
      refine x_ret ?_
      refine x_res1 F rfl (rv_cA (arr := #[.int .i64 x0.kind, v620, v635, v647, v658]) F Try.isAgg73 Try.sizeOf73 rfl K12) ?_
      obtain rfl := Option.some.inj hR
      exact ⟨_, rfl, hB, v620, rb621, v635, rb636, v647, rb648, v658, rb659, rfl, i129, h623, h637, h649, h661, (Dj.app d646 (Dj.nil _)), (Dj.app d656 (Dj.nil _)), (Dj.app d664 (Dj.nil _)), (Dj.app d657 (Dj.nil _)), (Dj.app d665 (Dj.nil _)), (Dj.app d666 (Dj.nil _))⟩

def spec_SpoiltVerdict (x0 : Verdict) : Option Verdict :=
  bnd (spec_l10Copy (Verdict.mk x0.kind x0.values x0.arcs x0.pairs x0.numbers)) fun z39 =>
  if (x0.kind == 0) then
    thn (σ := (List Int)) (
      if (decide (0 < (z39.values.length : Int))) then
        bnd (ix z39.values 0) fun z174 =>
        if (decide (1 < z174)) then
          some (.nx (z39.values.set (0 : Int).toNat 0))
        else
          some (.nx (z39.values.set (0 : Int).toNat (IntKind.i64.wrap (1 - z174))))
      else
        some (.nx z39.values)) fun s160 =>
    some ((Verdict.mk z39.kind s160 z39.arcs z39.pairs z39.numbers))
  else
    thn (σ := (List ArcStep)) (
      if (decide (0 < (z39.arcs.length : Int))) then
        bnd (ck ((z39.arcs.length : Int) - 1)) fun z243 =>
        bnd (sl z39.arcs 0 z243) fun z245 =>
        some (.nx z245)
      else
        some (.nx z39.arcs)) fun s232 =>
    thn (σ := (List PairStep)) (
      if (decide (0 < (z39.pairs.length : Int))) then
        bnd (ck ((z39.pairs.length : Int) - 1)) fun z275 =>
        bnd (sl z39.pairs 0 z275) fun z277 =>
        some (.nx z277)
      else
        some (.nx z39.pairs)) fun s265 =>
    if (decide (0 < (z39.numbers.length : Int))) then
      bnd (ck ((z39.numbers.length : Int) - 1)) fun z286 =>
      bnd (sl z39.numbers 0 z286) fun z288 =>
      some ((Verdict.mk z39.kind z39.values s232 s265 z288))
    else
      some ((Verdict.mk z39.kind z39.values s232 s265 z39.numbers))
set_option maxHeartbeats 1000000 in
theorem spec_SpoiltVerdict_c {x0 : Verdict} (r : Verdict) (hR : spec_SpoiltVerdict x0 = some r) {v0 : Value} {b0 : List Nat} (w0 : World) (A0 : Rd (Agg 5 RVerdict) w0 v0 x0 b0) : Calls Try.prog 38 #[v0] w0 (Gives (fun v w' => ∃ (v1' : Value) (rb2' : List Nat) (v4' : Value) (b5' : List Nat) (v6' : Value) (b7' : List Nat) (v8' : Value) (b9' : List Nat), v = .agg #[.int .i64 r.kind, v1', v4', v6', v8'] ∧ I64 r.kind ∧ Row 1 RInt 2 w0.heap.size w' v1' r.values rb2' [] ∧ Rd (Sl 3 RArcStep) w' v4' r.arcs b5' ∧ Rd (Sl 3 RPairStep) w' v6' r.pairs b7' ∧ Rd (Sl 1 RInt) w' v8' r.numbers b9') w0) := by
  unfold spec_SpoiltVerdict at hR
  refine x_enter (L := [(0, v0)]) Try.func38 rfl rfl rfl (sc rfl sn) (fun a F => ?_)
  have hB := Below.refl w0.heap.size w0
  refine x_seq ?_
  refine x_reg ?_
  obtain ⟨v15, v18, v21, v24, b16, b19, b22, b25, e27, i14, h17, h20, h23, h26, eb13⟩ := RVerdict.rd (A0.go hB)
  subst e27
  refine o_box F rfl rfl rfl (fun a w b11 K12 l BK12 F => ?_)
  have d28 := (dj1 h17.m BK12).symm
  have d29 := (dj1 h20.m BK12).symm
  have d30 := (dj1 h23.m BK12).symm
  have d31 := (dj1 h26.m BK12).symm
  have CK12 := Nat.le_trans hB.size BK12
  replace hB := Below.through l hB
  replace h17 := h17.go l
  replace h20 := h20.go l
  replace h23 := h23.go l
  replace h26 := h26.go l
  refine o_alloc Try.zeroValue73 F rfl rfl (fun a w b32 K33 l BK33 F => ?_)
  have nb34 := Dj.bb K12 BK33
  have d35 := (dj1 h17.m BK33).symm
  have d36 := (dj1 h20.m BK33).symm
  have d37 := (dj1 h23.m BK33).symm
  have d38 := (dj1 h26.m BK33).symm
  have CK33 := Nat.le_trans hB.size BK33
  replace hB := Below.through l hB
  replace h17 := h17.go l
  replace h20 := h20.go l
  replace h23 := h23.go l
  replace h26 := h26.go l
  replace K12 := K12.thru l
  refine x_end ?_
  refine x_tn ?_
  refine x_seq ?_
  refine x_reg ?_
  obtain ⟨z39, c40, hR⟩ := bnd_some hR
  refine o_gives F rfl Try.call87 rfl (spec_l10Copy_c z39 c40 _ (RVerdict.blk K12 i14 h17 h20 h23 h26)) (fun a vv w l ⟨v42, rb43, v46, rb47, v50, rb51, v54, rb55, hv58, i41, h45, h49, h53, h57, dj59, dj60, dj61, dj62, dj63, dj64⟩ F => ?_)
  subst vv
  have d66 := Dj.new h17.m h45.ownR (Nat.le_refl _)
  have d67 := Dj.new h20.m h45.ownR (Nat.le_refl _)
  have d68 := Dj.new h23.m h45.ownR (Nat.le_refl _)
  have d69 := Dj.new h26.m h45.ownR (Nat.le_refl _)
  have d70 := Dj.new (inm1 K12) h45.ownR (Nat.le_refl _)
  have d71 := Dj.new (inm1 K33) h45.ownR (Nat.le_refl _)
  replace h45 := h45.base hB.size
  have d73 := Dj.new h17.m h49.ownR (Nat.le_refl _)
  have d74 := Dj.new h20.m h49.ownR (Nat.le_refl _)
  have d75 := Dj.new h23.m h49.ownR (Nat.le_refl _)
  have d76 := Dj.new h26.m h49.ownR (Nat.le_refl _)
  have d77 := Dj.new (inm1 K12) h49.ownR (Nat.le_refl _)
  have d78 := Dj.new (inm1 K33) h49.ownR (Nat.le_refl _)
  replace h49 := h49.base hB.size
  have d80 := Dj.new h17.m h53.ownR (Nat.le_refl _)
  have d81 := Dj.new h20.m h53.ownR (Nat.le_refl _)
  have d82 := Dj.new h23.m h53.ownR (Nat.le_refl _)
  have d83 := Dj.new h26.m h53.ownR (Nat.le_refl _)
  have d84 := Dj.new (inm1 K12) h53.ownR (Nat.le_refl _)
  have d85 := Dj.new (inm1 K33) h53.ownR (Nat.le_refl _)
  replace h53 := h53.base hB.size
  have d87 := Dj.new h17.m h57.ownR (Nat.le_refl _)
  have d88 := Dj.new h20.m h57.ownR (Nat.le_refl _)
  have d89 := Dj.new h23.m h57.ownR (Nat.le_refl _)
  have d90 := Dj.new h26.m h57.ownR (Nat.le_refl _)
  have d91 := Dj.new (inm1 K12) h57.ownR (Nat.le_refl _)
  have d92 := Dj.new (inm1 K33) h57.ownR (Nat.le_refl _)
  replace h57 := h57.base hB.size
  replace hB := Below.through l hB
  replace h17 := h17.go l
  replace h20 := h20.go l
  replace h23 := h23.go l
  replace h26 := h26.go l
  replace K12 := K12.thru l
  replace K33 := K33.thru l
  have h93 := RVerdict.mk2 (w := w) i41 h45.rd h49.rd h53.rd h57.rd
  refine o_alloc Try.zeroValue73 F rfl rfl (fun a w b94 K95 l BK95 F => ?_)
  have d96 := dj1 h57.memR BK95
  have d97 := dj1 h45.memR BK95
  have d98 := dj1 h49.memR BK95
  have d99 := dj1 h53.memR BK95
  have nb100 := Dj.bb K12 BK95
  have nb101 := Dj.bb K33 BK95
  have d102 := (dj1 h17.m BK95).symm
  have d103 := (dj1 h20.m BK95).symm
  have d104 := (dj1 h23.m BK95).symm
  have d105 := (dj1 h26.m BK95).symm
  have d106 := (dj1 h93.m BK95).symm
  have d107 := (dj1 h57.rd.m BK95).symm
  have d108 := (dj1 h45.rd.m BK95).symm
  have d109 := (dj1 h49.rd.m BK95).symm
  have d110 := (dj1 h53.rd.m BK95).symm
  have CK95 := Nat.le_trans hB.size BK95
  replace hB := Below.through l hB
  replace h17 := h17.go l
  replace h20 := h20.go l
  replace h23 := h23.go l
  replace h26 := h26.go l
  replace h57 := h57.go l
  replace h45 := h45.go l
  replace h49 := h49.go l
  replace h53 := h53.go l
  replace h93 := h93.go l
  replace K12 := K12.thru l
  replace K33 := K33.thru l
  refine o_bstoreA (vs := [.int .i64 z39.kind, v42, v46, v50, v54]) Try.sizeOf73 F rfl rfl rfl K95 (oc rfl (oc (h45.rd).r.one (oc (h49.rd).r.one (oc (h53.rd).r.one (oc (h57.rd).r.one on))))) (Nat.le_of_ble_eq_true rfl) rfl (fun w K95 l => ?_)
  replace hB := hB.o l (fun c hc => by rw [List.mem_singleton] at hc; rw [hc]; exact CK95) hB.size
  replace h17 := h17.goO l d102
  replace h20 := h20.goO l d103
  replace h23 := h23.goO l d104
  replace h26 := h26.goO l d105
  replace h57 := h57.goO l d107
  replace h45 := h45.goO l d108
  replace h49 := h49.goO l d109
  replace h53 := h53.goO l d110
  replace K12 := K12.only l (by simpa using nb100)
  replace K33 := K33.only l (by simpa using nb101)
  refine x_end ?_
  refine x_tn ?_
  refine x_seq ?_
  refine x_seq ?_
  refine x_reg ?_
  refine o_bfield fa73_0 F rfl rfl rfl (fun a F => ?_)
  refine o_bload Try.isAgg2 F rfl rfl K12 rfl (fun a F => ?_)
  refine o_eql F rfl rfl rfl (fun a F => ?_)
  refine x_end ?_
  refine x_tn ?_
  refine x_if F rfl (fun hb111 => ?_) (fun hb111 => ?_)
  · replace hR := ifT hb111 hR
    refine x_seq ?_
    refine x_seq ?_
    refine x_reg ?_
    refine o_bfield fa73_1 F rfl rfl rfl (fun a F => ?_)
    refine o_bload Try.isAgg34 F rfl rfl K95 rfl (fun a F => ?_)
    refine o_len Try.underlying34 F rfl rfl h45.rd (fun a F => ?_)
    have i112 := (h45.rd).r.len64
    refine o_gtr F rfl rfl rfl (fun a F => ?_)
    refine x_end ?_
    refine x_tn ?_
    obtain ⟨o157, hR, hk158⟩ := thn_some hR
    refine x_cutQ (fun a w => ∃ (s160 : List Int) (v162 : Value) (rb163 : List Nat), o157 = .nx s160 ∧ Sk a 66 [(2, .pointer (some ⟨b32, 0, none⟩)), (3, .pointer (some ⟨b94, 0, none⟩))] ∧ Below w0.heap.size w0 w ∧ Row 1 RInt 2 w0.heap.size w v162 s160 rb163 ([]) ∧ Row 1 RInt 2 w0.heap.size w v54 z39.numbers rb55 ([]) ∧ Row 3 RArcStep 133 w0.heap.size w v46 z39.arcs rb47 ([]) ∧ Row 3 RPairStep 136 w0.heap.size w v50 z39.pairs rb51 ([]) ∧ Blk w b32 #[.int .i64 0, (.slice none 0 0), (.slice none 0 0), (.slice none 0 0), (.slice none 0 0)] 73 ∧ Blk w b94 #[.int .i64 z39.kind, v162, v46, v50, v54] 73 ∧ Dj (rb163 ++ []) [b32] ∧ Dj (rb163 ++ []) [b94] ∧ Dj (rb55 ++ []) rb163 ∧ Dj (rb163 ++ []) rb55 ∧ Dj (rb47 ++ []) rb163 ∧ Dj (rb163 ++ []) rb47 ∧ Dj (rb51 ++ []) rb163 ∧ Dj (rb163 ++ []) rb51) ?_ ?_
    · refine x_if F rfl (fun hb173 => ?_) (fun hb173 => ?_)
      · replace hR := ifT hb173 hR
        refine x_seq ?_
        refine x_reg ?_
        refine o_bfield fa73_1 F rfl rfl rfl (fun a F => ?_)
        refine o_bload Try.isAgg34 F rfl rfl K95 rfl (fun a F => ?_)
        obtain ⟨z174, c175, hR⟩ := bnd_some hR
        refine o_rindex Try.underlying34 Try.sizeOf2 F rfl rfl rfl h45 c175 (fun a p176 b177 h178 s179 rp180 F => ?_)
        have i181 := (h178).i64
        refine o_loadI Try.isAgg2 F rfl rfl h178 (fun a F => ?_)
        refine o_gtr F rfl rfl rfl (fun a F => ?_)
        refine x_end ?_
        refine x_tn ?_
        refine x_if F rfl (fun hb182 => ?_) (fun hb182 => ?_)
        · replace hR := ifT hb182 hR
          refine x_reg ?_
          refine o_bfield fa73_1 F rfl rfl rfl (fun a F => ?_)
          refine o_bload Try.isAgg34 F rfl rfl K95 rfl (fun a F => ?_)
          refine o_rindex Try.underlying34 Try.sizeOf2 F rfl rfl rfl h45 c175 (fun a p183 b184 h185 s186 rp187 F => ?_)
          refine o_rstore Try.sizeOf2 F rfl rfl rfl h45 rp187 (ix_lt c175) (El.int (show I64 (0) by decide)) rfl (Dj.nil _) (fun w ib189 h188 l s190 keep => ?_)
          obtain rfl : ib189 = [] := sub_nil_nil s190
          have d192 := keep _ (inm1 K12) d70
          have d193 := keep _ (inm1 K33) d71
          have d194 := keep _ h49.rd.m (Dj.symm (Dj.l dj59))
          have d195 := keep _ h53.rd.m (Dj.symm (Dj.l dj60))
          have d196 := keep _ h57.rd.m (Dj.symm (Dj.l dj61))
          have d197 := keep _ (inm1 K95) d97
          replace hB := hB.o l h45.lo hB.size
          replace h57 := h57.goO l (Dj.symm (Dj.l dj61))
          replace h49 := h49.goO l (Dj.symm (Dj.l dj59))
          replace h53 := h53.goO l (Dj.symm (Dj.l dj60))
          replace K33 := K33.only l d71.not
          replace K95 := K95.only l d97.not
          refine x_end ?_
          refine x_tn ?_
          exact ⟨(z39.values.set (0 : Int).toNat 0), v42, rb43, (Option.some.inj hR).symm, F.sub (sc rfl (sc rfl sn)), hB, h188, h57, h49, h53, K33, K95, (Dj.app' (Dj.symm d193) (Dj.nil' _)), (Dj.app' (Dj.symm d197) (Dj.nil' _)), d196, (Dj.app' (Dj.symm (Dj.l d196)) (Dj.nil' _)), d194, (Dj.app' (Dj.symm (Dj.l d194)) (Dj.nil' _)), d195, (Dj.app' (Dj.symm (Dj.l d195)) (Dj.nil' _))⟩
        · replace hR := ifF hb182 hR
          refine x_drawn (by kernel_rfl) (fun w l => ?_)
          replace hB := Below.through l hB
          replace h57 := h57.go l
          replace h45 := h45.go l
          replace h49 := h49.go l
          replace h53 := h53.go l
          replace K33 := K33.thru l
          replace K95 := K95.thru l
          refine b_q 0 rfl (by kernel_rfl) (by kernel_rfl) (by kernel_rfl) (by kernel_rfl) ?_
          refine v_val F rfl (fun w l => r_bfield fa73_1 F rfl rfl) (fun a F => ?_)
          refine b_q 1 rfl (by kernel_rfl) (by kernel_rfl) (by kernel_rfl) (by kernel_rfl) ?_
          refine v_val F rfl (fun w l => r_load1 Try.isAgg34 F rfl (((K95.thru l).cell _).trans rfl)) (fun a F => ?_)
          refine b_q 2 rfl (by kernel_rfl) (by kernel_rfl) (by kernel_rfl) (by kernel_rfl) ?_
          refine v_val F rfl (fun w l => r_bfield fa73_1 F rfl rfl) (fun a F => ?_)
          refine b_q 3 rfl (by kernel_rfl) (by kernel_rfl) (by kernel_rfl) (by kernel_rfl) ?_
          refine v_val F rfl (fun w l => r_load1 Try.isAgg34 F rfl (((K95.thru l).cell _).trans rfl)) (fun a F => ?_)
          refine b_q 4 rfl (by kernel_rfl) (by kernel_rfl) (by kernel_rfl) (by kernel_rfl) ?_
          refine v_index Try.underlying34 Try.sizeOf2 F rfl rfl rfl h45.rd c175 (fun a p198 b199 h200 s201 F => ?_)
          refine b_q 5 rfl (by kernel_rfl) (by kernel_rfl) (by kernel_rfl) (by kernel_rfl) ?_
          have i202 := (h200).i64
          refine v_val F rfl (fun w l => r_loadI Try.isAgg2 F rfl ((h200).go l)) (fun a F => ?_)
          refine b_q 6 rfl (by kernel_rfl) (by kernel_rfl) (by kernel_rfl) (by kernel_rfl) ?_
          refine v_val F rfl (fun w l => r_subW F rfl rfl) (fun a F => ?_)
          refine b_e 7 rfl (by kernel_rfl) ?_
          refine o_rindex Try.underlying34 Try.sizeOf2 F rfl rfl rfl h45 c175 (fun a p203 b204 h205 s206 rp207 F => ?_)
          refine x_end ?_
          refine x_tn ?_
          refine ⟨.inl (Below.refl _ _), ?_⟩
          refine b_e 8 rfl (by kernel_rfl) ?_
          refine o_rstore Try.sizeOf2 F rfl rfl rfl h45 rp207 (ix_lt c175) (El.int (wr64 _)) rfl (Dj.nil _) (fun w ib209 h208 l s210 keep => ?_)
          obtain rfl : ib209 = [] := sub_nil_nil s210
          have d212 := keep _ (inm1 K33) d71
          have d213 := keep _ h49.rd.m (Dj.symm (Dj.l dj59))
          have d214 := keep _ h53.rd.m (Dj.symm (Dj.l dj60))
          have d215 := keep _ h57.rd.m (Dj.symm (Dj.l dj61))
          have d216 := keep _ (inm1 K95) d97
          replace hB := hB.o l h45.lo hB.size
          replace h57 := h57.goO l (Dj.symm (Dj.l dj61))
          replace h49 := h49.goO l (Dj.symm (Dj.l dj59))
          replace h53 := h53.goO l (Dj.symm (Dj.l dj60))
          replace K33 := K33.only l d71.not
          replace K95 := K95.only l d97.not
          refine x_end ?_
          refine x_tn ?_
          refine ⟨.inr (by kernel_rfl), ?_⟩
          refine b_end (by kernel_rfl) ?_
          refine x_tn ?_
          exact ⟨(z39.values.set (0 : Int).toNat (IntKind.i64.wrap (1 - z174))), v42, rb43, (Option.some.inj hR).symm, F.sub (sc rfl (sc rfl sn)), hB, h208, h57, h49, h53, K33, K95, (Dj.app' (Dj.symm d212) (Dj.nil' _)), (Dj.app' (Dj.symm d216) (Dj.nil' _)), d215, (Dj.app' (Dj.symm (Dj.l d215)) (Dj.nil' _)), d213, (Dj.app' (Dj.symm (Dj.l d213)) (Dj.nil' _)), d214, (Dj.app' (Dj.symm (Dj.l d214)) (Dj.nil' _))⟩
      · replace hR := ifF hb173 hR
        refine x_skip ?_
        refine x_tn ?_
        exact ⟨z39.values, v42, rb43, (Option.some.inj hR).symm, F.sub (sc rfl (sc rfl sn)), hB, h45, h57, h49, h53, K33, K95, (Dj.app' (Dj.symm d71) (Dj.nil' _)), d108, (Dj.symm (Dj.l dj61)), (Dj.symm (Dj.l (Dj.symm dj61))), (Dj.symm (Dj.l dj59)), (Dj.symm (Dj.l (Dj.symm dj59))), (Dj.symm (Dj.l dj60)), (Dj.symm (Dj.l (Dj.symm dj60)))⟩
    · intro a w ⟨s160, v162, rb163, ho159, F, hB, h164, h57, h49, h53, K33, K95, d165, d166, d167, d168, d169, d170, d171, d172⟩
      subst ho159
      have hR := then_nx hk158
      refine x_tn ?_
      refine x_seq ?_
      refine x_reg ?_
      refine o_bloadA (cs := [.int .i64 z39.kind, v162, v46, v50, v54]) Try.isAgg73 Try.sizeOf73 F rfl rfl K95 rfl (fun j hj => by match j, hj with | 0, _ => rfl | 1, _ => rfl | 2, _ => rfl | 3, _ => rfl | 4, _ => rfl) (fun a F => ?_)
      have h217 := RVerdict.mk2 (w := w) i41 h164.rd h49.rd h53.rd h57.rd
      refine o_bstoreA (vs := [.int .i64 z39.kind, v162, v46, v50, v54]) Try.sizeOf73 F rfl rfl rfl K33 (oc rfl (oc (h164.rd).r.one (oc (h49.rd).r.one (oc (h53.rd).r.one (oc (h57.rd).r.one on))))) (Nat.le_of_ble_eq_true rfl) rfl (fun w K33 l => ?_)
      replace hB := hB.o l (fun c hc => by rw [List.mem_singleton] at hc; rw [hc]; exact CK33) hB.size
      replace h57 := h57.goO l (Dj.app' (Dj.symm d92) (Dj.nil' _))
      replace h49 := h49.goO l (Dj.app' (Dj.symm d78) (Dj.nil' _))
      replace h53 := h53.goO l (Dj.app' (Dj.symm d85) (Dj.nil' _))
      replace h164 := h164.goO l d165
      refine x_end ?_
      refine x_tn ?_
      refine x_ret ?_
      refine x_tr ?_
      refine x_res1 F rfl (rv_cA (arr := #[.int .i64 z39.kind, v162, v46, v50, v54]) F Try.isAgg73 Try.sizeOf73 rfl K33) ?_
      obtain rfl := Option.some.inj hR
      exact ⟨_, rfl, hB, v162, rb163, v46, (rb47 ++ []), v50, (rb51 ++ []), v54, (rb55 ++ []), rfl, i41, h164, h49.rd, h53.rd, h57.rd⟩
  · replace hR := ifF hb111 hR
    refine x_skip ?_
    refine x_tn ?_
    refine x_seq ?_
    refine x_seq ?_
    refine x_reg ?_
    refine o_bfield fa73_2 F rfl rfl rfl (fun a F => ?_)
    refine o_bload Try.isAgg70 F rfl rfl K95 rfl (fun a F => ?_)
    refine o_len Try.underlying70 F rfl rfl h49.rd (fun a F => ?_)
    have i218 := (h49.rd).r.len64
    refine o_gtr F rfl rfl rfl (fun a F => ?_)
    refine x_end ?_
    refine x_tn ?_
    obtain ⟨o229, hR, hk230⟩ := thn_some hR
    refine x_cutQ (fun a w => ∃ (s232 : List ArcStep) (v233 : Value) (b234 : List Nat), o229 = .nx s232 ∧ Sk a 66 [(2, .pointer (some ⟨b32, 0, none⟩)), (3, .pointer (some ⟨b94, 0, none⟩))] ∧ Below w0.heap.size w0 w ∧ Rd (Sl 3 RArcStep) w v233 s232 b234 ∧ Row 1 RInt 2 w0.heap.size w v54 z39.numbers rb55 ([]) ∧ Row 1 RInt 2 w0.heap.size w v42 z39.values rb43 ([]) ∧ Row 3 RPairStep 136 w0.heap.size w v50 z39.pairs rb51 ([]) ∧ Blk w b32 #[.int .i64 0, (.slice none 0 0), (.slice none 0 0), (.slice none 0 0), (.slice none 0 0)] 73 ∧ Blk w b94 #[.int .i64 z39.kind, v42, v233, v50, v54] 73 ∧ Dj b234 [b32] ∧ Dj b234 [b94] ∧ Dj b234 rb55 ∧ Dj b234 rb43 ∧ Dj b234 rb51) ?_ ?_
    · refine x_if F rfl (fun hb241 => ?_) (fun hb241 => ?_)
      · replace hR := ifT hb241 hR
        refine x_reg ?_
        refine o_bfield fa73_2 F rfl rfl rfl (fun a F => ?_)
        refine o_bload Try.isAgg70 F rfl rfl K95 rfl (fun a F => ?_)
        refine o_bfield fa73_2 F rfl rfl rfl (fun a F => ?_)
        refine o_bload Try.isAgg70 F rfl rfl K95 rfl (fun a F => ?_)
        refine o_len Try.underlying70 F rfl rfl h49.rd (fun a F => ?_)
        have i242 := (h49.rd).r.len64
        obtain ⟨z243, c244, hR⟩ := bnd_some hR
        refine o_sub F rfl rfl rfl c244 (fun a F => ?_)
        obtain ⟨z245, c246, hR⟩ := bnd_some hR
        refine o_sliceh Try.underlying70 Try.sizeOf133 F rfl rfl rfl h49.rd c246 (fun a v247 b248 h249 s250 F => ?_)
        refine o_bfield fa73_2 F rfl rfl rfl (fun a F => ?_)
        refine o_bstore Try.sizeOf70 F rfl rfl rfl K95 (h249).r.one (by simp) rfl (fun w K95 l => ?_)
        replace hB := hB.o l (fun c hc => by rw [List.mem_singleton] at hc; rw [hc]; exact CK95) hB.size
        replace h57 := h57.goO l d107
        replace h45 := h45.goO l d108
        replace h53 := h53.goO l d110
        replace h249 := h249.goO l (Dj.sub d109 s250)
        replace K33 := K33.only l (by simpa using nb101)
        refine x_end ?_
        refine x_tn ?_
        exact ⟨z245, v247, b248, (Option.some.inj hR).symm, F.sub (sc rfl (sc rfl sn)), hB, h249, h57, h45, h53, K33, K95, (Dj.sub (Dj.app' (Dj.symm d78) (Dj.nil' _)) s250), (Dj.sub d109 s250), (Dj.sub (Dj.symm (Dj.l (Dj.symm dj63))) s250), (Dj.sub (Dj.symm (Dj.l dj59)) s250), (Dj.sub (Dj.symm (Dj.l (Dj.symm dj62))) s250)⟩
      · replace hR := ifF hb241 hR
        refine x_skip ?_
        refine x_tn ?_
        exact ⟨z39.arcs, v46, (rb47 ++ []), (Option.some.inj hR).symm, F.sub (sc rfl (sc rfl sn)), hB, h49.rd, h57, h45, h53, K33, K95, (Dj.app' (Dj.symm d78) (Dj.nil' _)), d109, (Dj.symm (Dj.l (Dj.symm dj63))), (Dj.symm (Dj.l dj59)), (Dj.symm (Dj.l (Dj.symm dj62)))⟩
    · intro a w ⟨s232, v233, b234, ho231, F, hB, h235, h57, h45, h53, K33, K95, d236, d237, d238, d239, d240⟩
      subst ho231
      have hR := then_nx hk230
      refine x_tn ?_
      refine x_seq ?_
      refine x_seq ?_
      refine x_reg ?_
      refine o_bfield fa73_3 F rfl rfl rfl (fun a F => ?_)
      refine o_bload Try.isAgg71 F rfl rfl K95 rfl (fun a F => ?_)
      refine o_len Try.underlying71 F rfl rfl h53.rd (fun a F => ?_)
      have i251 := (h53.rd).r.len64
      refine o_gtr F rfl rfl rfl (fun a F => ?_)
      refine x_end ?_
      refine x_tn ?_
      obtain ⟨o262, hR, hk263⟩ := thn_some hR
      refine x_cutQ (fun a w => ∃ (s265 : List PairStep) (v266 : Value) (b267 : List Nat), o262 = .nx s265 ∧ Sk a 66 [(2, .pointer (some ⟨b32, 0, none⟩)), (3, .pointer (some ⟨b94, 0, none⟩))] ∧ Below w0.heap.size w0 w ∧ Rd (Sl 3 RPairStep) w v266 s265 b267 ∧ Row 1 RInt 2 w0.heap.size w v54 z39.numbers rb55 ([]) ∧ Row 1 RInt 2 w0.heap.size w v42 z39.values rb43 ([]) ∧ Rd (Sl 3 RArcStep) w v233 s232 b234 ∧ Blk w b32 #[.int .i64 0, (.slice none 0 0), (.slice none 0 0), (.slice none 0 0), (.slice none 0 0)] 73 ∧ Blk w b94 #[.int .i64 z39.kind, v42, v233, v266, v54] 73 ∧ Dj b267 [b32] ∧ Dj b267 [b94] ∧ Dj b267 rb55 ∧ Dj b267 rb43) ?_ ?_
      · refine x_if F rfl (fun hb273 => ?_) (fun hb273 => ?_)
        · replace hR := ifT hb273 hR
          refine x_reg ?_
          refine o_bfield fa73_3 F rfl rfl rfl (fun a F => ?_)
          refine o_bload Try.isAgg71 F rfl rfl K95 rfl (fun a F => ?_)
          refine o_bfield fa73_3 F rfl rfl rfl (fun a F => ?_)
          refine o_bload Try.isAgg71 F rfl rfl K95 rfl (fun a F => ?_)
          refine o_len Try.underlying71 F rfl rfl h53.rd (fun a F => ?_)
          have i274 := (h53.rd).r.len64
          obtain ⟨z275, c276, hR⟩ := bnd_some hR
          refine o_sub F rfl rfl rfl c276 (fun a F => ?_)
          obtain ⟨z277, c278, hR⟩ := bnd_some hR
          refine o_sliceh Try.underlying71 Try.sizeOf136 F rfl rfl rfl h53.rd c278 (fun a v279 b280 h281 s282 F => ?_)
          refine o_bfield fa73_3 F rfl rfl rfl (fun a F => ?_)
          refine o_bstore Try.sizeOf71 F rfl rfl rfl K95 (h281).r.one (by simp) rfl (fun w K95 l => ?_)
          replace hB := hB.o l (fun c hc => by rw [List.mem_singleton] at hc; rw [hc]; exact CK95) hB.size
          replace h57 := h57.goO l d107
          replace h45 := h45.goO l d108
          replace h235 := h235.goO l d237
          replace h281 := h281.goO l (Dj.sub d110 s282)
          replace K33 := K33.only l (by simpa using nb101)
          refine x_end ?_
          refine x_tn ?_
          exact ⟨z277, v279, b280, (Option.some.inj hR).symm, F.sub (sc rfl (sc rfl sn)), hB, h281, h57, h45, h235, K33, K95, (Dj.sub (Dj.app' (Dj.symm d85) (Dj.nil' _)) s282), (Dj.sub d110 s282), (Dj.sub (Dj.symm (Dj.l (Dj.symm dj64))) s282), (Dj.sub (Dj.symm (Dj.l dj60)) s282)⟩
        · replace hR := ifF hb273 hR
          refine x_skip ?_
          refine x_tn ?_
          exact ⟨z39.pairs, v50, (rb51 ++ []), (Option.some.inj hR).symm, F.sub (sc rfl (sc rfl sn)), hB, h53.rd, h57, h45, h235, K33, K95, (Dj.app' (Dj.symm d85) (Dj.nil' _)), d110, (Dj.symm (Dj.l (Dj.symm dj64))), (Dj.symm (Dj.l dj60))⟩
      · intro a w ⟨s265, v266, b267, ho264, F, hB, h268, h57, h45, h235, K33, K95, d269, d270, d271, d272⟩
        subst ho264
        have hR := then_nx hk263
        refine x_tn ?_
        refine x_seq ?_
        refine x_seq ?_
        refine x_reg ?_
        refine o_bfield fa73_4 F rfl rfl rfl (fun a F => ?_)
        refine o_bload Try.isAgg34 F rfl rfl K95 rfl (fun a F => ?_)
        refine o_len Try.underlying34 F rfl rfl h57.rd (fun a F => ?_)
        have i283 := (h57.rd).r.len64
        refine o_gtr F rfl rfl rfl (fun a F => ?_)
        refine x_end ?_
        refine x_tn ?_
        refine x_if F rfl (fun hb284 => ?_) (fun hb284 => ?_)
        · replace hR := ifT hb284 hR
          refine x_reg ?_
          refine o_bfield fa73_4 F rfl rfl rfl (fun a F => ?_)
          refine o_bload Try.isAgg34 F rfl rfl K95 rfl (fun a F => ?_)
          refine o_bfield fa73_4 F rfl rfl rfl (fun a F => ?_)
          refine o_bload Try.isAgg34 F rfl rfl K95 rfl (fun a F => ?_)
          refine o_len Try.underlying34 F rfl rfl h57.rd (fun a F => ?_)
          have i285 := (h57.rd).r.len64
          obtain ⟨z286, c287, hR⟩ := bnd_some hR
          refine o_sub F rfl rfl rfl c287 (fun a F => ?_)
          obtain ⟨z288, c289, hR⟩ := bnd_some hR
          refine o_sliceh Try.underlying34 Try.sizeOf2 F rfl rfl rfl h57.rd c289 (fun a v290 b291 h292 s293 F => ?_)
          refine o_bfield fa73_4 F rfl rfl rfl (fun a F => ?_)
          refine o_bstore Try.sizeOf34 F rfl rfl rfl K95 (h292).r.one (by simp) rfl (fun w K95 l => ?_)
          replace hB := hB.o l (fun c hc => by rw [List.mem_singleton] at hc; rw [hc]; exact CK95) hB.size
          replace h45 := h45.goO l d108
          replace h235 := h235.goO l d237
          replace h268 := h268.goO l d270
          replace h292 := h292.goO l (Dj.sub d107 s293)
          replace K33 := K33.only l (by simpa using nb101)
          refine x_end ?_
          refine x_tn ?_
          refine x_seq ?_
          refine x_reg ?_
          refine o_bloadA (cs := [.int .i64 z39.kind, v42, v233, v266, v290]) Try.isAgg73 Try.sizeOf73 F rfl rfl K95 rfl (fun j hj => by match j, hj with | 0, _ => rfl | 1, _ => rfl | 2, _ => rfl | 3, _ => rfl | 4, _ => rfl) (fun a F => ?_)
          have h294 := RVerdict.mk2 (w := w) i41 h45.rd h235 h268 h292
          refine o_bstoreA (vs := [.int .i64 z39.kind, v42, v233, v266, v290]) Try.sizeOf73 F rfl rfl rfl K33 (oc rfl (oc (h45.rd).r.one (oc (h235).r.one (oc (h268).r.one (oc (h292).r.one on))))) (Nat.le_of_ble_eq_true rfl) rfl (fun w K33 l => ?_)
          replace hB := hB.o l (fun c hc => by rw [List.mem_singleton] at hc; rw [hc]; exact CK33) hB.size
          replace h45 := h45.goO l (Dj.app' (Dj.symm d71) (Dj.nil' _))
          replace h235 := h235.goO l d236
          replace h268 := h268.goO l d269
          replace h292 := h292.goO l (Dj.sub (Dj.app' (Dj.symm d92) (Dj.nil' _)) s293)
          refine x_end ?_
          refine x_tn ?_
          refine x_ret ?_
          refine x_res1 F rfl (rv_cA (arr := #[.int .i64 z39.kind, v42, v233, v266, v290]) F Try.isAgg73 Try.sizeOf73 rfl K33) ?_
          obtain rfl := Option.some.inj hR
          exact ⟨_, rfl, hB, v42, rb43, v233, b234, v266, b267, v290, b291, rfl, i41, h45, h235, h268, h292⟩
        · replace hR := ifF hb284 hR
          refine x_skip ?_
          refine x_tn ?_
          refine x_seq ?_
          refine x_reg ?_
          refine o_bloadA (cs := [.int .i64 z39.kind, v42, v233, v266, v54]) Try.isAgg73 Try.sizeOf73 F rfl rfl K95 rfl (fun j hj => by match j, hj with | 0, _ => rfl | 1, _ => rfl | 2, _ => rfl | 3, _ => rfl | 4, _ => rfl) (fun a F => ?_)
          have h295 := RVerdict.mk2 (w := w) i41 h45.rd h235 h268 h57.rd
          refine o_bstoreA (vs := [.int .i64 z39.kind, v42, v233, v266, v54]) Try.sizeOf73 F rfl rfl rfl K33 (oc rfl (oc (h45.rd).r.one (oc (h235).r.one (oc (h268).r.one (oc (h57.rd).r.one on))))) (Nat.le_of_ble_eq_true rfl) rfl (fun w K33 l => ?_)
          replace hB := hB.o l (fun c hc => by rw [List.mem_singleton] at hc; rw [hc]; exact CK33) hB.size
          replace h57 := h57.goO l (Dj.app' (Dj.symm d92) (Dj.nil' _))
          replace h45 := h45.goO l (Dj.app' (Dj.symm d71) (Dj.nil' _))
          replace h235 := h235.goO l d236
          replace h268 := h268.goO l d269
          refine x_end ?_
          refine x_tn ?_
          refine x_ret ?_
          refine x_res1 F rfl (rv_cA (arr := #[.int .i64 z39.kind, v42, v233, v266, v54]) F Try.isAgg73 Try.sizeOf73 rfl K33) ?_
          obtain rfl := Option.some.inj hR
          exact ⟨_, rfl, hB, v42, rb43, v233, b234, v266, b267, v54, (rb55 ++ []), rfl, i41, h45, h235, h268, h57.rd⟩
end Go.Proofs.Ytmfichdcomaaeaa
