/-
  Functions of the program as plain functions, and that they compute them. Printed by fxgen.py.
-/
import Derived.Test.YtmfichdcomaaeaaZ
namespace Go.Proofs.Ytmfichdcomaaeaa
set_option linter.unusedVariables false
set_option linter.unusedSimpArgs false
set_option maxRecDepth 100000
open Go.RowKit
def impl_within (x0 : Int) (x1 : Int) (x2 : Int) : Option Bool :=
  thn (σ := Bool) (
    if (decide (x1 ≤ x0)) then   some (.nx (decide (x0 ≤ x2))) else   some (.nx false)) fun s5 =>
  some s5
set_option maxHeartbeats 1000000 in
theorem impl_within_c {x0 : Int} {x1 : Int} {x2 : Int} (r : Bool) (hR : impl_within x0 x1 x2 = some r)  (w0 : World) (hx0 : I64 x0) (hx1 : I64 x1) (hx2 : I64 x2) : Calls Try.prog 60 #[.int .i64 x0, .int .i64 x1, .int .i64 x2] w0 (Says (.bool r) w0) := by
  unfold impl_within at hR
  refine x_enter (L := [(0, .int .i64 x0), (1, .int .i64 x1), (2, .int .i64 x2)]) Try.func60 rfl rfl rfl (sc rfl (sc rfl (sc rfl sn))) (fun a F => ?_)
  have hB := Below.refl w0.heap.size w0
  refine x_seq ?_
  refine x_reg ?_
  refine o_assign F rfl rfl (fun a F => ?_)
  refine x_end ?_
  refine x_tn ?_
  refine x_seq ?_
  obtain ⟨o2, hR, hk3⟩ := thn_some hR
  refine x_cutQ (fun a w => ∃ (s5 : Bool), o2 = .nx s5 ∧ Sk a 15 [(6, .bool s5)] ∧ Below w0.heap.size w0 w) ?_ ?_
  · refine x_reg ?_
    refine o_move F rfl rfl (fun a F => ?_)
    refine o_move F rfl rfl (fun a F => ?_)
    refine o_geq F rfl rfl rfl (fun a F => ?_)
    refine o_move F rfl rfl (fun a F => ?_)
    rcases bcases (decide (x1 ≤ x0)) with hb6 | hb6
    · replace hR := ifT hb6 hR
      have F := F.eq (t := 10) rfl (congrArg Value.bool hb6)
      refine o_move F rfl rfl (fun a F => ?_)
      refine o_move F rfl rfl (fun a F => ?_)
      refine o_leq F rfl rfl rfl (fun a F => ?_)
      refine o_pickt F rfl rfl rfl (fun a F => ?_)
      refine o_assign F rfl rfl (fun a F => ?_)
      refine x_end ?_
      refine x_tn ?_
      exact ⟨(decide (x0 ≤ x2)), (Option.some.inj hR).symm, F.sub (sc rfl sn), hB⟩
    · replace hR := ifF hb6 hR
      have F := F.eq (t := 10) rfl (congrArg Value.bool hb6)
      refine o_no F rfl rfl (fun a F => ?_)
      refine o_no F rfl rfl (fun a F => ?_)
      refine o_no F rfl rfl (fun a F => ?_)
      refine o_pickf F rfl rfl rfl (fun a F => ?_)
      refine o_assign F rfl rfl (fun a F => ?_)
      refine x_end ?_
      refine x_tn ?_
      exact ⟨false, (Option.some.inj hR).symm, F.sub (sc rfl sn), hB⟩
  · intro a w ⟨s5, ho4, F, hB⟩
    subst ho4
    have hR := then_nx hk3
    refine x_tn ?_
    refine x_ret ?_
    refine x_res1 F rfl (rv_t F rfl) ?_
    obtain rfl := Option.some.inj hR
    exact ⟨rfl, hB⟩

def impl_isSize (x0 : Int) : Option Bool :=
  bnd (impl_within x0 1 4) fun z1 =>
  some z1
set_option maxHeartbeats 1000000 in
theorem impl_isSize_c {x0 : Int} (r : Bool) (hR : impl_isSize x0 = some r)  (w0 : World) (hx0 : I64 x0) : Calls Try.prog 136 #[.int .i64 x0] w0 (Says (.bool r) w0) := by
  unfold impl_isSize at hR
  refine x_enter (L := [(0, .int .i64 x0)]) Try.func136 rfl rfl rfl (sc rfl sn) (fun a F => ?_)
  have hB := Below.refl w0.heap.size w0
  refine x_seq ?_
  refine x_reg ?_
  refine o_assign F rfl rfl (fun a F => ?_)
  refine x_end ?_
  refine x_tn ?_
  refine x_seq ?_
  refine x_reg ?_
  refine o_move F rfl rfl (fun a F => ?_)
  obtain ⟨z1, c2, hR⟩ := bnd_some hR
  refine o_says F rfl Try.call60 rfl (impl_within_c z1 c2 _ hx0 (show I64 (1) by decide) (show I64 (4) by decide)) (fun a w l F => ?_)
  replace hB := Below.through l hB
  refine o_assign F rfl rfl (fun a F => ?_)
  refine x_end ?_
  refine x_tn ?_
  refine x_ret ?_
  refine x_res1 F rfl (rv_t F rfl) ?_
  obtain rfl := Option.some.inj hR
  exact ⟨rfl, hB⟩

def impl_isArity (x0 : Int) : Option Bool :=
  bnd (impl_within x0 1 4) fun z1 =>
  some z1
set_option maxHeartbeats 1000000 in
theorem impl_isArity_c {x0 : Int} (r : Bool) (hR : impl_isArity x0 = some r)  (w0 : World) (hx0 : I64 x0) : Calls Try.prog 137 #[.int .i64 x0] w0 (Says (.bool r) w0) := by
  unfold impl_isArity at hR
  refine x_enter (L := [(0, .int .i64 x0)]) Try.func137 rfl rfl rfl (sc rfl sn) (fun a F => ?_)
  have hB := Below.refl w0.heap.size w0
  refine x_seq ?_
  refine x_reg ?_
  refine o_assign F rfl rfl (fun a F => ?_)
  refine x_end ?_
  refine x_tn ?_
  refine x_seq ?_
  refine x_reg ?_
  refine o_move F rfl rfl (fun a F => ?_)
  obtain ⟨z1, c2, hR⟩ := bnd_some hR
  refine o_says F rfl Try.call60 rfl (impl_within_c z1 c2 _ hx0 (show I64 (1) by decide) (show I64 (4) by decide)) (fun a w l F => ?_)
  replace hB := Below.through l hB
  refine o_assign F rfl rfl (fun a F => ?_)
  refine x_end ?_
  refine x_tn ?_
  refine x_ret ?_
  refine x_res1 F rfl (rv_t F rfl) ?_
  obtain rfl := Option.some.inj hR
  exact ⟨rfl, hB⟩

def impl_isValue (x0 : Int) (x1 : Int) : Option Bool :=
  bnd (ck (x0 - 1)) fun z1 =>
  bnd (impl_within x1 0 z1) fun z3 =>
  some z3
set_option maxHeartbeats 1000000 in
theorem impl_isValue_c {x0 : Int} {x1 : Int} (r : Bool) (hR : impl_isValue x0 x1 = some r)  (w0 : World) (hx0 : I64 x0) (hx1 : I64 x1) : Calls Try.prog 119 #[.int .i64 x0, .int .i64 x1] w0 (Says (.bool r) w0) := by
  unfold impl_isValue at hR
  refine x_enter (L := [(0, .int .i64 x0), (1, .int .i64 x1)]) Try.func119 rfl rfl rfl (sc rfl (sc rfl sn)) (fun a F => ?_)
  have hB := Below.refl w0.heap.size w0
  refine x_seq ?_
  refine x_reg ?_
  refine o_assign F rfl rfl (fun a F => ?_)
  refine x_end ?_
  refine x_tn ?_
  refine x_seq ?_
  refine x_reg ?_
  refine o_move F rfl rfl (fun a F => ?_)
  refine o_move F rfl rfl (fun a F => ?_)
  obtain ⟨z1, c2, hR⟩ := bnd_some hR
  refine o_sub F rfl rfl rfl c2 (fun a F => ?_)
  obtain ⟨z3, c4, hR⟩ := bnd_some hR
  refine o_says F rfl Try.call60 rfl (impl_within_c z3 c4 _ hx1 (show I64 (0) by decide) (ck64 c2)) (fun a w l F => ?_)
  replace hB := Below.through l hB
  refine o_assign F rfl rfl (fun a F => ?_)
  refine x_end ?_
  refine x_tn ?_
  refine x_ret ?_
  refine x_res1 F rfl (rv_t F rfl) ?_
  obtain rfl := Option.some.inj hR
  exact ⟨rfl, hB⟩

def spec_l00In (x0 : Int) (x1 : Int) (x2 : Int) : Option Bool :=
  thn (σ := Bool) (
    if (decide (x1 ≤ x0)) then   some (.nx (decide (x0 ≤ x2))) else   some (.nx false)) fun s5 =>
  some s5
set_option maxHeartbeats 1000000 in
theorem spec_l00In_c {x0 : Int} {x1 : Int} {x2 : Int} (r : Bool) (hR : spec_l00In x0 x1 x2 = some r)  (w0 : World) (hx0 : I64 x0) (hx1 : I64 x1) (hx2 : I64 x2) : Calls Try.prog 116 #[.int .i64 x0, .int .i64 x1, .int .i64 x2] w0 (Says (.bool r) w0) := by
  unfold spec_l00In at hR
  refine x_enter (L := [(0, .int .i64 x0), (1, .int .i64 x1), (2, .int .i64 x2)]) Try.func116 rfl rfl rfl (sc rfl (sc rfl (sc rfl sn))) (fun a F => ?_)
  have hB := Below.refl w0.heap.size w0
  refine x_seq ?_
  refine x_reg ?_
  refine o_assign F rfl rfl (fun a F => ?_)
  refine x_end ?_
  refine x_tn ?_
  refine x_seq ?_
  obtain ⟨o2, hR, hk3⟩ := thn_some hR
  refine x_cutQ (fun a w => ∃ (s5 : Bool), o2 = .nx s5 ∧ Sk a 15 [(6, .bool s5)] ∧ Below w0.heap.size w0 w) ?_ ?_
  · refine x_reg ?_
    refine o_move F rfl rfl (fun a F => ?_)
    refine o_move F rfl rfl (fun a F => ?_)
    refine o_geq F rfl rfl rfl (fun a F => ?_)
    refine o_move F rfl rfl (fun a F => ?_)
    rcases bcases (decide (x1 ≤ x0)) with hb6 | hb6
    · replace hR := ifT hb6 hR
      have F := F.eq (t := 10) rfl (congrArg Value.bool hb6)
      refine o_move F rfl rfl (fun a F => ?_)
      refine o_move F rfl rfl (fun a F => ?_)
      refine o_leq F rfl rfl rfl (fun a F => ?_)
      refine o_pickt F rfl rfl rfl (fun a F => ?_)
      refine o_assign F rfl rfl (fun a F => ?_)
      refine x_end ?_
      refine x_tn ?_
      exact ⟨(decide (x0 ≤ x2)), (Option.some.inj hR).symm, F.sub (sc rfl sn), hB⟩
    · replace hR := ifF hb6 hR
      have F := F.eq (t := 10) rfl (congrArg Value.bool hb6)
      refine o_no F rfl rfl (fun a F => ?_)
      refine o_no F rfl rfl (fun a F => ?_)
      refine o_no F rfl rfl (fun a F => ?_)
      refine o_pickf F rfl rfl rfl (fun a F => ?_)
      refine o_assign F rfl rfl (fun a F => ?_)
      refine x_end ?_
      refine x_tn ?_
      exact ⟨false, (Option.some.inj hR).symm, F.sub (sc rfl sn), hB⟩
  · intro a w ⟨s5, ho4, F, hB⟩
    subst ho4
    have hR := then_nx hk3
    refine x_tn ?_
    refine x_ret ?_
    refine x_res1 F rfl (rv_t F rfl) ?_
    obtain rfl := Option.some.inj hR
    exact ⟨rfl, hB⟩

def spec_l01Size (x0 : Int) : Option Bool :=
  bnd (spec_l00In x0 1 4) fun z1 =>
  some z1
set_option maxHeartbeats 1000000 in
theorem spec_l01Size_c {x0 : Int} (r : Bool) (hR : spec_l01Size x0 = some r)  (w0 : World) (hx0 : I64 x0) : Calls Try.prog 130 #[.int .i64 x0] w0 (Says (.bool r) w0) := by
  unfold spec_l01Size at hR
  refine x_enter (L := [(0, .int .i64 x0)]) Try.func130 rfl rfl rfl (sc rfl sn) (fun a F => ?_)
  have hB := Below.refl w0.heap.size w0
  refine x_seq ?_
  refine x_reg ?_
  refine o_assign F rfl rfl (fun a F => ?_)
  refine x_end ?_
  refine x_tn ?_
  refine x_seq ?_
  refine x_reg ?_
  refine o_move F rfl rfl (fun a F => ?_)
  obtain ⟨z1, c2, hR⟩ := bnd_some hR
  refine o_says F rfl Try.call116 rfl (spec_l00In_c z1 c2 _ hx0 (show I64 (1) by decide) (show I64 (4) by decide)) (fun a w l F => ?_)
  replace hB := Below.through l hB
  refine o_assign F rfl rfl (fun a F => ?_)
  refine x_end ?_
  refine x_tn ?_
  refine x_ret ?_
  refine x_res1 F rfl (rv_t F rfl) ?_
  obtain rfl := Option.some.inj hR
  exact ⟨rfl, hB⟩

def spec_l01Arity (x0 : Int) : Option Bool :=
  bnd (spec_l00In x0 1 4) fun z1 =>
  some z1
set_option maxHeartbeats 1000000 in
theorem spec_l01Arity_c {x0 : Int} (r : Bool) (hR : spec_l01Arity x0 = some r)  (w0 : World) (hx0 : I64 x0) : Calls Try.prog 131 #[.int .i64 x0] w0 (Says (.bool r) w0) := by
  unfold spec_l01Arity at hR
  refine x_enter (L := [(0, .int .i64 x0)]) Try.func131 rfl rfl rfl (sc rfl sn) (fun a F => ?_)
  have hB := Below.refl w0.heap.size w0
  refine x_seq ?_
  refine x_reg ?_
  refine o_assign F rfl rfl (fun a F => ?_)
  refine x_end ?_
  refine x_tn ?_
  refine x_seq ?_
  refine x_reg ?_
  refine o_move F rfl rfl (fun a F => ?_)
  obtain ⟨z1, c2, hR⟩ := bnd_some hR
  refine o_says F rfl Try.call116 rfl (spec_l00In_c z1 c2 _ hx0 (show I64 (1) by decide) (show I64 (4) by decide)) (fun a w l F => ?_)
  replace hB := Below.through l hB
  refine o_assign F rfl rfl (fun a F => ?_)
  refine x_end ?_
  refine x_tn ?_
  refine x_ret ?_
  refine x_res1 F rfl (rv_t F rfl) ?_
  obtain rfl := Option.some.inj hR
  exact ⟨rfl, hB⟩

def spec_l00Same (x0 : List Int) (x1 : List Int) : Option Bool :=
  if ((x0.length : Int) != (x1.length : Int)) then
    some false
  else
    thn (σ := Unit) (
      forL (σ := Unit) (ρ := Bool) (fun (k25 : Nat) (x27 : Int) (s : Unit) =>
        match s with
        | _ =>
          bnd (ix x1 (k25 : Int)) fun z37 =>
          if (x27 != z37) then
            some (.ret false)
          else
            some (.go ())) x0 0 ()) fun _ =>
    some true
set_option maxHeartbeats 1000000 in
theorem spec_l00Same_c {x0 : List Int} {x1 : List Int} (r : Bool) (hR : spec_l00Same x0 x1 = some r) {v0 : Value} {b0 : List Nat} {v1 : Value} {b1 : List Nat} (w0 : World) (A0 : Rd (Sl 1 RInt) w0 v0 x0 b0) (A1 : Rd (Sl 1 RInt) w0 v1 x1 b1) : Calls Try.prog 172 #[v0, v1] w0 (Says (.bool r) w0) := by
  unfold spec_l00Same at hR
  refine x_enter (L := [(0, v0), (1, v1)]) Try.func172 rfl rfl rfl (sc rfl (sc rfl sn)) (fun a F => ?_)
  have hB := Below.refl w0.heap.size w0
  refine x_seq ?_
  refine x_reg ?_
  refine o_assign F rfl rfl (fun a F => ?_)
  refine x_end ?_
  refine x_tn ?_
  refine x_seq ?_
  refine x_seq ?_
  refine x_reg ?_
  refine o_move F rfl rfl (fun a F => ?_)
  refine o_len Try.underlying34 F rfl rfl (A0.go hB) (fun a F => ?_)
  have i1 := ((A0.go hB)).r.len64
  refine o_move F rfl rfl (fun a F => ?_)
  refine o_len Try.underlying34 F rfl rfl (A1.go hB) (fun a F => ?_)
  have i2 := ((A1.go hB)).r.len64
  refine o_neq F rfl rfl rfl (fun a F => ?_)
  refine x_end ?_
  refine x_tn ?_
  refine x_if F rfl (fun hb3 => ?_) (fun hb3 => ?_)
  · replace hR := ifT hb3 hR
    refine x_seq ?_
    refine x_reg ?_
    refine o_assign F rfl rfl (fun a F => ?_)
    refine x_end ?_
    refine x_tn ?_
    refine x_ret ?_
    refine x_tr ?_
    refine x_res1 F rfl (rv_t F rfl) ?_
    obtain rfl := Option.some.inj hR
    exact ⟨rfl, hB⟩
  · replace hR := ifF hb3 hR
    refine x_skip ?_
    refine x_tn ?_
    refine x_seq ?_
    refine x_seq ?_
    refine x_reg ?_
    refine o_assign F rfl rfl (fun a F => ?_)
    refine x_end ?_
    refine x_tn ?_
    obtain ⟨o19, hR, hk20⟩ := thn_some hR
    refine x_cutQ (fun a w => o19 = .nx () ∧ Sk a 26 [] ∧ Below w0.heap.size w0 w) ?_ ?_
    · refine x_blk ?_
      obtain ⟨fl23, hf24, hR⟩ := forL_gen hR
      refine x_loop (fun g a w => ∃ (k25 : Nat) (rest26 : List Int), (k25 ≤ x0.length ∧ x0.drop k25 = rest26) ∧ rest26.length = g ∧ forL fl23 rest26 k25 () = some o19 ∧ Sk a 26 [(5, .int .i64 (k25 : Int)), (0, v0), (1, v1)] ∧ Below w0.heap.size w0 w) x0.length ?_ ?_
      · exact ⟨0, x0, ⟨Nat.zero_le _, rfl⟩, rfl, hR, F.sub (sc rfl (sc rfl (sc rfl sn))), hB⟩
      · intro g28 a w ⟨k25, rest26, hd29, hg30, hR, F, hB⟩
        cases rest26 with
        | nil =>
          replace hR := forL_nil hR
          have hkk25 := drop_nil hd29.1 hd29.2
          have hlk25 := dec_no hkk25
          refine x_seq ?_
          refine x_seq ?_
          refine x_reg ?_
          refine o_move F rfl rfl (fun a F => ?_)
          refine o_move F rfl rfl (fun a F => ?_)
          refine o_len Try.underlying34 F rfl rfl (A0.go hB) (fun a F => ?_)
          have i45 := ((A0.go hB)).r.len64
          refine o_lss F rfl rfl rfl (fun a F => ?_)
          refine x_end ?_
          refine x_tn ?_
          refine x_ifF F rfl hlk25 ?_
          refine x_exit ?_
          refine x_te ?_
          refine x_te ?_
          refine x_be ?_
          refine x_tn ?_
          exact ⟨(Option.some.inj hR).symm, F.sub sn, hB⟩
        | cons x27 rest26 =>
          subst hg30
          replace hd29 := drop_cons hd29.2
          have hxk25 := ix_nat hd29.2.1
          obtain ⟨ck25, hR, hn22⟩ := forL_cons hR
          rw [hf24] at hR
          have hlk25 := dec_yes hd29.1
          refine x_seq ?_
          refine x_seq ?_
          refine x_reg ?_
          refine o_move F rfl rfl (fun a F => ?_)
          refine o_move F rfl rfl (fun a F => ?_)
          refine o_len Try.underlying34 F rfl rfl (A0.go hB) (fun a F => ?_)
          have i31 := ((A0.go hB)).r.len64
          refine o_lss F rfl rfl rfl (fun a F => ?_)
          refine x_end ?_
          refine x_tn ?_
          refine x_ifT F rfl hlk25 ?_
          refine x_skip ?_
          refine x_tn ?_
          refine x_seq ?_
          have ikk25 := k64 (Nat.le_of_lt hd29.1) i31
          have ink25 := inc64 hd29.1 i31
          refine x_blk ?_
          refine x_seq ?_
          refine x_draw (by kernel_rfl) (by kernel_rfl) ?_
          refine q_val F rfl (fun w l => r_move F rfl) (fun a F => ?_)
          refine q_val F rfl (fun w l => r_move F rfl) (fun a F => ?_)
          refine q_index Try.underlying34 Try.sizeOf2 F rfl rfl rfl (A0.go hB) hxk25 (fun a p32 b33 h34 s35 F => ?_)
          have i36 := (h34).i64
          refine q_val F rfl (fun w l => r_loadI Try.isAgg2 F rfl ((h34).go l)) (fun a F => ?_)
          refine q_val F rfl (fun w l => r_move F rfl) (fun a F => ?_)
          refine q_val F rfl (fun w l => r_move F rfl) (fun a F => ?_)
          obtain ⟨z37, c38, hR⟩ := bnd_some hR
          refine q_index Try.underlying34 Try.sizeOf2 F rfl rfl rfl (A1.go hB) c38 (fun a p39 b40 h41 s42 F => ?_)
          have i43 := (h41).i64
          refine q_val F rfl (fun w l => r_loadI Try.isAgg2 F rfl ((h41).go l)) (fun a F => ?_)
          refine q_val F rfl (fun w l => r_neq F rfl rfl) (fun a F => ?_)
          refine q_end (fun w l => ?_)
          replace hB := Below.through l hB
          refine x_tn ?_
          refine x_if F rfl (fun hb44 => ?_) (fun hb44 => ?_)
          · replace hR := ifT hb44 hR
            refine x_seq ?_
            refine x_reg ?_
            refine o_assign F rfl rfl (fun a F => ?_)
            refine x_end ?_
            refine x_tn ?_
            refine x_ret ?_
            refine x_br ?_
            refine x_tr ?_
            refine x_tr ?_
            replace hR := l_ret hR hn22
            refine x_br ?_
            refine x_tr ?_
            replace hR := j_ret hR hk20
            refine x_tr ?_
            refine x_res1 F rfl (rv_t F rfl) ?_
            obtain rfl := Option.some.inj hR
            exact ⟨rfl, hB⟩
          · replace hR := ifF hb44 hR
            refine x_skip ?_
            refine x_bn ?_
            refine x_tn ?_
            refine x_reg ?_
            refine o_move F rfl rfl (fun a F => ?_)
            refine o_inc F rfl rfl rfl ink25 (fun a F => ?_)
            refine o_assign F rfl rfl (fun a F => ?_)
            refine x_end ?_
            refine x_tn ?_
            replace hR := l_go hR hn22
            exact ⟨_, Nat.lt_succ_self _, k25 + 1, rest26, ⟨hd29.1, hd29.2.2⟩, rfl, hR, F.sub (sc rfl (sc rfl (sc rfl sn))), hB⟩
    · intro a w ⟨ho21, F, hB⟩
      subst ho21
      have hR := then_nx hk20
      refine x_tn ?_
      refine x_seq ?_
      refine x_reg ?_
      refine o_assign F rfl rfl (fun a F => ?_)
      refine x_end ?_
      refine x_tn ?_
      refine x_ret ?_
      refine x_res1 F rfl (rv_t F rfl) ?_
      obtain rfl := Option.some.inj hR
      exact ⟨rfl, hB⟩

def impl_areValues_1 (x0 : Int) (y0 : Int) : Option Bool :=
  bnd (impl_isValue y0 x0) fun z2 =>
  some ((!z2))
set_option maxHeartbeats 1000000 in
theorem impl_areValues_1_c {x0 : Int} {y0 : Int} (r : Bool) (hR : impl_areValues_1 x0 y0 = some r) {v1 : Value} {b1 : List Nat} (w0 : World) (hx0 : I64 x0) (A1 : Rd (Pt 1 RInt) w0 v1 y0 b1) : Calls Try.prog 118 #[.int .i64 x0, v1] w0 (Says (.bool r) w0) := by
  unfold impl_areValues_1 at hR
  refine x_enter (L := [(0, .int .i64 x0), (1, v1)]) Try.func118 rfl rfl rfl (sc rfl (sc rfl sn)) (fun a F => ?_)
  have hB := Below.refl w0.heap.size w0
  refine x_seq ?_
  refine x_reg ?_
  refine o_assign F rfl rfl (fun a F => ?_)
  refine x_end ?_
  refine x_tn ?_
  refine x_seq ?_
  refine x_reg ?_
  have i1 := ((A1.go hB)).i64
  refine o_loadI Try.isAgg2 F rfl rfl (A1.go hB) (fun a F => ?_)
  refine o_move F rfl rfl (fun a F => ?_)
  obtain ⟨z2, c3, hR⟩ := bnd_some hR
  refine o_says F rfl Try.call119 rfl (impl_isValue_c z2 c3 _ i1 hx0) (fun a w l F => ?_)
  replace hB := Below.through l hB
  refine o_not F rfl rfl (fun a F => ?_)
  refine o_assign F rfl rfl (fun a F => ?_)
  refine x_end ?_
  refine x_tn ?_
  refine x_ret ?_
  refine x_res1 F rfl (rv_t F rfl) ?_
  obtain rfl := Option.some.inj hR
  exact ⟨rfl, hB⟩

def spec_l01Tuple (x0 : Int) (x1 : Int) (x2 : List Int) : Option Bool :=
  thn (σ := Unit) (
    forL (σ := Unit) (ρ := Bool) (fun (k19 : Nat) (x21 : Int) (s : Unit) =>
      match s with
      | _ =>
        bnd (ck (x0 - 1)) fun z31 =>
        bnd (spec_l00In x21 0 z31) fun z33 =>
        if (!z33) then
          some (.ret false)
        else
          some (.go ())) x2 0 ()) fun _ =>
  some (((x2.length : Int) == x1))
set_option maxHeartbeats 1000000 in
theorem spec_l01Tuple_c {x0 : Int} {x1 : Int} {x2 : List Int} (r : Bool) (hR : spec_l01Tuple x0 x1 x2 = some r) {v2 : Value} {b2 : List Nat} (w0 : World) (hx0 : I64 x0) (hx1 : I64 x1) (A2 : Rd (Sl 1 RInt) w0 v2 x2 b2) : Calls Try.prog 132 #[.int .i64 x0, .int .i64 x1, v2] w0 (Says (.bool r) w0) := by
  unfold spec_l01Tuple at hR
  refine x_enter (L := [(0, .int .i64 x0), (1, .int .i64 x1), (2, v2)]) Try.func132 rfl rfl rfl (sc rfl (sc rfl (sc rfl sn))) (fun a F => ?_)
  have hB := Below.refl w0.heap.size w0
  refine x_seq ?_
  refine x_reg ?_
  refine o_assign F rfl rfl (fun a F => ?_)
  refine x_end ?_
  refine x_tn ?_
  refine x_seq ?_
  refine x_seq ?_
  refine x_reg ?_
  refine o_assign F rfl rfl (fun a F => ?_)
  refine x_end ?_
  refine x_tn ?_
  obtain ⟨o13, hR, hk14⟩ := thn_some hR
  refine x_cutQ (fun a w => o13 = .nx () ∧ Sk a 26 [(1, .int .i64 x1), (2, v2)] ∧ Below w0.heap.size w0 w) ?_ ?_
  · refine x_blk ?_
    obtain ⟨fl17, hf18, hR⟩ := forL_gen hR
    refine x_loop (fun g a w => ∃ (k19 : Nat) (rest20 : List Int), (k19 ≤ x2.length ∧ x2.drop k19 = rest20) ∧ rest20.length = g ∧ forL fl17 rest20 k19 () = some o13 ∧ Sk a 26 [(7, .int .i64 (k19 : Int)), (0, .int .i64 x0), (1, .int .i64 x1), (2, v2)] ∧ Below w0.heap.size w0 w) x2.length ?_ ?_
    · exact ⟨0, x2, ⟨Nat.zero_le _, rfl⟩, rfl, hR, F.sub (sc rfl (sc rfl (sc rfl (sc rfl sn)))), hB⟩
    · intro g22 a w ⟨k19, rest20, hd23, hg24, hR, F, hB⟩
      cases rest20 with
      | nil =>
        replace hR := forL_nil hR
        have hkk19 := drop_nil hd23.1 hd23.2
        have hlk19 := dec_no hkk19
        refine x_seq ?_
        refine x_seq ?_
        refine x_reg ?_
        refine o_move F rfl rfl (fun a F => ?_)
        refine o_move F rfl rfl (fun a F => ?_)
        refine o_len Try.underlying34 F rfl rfl (A2.go hB) (fun a F => ?_)
        have i36 := ((A2.go hB)).r.len64
        refine o_lss F rfl rfl rfl (fun a F => ?_)
        refine x_end ?_
        refine x_tn ?_
        refine x_ifF F rfl hlk19 ?_
        refine x_exit ?_
        refine x_te ?_
        refine x_te ?_
        refine x_be ?_
        refine x_tn ?_
        exact ⟨(Option.some.inj hR).symm, F.sub (sc rfl (sc rfl sn)), hB⟩
      | cons x21 rest20 =>
        subst hg24
        replace hd23 := drop_cons hd23.2
        have hxk19 := ix_nat hd23.2.1
        obtain ⟨ck19, hR, hn16⟩ := forL_cons hR
        rw [hf18] at hR
        have hlk19 := dec_yes hd23.1
        refine x_seq ?_
        refine x_seq ?_
        refine x_reg ?_
        refine o_move F rfl rfl (fun a F => ?_)
        refine o_move F rfl rfl (fun a F => ?_)
        refine o_len Try.underlying34 F rfl rfl (A2.go hB) (fun a F => ?_)
        have i25 := ((A2.go hB)).r.len64
        refine o_lss F rfl rfl rfl (fun a F => ?_)
        refine x_end ?_
        refine x_tn ?_
        refine x_ifT F rfl hlk19 ?_
        refine x_skip ?_
        refine x_tn ?_
        refine x_seq ?_
        have ikk19 := k64 (Nat.le_of_lt hd23.1) i25
        have ink19 := inc64 hd23.1 i25
        refine x_blk ?_
        refine x_seq ?_
        refine x_reg ?_
        refine o_move F rfl rfl (fun a F => ?_)
        refine o_move F rfl rfl (fun a F => ?_)
        refine o_index Try.underlying34 Try.sizeOf2 F rfl rfl rfl (A2.go hB) hxk19 (fun a p26 b27 h28 s29 F => ?_)
        have i30 := (h28).i64
        refine o_loadI Try.isAgg2 F rfl rfl h28 (fun a F => ?_)
        refine o_move F rfl rfl (fun a F => ?_)
        obtain ⟨z31, c32, hR⟩ := bnd_some hR
        refine o_sub F rfl rfl rfl c32 (fun a F => ?_)
        obtain ⟨z33, c34, hR⟩ := bnd_some hR
        refine o_says F rfl Try.call116 rfl (spec_l00In_c z33 c34 _ i30 (show I64 (0) by decide) (ck64 c32)) (fun a w l F => ?_)
        replace hB := Below.through l hB
        refine o_not F rfl rfl (fun a F => ?_)
        refine x_end ?_
        refine x_tn ?_
        refine x_if F rfl (fun hb35 => ?_) (fun hb35 => ?_)
        · replace hR := ifT hb35 hR
          refine x_seq ?_
          refine x_reg ?_
          refine o_assign F rfl rfl (fun a F => ?_)
          refine x_end ?_
          refine x_tn ?_
          refine x_ret ?_
          refine x_br ?_
          refine x_tr ?_
          refine x_tr ?_
          replace hR := l_ret hR hn16
          refine x_br ?_
          refine x_tr ?_
          replace hR := j_ret hR hk14
          refine x_tr ?_
          refine x_res1 F rfl (rv_t F rfl) ?_
          obtain rfl := Option.some.inj hR
          exact ⟨rfl, hB⟩
        · replace hR := ifF hb35 hR
          refine x_skip ?_
          refine x_bn ?_
          refine x_tn ?_
          refine x_reg ?_
          refine o_move F rfl rfl (fun a F => ?_)
          refine o_inc F rfl rfl rfl ink19 (fun a F => ?_)
          refine o_assign F rfl rfl (fun a F => ?_)
          refine x_end ?_
          refine x_tn ?_
          replace hR := l_go hR hn16
          exact ⟨_, Nat.lt_succ_self _, k19 + 1, rest20, ⟨hd23.1, hd23.2.2⟩, rfl, hR, F.sub (sc rfl (sc rfl (sc rfl (sc rfl sn)))), hB⟩
  · intro a w ⟨ho15, F, hB⟩
    subst ho15
    have hR := then_nx hk14
    refine x_tn ?_
    refine x_seq ?_
    refine x_reg ?_
    refine o_move F rfl rfl (fun a F => ?_)
    refine o_len Try.underlying34 F rfl rfl (A2.go hB) (fun a F => ?_)
    have i37 := ((A2.go hB)).r.len64
    refine o_move F rfl rfl (fun a F => ?_)
    refine o_eql F rfl rfl rfl (fun a F => ?_)
    refine o_assign F rfl rfl (fun a F => ?_)
    refine x_end ?_
    refine x_tn ?_
    refine x_ret ?_
    refine x_res1 F rfl (rv_t F rfl) ?_
    obtain rfl := Option.some.inj hR
    exact ⟨rfl, hB⟩

def spec_l01Before (x0 : List Int) (x1 : List Int) : Option Bool :=
  thn (σ := Unit) (
    forL (σ := Unit) (ρ := Bool) (fun (k32 : Nat) (x34 : Int) (s : Unit) =>
      match s with
      | _ =>
        bnd (ix x1 (k32 : Int)) fun z44 =>
        if (x34 != z44) then
          some (.ret ((decide (x34 < z44))))
        else
          some (.go ())) x0 0 ()) fun _ =>
  some false
set_option maxHeartbeats 1000000 in
theorem spec_l01Before_c {x0 : List Int} {x1 : List Int} (r : Bool) (hR : spec_l01Before x0 x1 = some r) {v0 : Value} {b0 : List Nat} {v1 : Value} {b1 : List Nat} (w0 : World) (A0 : Rd (Sl 1 RInt) w0 v0 x0 b0) (A1 : Rd (Sl 1 RInt) w0 v1 x1 b1) : Calls Try.prog 133 #[v0, v1] w0 (Says (.bool r) w0) := by
  unfold spec_l01Before at hR
  refine x_enter (L := [(0, v0), (1, v1)]) Try.func133 rfl rfl rfl (sc rfl (sc rfl sn)) (fun a F => ?_)
  have hB := Below.refl w0.heap.size w0
  refine x_seq ?_
  refine x_reg ?_
  refine o_assign F rfl rfl (fun a F => ?_)
  refine x_end ?_
  refine x_tn ?_
  refine x_seq ?_
  refine x_seq ?_
  refine x_reg ?_
  refine o_assign F rfl rfl (fun a F => ?_)
  refine x_end ?_
  refine x_tn ?_
  obtain ⟨o26, hR, hk27⟩ := thn_some hR
  refine x_cutQ (fun a w => o26 = .nx () ∧ Sk a 30 [] ∧ Below w0.heap.size w0 w) ?_ ?_
  · refine x_blk ?_
    obtain ⟨fl30, hf31, hR⟩ := forL_gen hR
    refine x_loop (fun g a w => ∃ (k32 : Nat) (rest33 : List Int), (k32 ≤ x0.length ∧ x0.drop k32 = rest33) ∧ rest33.length = g ∧ forL fl30 rest33 k32 () = some o26 ∧ Sk a 30 [(5, .int .i64 (k32 : Int)), (0, v0), (1, v1)] ∧ Below w0.heap.size w0 w) x0.length ?_ ?_
    · exact ⟨0, x0, ⟨Nat.zero_le _, rfl⟩, rfl, hR, F.sub (sc rfl (sc rfl (sc rfl sn))), hB⟩
    · intro g35 a w ⟨k32, rest33, hd36, hg37, hR, F, hB⟩
      cases rest33 with
      | nil =>
        replace hR := forL_nil hR
        have hkk32 := drop_nil hd36.1 hd36.2
        have hlk32 := dec_no hkk32
        refine x_seq ?_
        refine x_seq ?_
        refine x_reg ?_
        refine o_move F rfl rfl (fun a F => ?_)
        refine o_move F rfl rfl (fun a F => ?_)
        refine o_len Try.underlying34 F rfl rfl (A0.go hB) (fun a F => ?_)
        have i62 := ((A0.go hB)).r.len64
        refine o_lss F rfl rfl rfl (fun a F => ?_)
        refine x_end ?_
        refine x_tn ?_
        refine x_ifF F rfl hlk32 ?_
        refine x_exit ?_
        refine x_te ?_
        refine x_te ?_
        refine x_be ?_
        refine x_tn ?_
        exact ⟨(Option.some.inj hR).symm, F.sub sn, hB⟩
      | cons x34 rest33 =>
        subst hg37
        replace hd36 := drop_cons hd36.2
        have hxk32 := ix_nat hd36.2.1
        obtain ⟨ck32, hR, hn29⟩ := forL_cons hR
        rw [hf31] at hR
        have hlk32 := dec_yes hd36.1
        refine x_seq ?_
        refine x_seq ?_
        refine x_reg ?_
        refine o_move F rfl rfl (fun a F => ?_)
        refine o_move F rfl rfl (fun a F => ?_)
        refine o_len Try.underlying34 F rfl rfl (A0.go hB) (fun a F => ?_)
        have i38 := ((A0.go hB)).r.len64
        refine o_lss F rfl rfl rfl (fun a F => ?_)
        refine x_end ?_
        refine x_tn ?_
        refine x_ifT F rfl hlk32 ?_
        refine x_skip ?_
        refine x_tn ?_
        refine x_seq ?_
        have ikk32 := k64 (Nat.le_of_lt hd36.1) i38
        have ink32 := inc64 hd36.1 i38
        refine x_blk ?_
        refine x_seq ?_
        refine x_draw (by kernel_rfl) (by kernel_rfl) ?_
        refine q_val F rfl (fun w l => r_move F rfl) (fun a F => ?_)
        refine q_val F rfl (fun w l => r_move F rfl) (fun a F => ?_)
        refine q_index Try.underlying34 Try.sizeOf2 F rfl rfl rfl (A0.go hB) hxk32 (fun a p39 b40 h41 s42 F => ?_)
        have i43 := (h41).i64
        refine q_val F rfl (fun w l => r_loadI Try.isAgg2 F rfl ((h41).go l)) (fun a F => ?_)
        refine q_val F rfl (fun w l => r_move F rfl) (fun a F => ?_)
        refine q_val F rfl (fun w l => r_move F rfl) (fun a F => ?_)
        obtain ⟨z44, c45, hR⟩ := bnd_some hR
        refine q_index Try.underlying34 Try.sizeOf2 F rfl rfl rfl (A1.go hB) c45 (fun a p46 b47 h48 s49 F => ?_)
        have i50 := (h48).i64
        refine q_val F rfl (fun w l => r_loadI Try.isAgg2 F rfl ((h48).go l)) (fun a F => ?_)
        refine q_val F rfl (fun w l => r_neq F rfl rfl) (fun a F => ?_)
        refine q_end (fun w l => ?_)
        replace hB := Below.through l hB
        refine x_tn ?_
        refine x_if F rfl (fun hb51 => ?_) (fun hb51 => ?_)
        · replace hR := ifT hb51 hR
          refine x_seq ?_
          refine x_draw (by kernel_rfl) (by kernel_rfl) ?_
          refine q_val F rfl (fun w l => r_move F rfl) (fun a F => ?_)
          refine q_val F rfl (fun w l => r_move F rfl) (fun a F => ?_)
          refine q_index Try.underlying34 Try.sizeOf2 F rfl rfl rfl (A0.go hB) hxk32 (fun a p52 b53 h54 s55 F => ?_)
          have i56 := (h54).i64
          refine q_val F rfl (fun w l => r_loadI Try.isAgg2 F rfl ((h54).go l)) (fun a F => ?_)
          refine q_val F rfl (fun w l => r_move F rfl) (fun a F => ?_)
          refine q_val F rfl (fun w l => r_move F rfl) (fun a F => ?_)
          refine q_index Try.underlying34 Try.sizeOf2 F rfl rfl rfl (A1.go hB) c45 (fun a p57 b58 h59 s60 F => ?_)
          have i61 := (h59).i64
          refine q_val F rfl (fun w l => r_loadI Try.isAgg2 F rfl ((h59).go l)) (fun a F => ?_)
          refine q_val F rfl (fun w l => r_lss F rfl rfl) (fun a F => ?_)
          refine q_val F rfl (fun w l => r_assign F rfl) (fun a F => ?_)
          refine q_end (fun w l => ?_)
          replace hB := Below.through l hB
          refine x_tn ?_
          refine x_ret ?_
          refine x_br ?_
          refine x_tr ?_
          refine x_tr ?_
          replace hR := l_ret hR hn29
          refine x_br ?_
          refine x_tr ?_
          replace hR := j_ret hR hk27
          refine x_tr ?_
          refine x_res1 F rfl (rv_t F rfl) ?_
          obtain rfl := Option.some.inj hR
          exact ⟨rfl, hB⟩
        · replace hR := ifF hb51 hR
          refine x_skip ?_
          refine x_bn ?_
          refine x_tn ?_
          refine x_reg ?_
          refine o_move F rfl rfl (fun a F => ?_)
          refine o_inc F rfl rfl rfl ink32 (fun a F => ?_)
          refine o_assign F rfl rfl (fun a F => ?_)
          refine x_end ?_
          refine x_tn ?_
          replace hR := l_go hR hn29
          exact ⟨_, Nat.lt_succ_self _, k32 + 1, rest33, ⟨hd36.1, hd36.2.2⟩, rfl, hR, F.sub (sc rfl (sc rfl (sc rfl sn))), hB⟩
  · intro a w ⟨ho28, F, hB⟩
    subst ho28
    have hR := then_nx hk27
    refine x_tn ?_
    refine x_seq ?_
    refine x_reg ?_
    refine o_assign F rfl rfl (fun a F => ?_)
    refine x_end ?_
    refine x_tn ?_
    refine x_ret ?_
    refine x_res1 F rfl (rv_t F rfl) ?_
    obtain rfl := Option.some.inj hR
    exact ⟨rfl, hB⟩

def spec_l01Ok (x0 : Int) (x1 : Rel) : Option Bool :=
  thn (σ := Bool) (
    bnd (spec_l01Size x0) fun z15 =>
    if (!z15) then   some (.nx true) else   bnd (spec_l01Arity x1.arity) fun z23 =>
      some (.nx (!z23))) fun s14 =>
  if s14 then
    some false
  else
    thn (σ := Unit) (
      forL (σ := Unit) (ρ := Bool) (fun (k181 : Nat) (x183 : (List Int)) (s : Unit) =>
        match s with
        | _ =>
          thn (σ := Bool) (
            bnd (spec_l01Tuple x0 x1.arity x183) fun z284 =>
            if (!z284) then   some (.nx true) else   if (decide (0 < (k181 : Int))) then   bnd (ck ((k181 : Int) - 1)) fun z296 =>
                bnd (ix x1.tuples z296) fun z298 =>
                bnd (spec_l01Before z298 x183) fun z324 =>
                some (.nx (!z324)) else   some (.nx false)) fun s262 =>
          if s262 then
            some (.ret false)
          else
            some (.go ())) x1.tuples 0 ()) fun _ =>
    some true
set_option maxHeartbeats 1000000 in
theorem spec_l01Ok_c {x0 : Int} {x1 : Rel} (r : Bool) (hR : spec_l01Ok x0 x1 = some r) {v1 : Value} {b1 : List Nat} (w0 : World) (hx0 : I64 x0) (A1 : Rd (Pt 2 RRel) w0 v1 x1 b1) : Calls Try.prog 79 #[.int .i64 x0, v1] w0 (Says (.bool r) w0) := by
  unfold spec_l01Ok at hR
  refine x_enter (L := [(0, .int .i64 x0), (1, v1)]) Try.func79 rfl rfl rfl (sc rfl (sc rfl sn)) (fun a F => ?_)
  have hB := Below.refl w0.heap.size w0
  refine x_seq ?_
  refine x_reg ?_
  refine o_assign F rfl rfl (fun a F => ?_)
  refine x_end ?_
  refine x_tn ?_
  refine x_seq ?_
  refine x_seq ?_
  obtain ⟨o11, hR, hk12⟩ := thn_some hR
  refine x_cutQ (fun a w => ∃ (s14 : Bool), o11 = .nx s14 ∧ Sk a 63 [(0, .int .i64 x0), (1, v1), (16, .bool s14)] ∧ Below w0.heap.size w0 w) ?_ ?_
  · refine x_reg ?_
    refine o_move F rfl rfl (fun a F => ?_)
    obtain ⟨z15, c16, hR⟩ := bnd_some hR
    refine o_says F rfl Try.call130 rfl (spec_l01Size_c z15 c16 _ hx0) (fun a w l F => ?_)
    replace hB := Below.through l hB
    refine o_not F rfl rfl (fun a F => ?_)
    refine o_move F rfl rfl (fun a F => ?_)
    rcases bcases (!z15) with hb17 | hb17
    · replace hR := ifT hb17 hR
      have F := F.eq (t := 9) rfl (congrArg Value.bool hb17)
      refine o_no F rfl rfl (fun a F => ?_)
      refine o_no F rfl rfl (fun a F => ?_)
      refine o_no F rfl rfl (fun a F => ?_)
      refine o_no F rfl rfl (fun a F => ?_)
      refine o_no F rfl rfl (fun a F => ?_)
      refine o_no F rfl rfl (fun a F => ?_)
      refine o_pickt F rfl rfl rfl (fun a F => ?_)
      refine x_end ?_
      refine x_tn ?_
      exact ⟨true, (Option.some.inj hR).symm, F.sub (sc rfl (sc rfl (sc rfl sn))), hB⟩
    · replace hR := ifF hb17 hR
      have F := F.eq (t := 9) rfl (congrArg Value.bool hb17)
      refine o_move F rfl rfl (fun a F => ?_)
      refine o_nilCheckP F rfl rfl (A1.go hB) (fun a F => ?_)
      refine o_field (s' := 1) fa58_0 F rfl rfl (A1.go hB) RRel.f0 (fun a p18 b19 h20 s21 F => ?_)
      have i22 := (h20).i64
      refine o_loadI Try.isAgg2 F rfl rfl h20 (fun a F => ?_)
      obtain ⟨z23, c24, hR⟩ := bnd_some hR
      refine o_says F rfl Try.call131 rfl (spec_l01Arity_c z23 c24 _ i22) (fun a w l F => ?_)
      replace hB := Below.through l hB
      refine o_not F rfl rfl (fun a F => ?_)
      refine o_pickf F rfl rfl rfl (fun a F => ?_)
      refine x_end ?_
      refine x_tn ?_
      exact ⟨(!z23), (Option.some.inj hR).symm, F.sub (sc rfl (sc rfl (sc rfl sn))), hB⟩
  · intro a w ⟨s14, ho13, F, hB⟩
    subst ho13
    have hR := then_nx hk12
    refine x_tn ?_
    refine x_if F rfl (fun hb25 => ?_) (fun hb25 => ?_)
    · replace hR := ifT hb25 hR
      refine x_seq ?_
      refine x_reg ?_
      refine o_assign F rfl rfl (fun a F => ?_)
      refine x_end ?_
      refine x_tn ?_
      refine x_ret ?_
      refine x_tr ?_
      refine x_res1 F rfl (rv_t F rfl) ?_
      obtain rfl := Option.some.inj hR
      exact ⟨rfl, hB⟩
    · replace hR := ifF hb25 hR
      refine x_skip ?_
      refine x_tn ?_
      refine x_seq ?_
      refine x_seq ?_
      refine x_reg ?_
      refine o_assign F rfl rfl (fun a F => ?_)
      refine x_end ?_
      refine x_tn ?_
      obtain ⟨o175, hR, hk176⟩ := thn_some hR
      refine x_cutQ (fun a w => o175 = .nx () ∧ Sk a 63 [] ∧ Below w0.heap.size w0 w) ?_ ?_
      · refine x_blk ?_
        obtain ⟨fl179, hf180, hR⟩ := forL_gen hR
        refine x_loop (fun g a w => ∃ (k181 : Nat) (rest182 : List (List Int)), (k181 ≤ x1.tuples.length ∧ x1.tuples.drop k181 = rest182) ∧ rest182.length = g ∧ forL fl179 rest182 k181 () = some o175 ∧ Sk a 63 [(5, .int .i64 (k181 : Int)), (0, .int .i64 x0), (1, v1)] ∧ Below w0.heap.size w0 w) x1.tuples.length ?_ ?_
        · exact ⟨0, x1.tuples, ⟨Nat.zero_le _, rfl⟩, rfl, hR, F.sub (sc rfl (sc rfl (sc rfl sn))), hB⟩
        · intro g184 a w ⟨k181, rest182, hd185, hg186, hR, F, hB⟩
          cases rest182 with
          | nil =>
            replace hR := forL_nil hR
            have hkk181 := drop_nil hd185.1 hd185.2
            have hlk181 := dec_no hkk181
            refine x_seq ?_
            refine x_seq ?_
            refine x_reg ?_
            refine o_move F rfl rfl (fun a F => ?_)
            refine o_move F rfl rfl (fun a F => ?_)
            refine o_nilCheckP F rfl rfl (A1.go hB) (fun a F => ?_)
            refine o_field (s' := 1) fa58_1 F rfl rfl (A1.go hB) RRel.f1 (fun a p327 b328 h329 s330 F => ?_)
            refine o_loadS Try.isAgg52 F rfl rfl h329 (fun a v331 b332 h333 s334 F => ?_)
            refine o_len Try.underlying52 F rfl rfl h333 (fun a F => ?_)
            have i335 := (h333).r.len64
            refine o_lss F rfl rfl rfl (fun a F => ?_)
            refine x_end ?_
            refine x_tn ?_
            refine x_ifF F rfl hlk181 ?_
            refine x_exit ?_
            refine x_te ?_
            refine x_te ?_
            refine x_be ?_
            refine x_tn ?_
            exact ⟨(Option.some.inj hR).symm, F.sub sn, hB⟩
          | cons x183 rest182 =>
            subst hg186
            replace hd185 := drop_cons hd185.2
            have hxk181 := ix_nat hd185.2.1
            obtain ⟨ck181, hR, hn178⟩ := forL_cons hR
            rw [hf180] at hR
            have hlk181 := dec_yes hd185.1
            refine x_seq ?_
            refine x_seq ?_
            refine x_reg ?_
            refine o_move F rfl rfl (fun a F => ?_)
            refine o_move F rfl rfl (fun a F => ?_)
            refine o_nilCheckP F rfl rfl (A1.go hB) (fun a F => ?_)
            refine o_field (s' := 1) fa58_1 F rfl rfl (A1.go hB) RRel.f1 (fun a p187 b188 h189 s190 F => ?_)
            refine o_loadS Try.isAgg52 F rfl rfl h189 (fun a v191 b192 h193 s194 F => ?_)
            refine o_len Try.underlying52 F rfl rfl h193 (fun a F => ?_)
            have i195 := (h193).r.len64
            refine o_lss F rfl rfl rfl (fun a F => ?_)
            refine x_end ?_
            refine x_tn ?_
            refine x_ifT F rfl hlk181 ?_
            refine x_skip ?_
            refine x_tn ?_
            refine x_seq ?_
            have ikk181 := k64 (Nat.le_of_lt hd185.1) i195
            have ink181 := inc64 hd185.1 i195
            refine x_blk ?_
            refine x_seq ?_
            obtain ⟨o259, hR, hk260⟩ := thn_some hR
            refine x_cutQ (fun a w => ∃ (s262 : Bool), o259 = .nx s262 ∧ Sk a 63 [(0, .int .i64 x0), (1, v1), (5, .int .i64 (k181 : Int)), (62, .bool s262)] ∧ Below w0.heap.size w0 w) ?_ ?_
            · refine x_draw (by kernel_rfl) (by kernel_rfl) ?_
              refine q_val F rfl (fun w l => r_move F rfl) (fun a F => ?_)
              refine q_val F rfl (fun w l => r_move F rfl) (fun a F => ?_)
              refine q_val F rfl (fun w l => r_nilCheckP F rfl (A1.go hB)) (fun a F => ?_)
              refine q_field (s' := 1) fa58_0 F rfl rfl (A1.go hB) RRel.f0 (fun a p263 b264 h265 s266 F => ?_)
              have i267 := (h265).i64
              refine q_val F rfl (fun w l => r_loadI Try.isAgg2 F rfl ((h265).go l)) (fun a F => ?_)
              refine q_val F rfl (fun w l => r_move F rfl) (fun a F => ?_)
              refine q_val F rfl (fun w l => r_nilCheckP F rfl (A1.go hB)) (fun a F => ?_)
              refine q_field (s' := 1) fa58_1 F rfl rfl (A1.go hB) RRel.f1 (fun a p268 b269 h270 s271 F => ?_)
              refine q_loadS (fun _ l => l) Try.isAgg52 F rfl rfl h270 (fun a v272 b273 h274 s275 F => ?_)
              refine q_val F rfl (fun w l => r_move F rfl) (fun a F => ?_)
              refine q_index Try.underlying52 Try.sizeOf34 F rfl rfl rfl h274 hxk181 (fun a p276 b277 h278 s279 F => ?_)
              refine q_loadS (fun _ l => l) Try.isAgg34 F rfl rfl h278 (fun a v280 b281 h282 s283 F => ?_)
              obtain ⟨z284, c285, hR⟩ := bnd_some hR
              refine q_says F rfl Try.call132 rfl (fun w w' h l => l.through h) (fun w l => spec_l01Tuple_c z284 c285 w hx0 i267 (h282.go l)) (fun a F => ?_)
              refine q_val F rfl (fun w l => r_not F rfl) (fun a F => ?_)
              refine q_val F rfl (fun w l => r_move F rfl) (fun a F => ?_)
              rcases bcases (!z284) with hb286 | hb286
              · replace hR := ifT hb286 hR
                have F := F.eq (t := 40) rfl (congrArg Value.bool hb286)
                refine q_no F rfl rfl (fun a F => ?_)
                refine q_no F rfl rfl (fun a F => ?_)
                refine q_no F rfl rfl (fun a F => ?_)
                refine q_no F rfl rfl (fun a F => ?_)
                refine q_no F rfl rfl (fun a F => ?_)
                refine q_no F rfl rfl (fun a F => ?_)
                refine q_no F rfl rfl (fun a F => ?_)
                refine q_no F rfl rfl (fun a F => ?_)
                refine q_no F rfl rfl (fun a F => ?_)
                refine q_no F rfl rfl (fun a F => ?_)
                refine q_no F rfl rfl (fun a F => ?_)
                refine q_no F rfl rfl (fun a F => ?_)
                refine q_no F rfl rfl (fun a F => ?_)
                refine q_no F rfl rfl (fun a F => ?_)
                refine q_no F rfl rfl (fun a F => ?_)
                refine q_no F rfl rfl (fun a F => ?_)
                refine q_no F rfl rfl (fun a F => ?_)
                refine q_no F rfl rfl (fun a F => ?_)
                refine q_no F rfl rfl (fun a F => ?_)
                refine q_no F rfl rfl (fun a F => ?_)
                refine q_no F rfl rfl (fun a F => ?_)
                refine q_val F rfl (fun w l => r_pickt F rfl rfl) (fun a F => ?_)
                refine q_end (fun w l => ?_)
                replace hB := Below.through l hB
                refine x_tn ?_
                exact ⟨true, (Option.some.inj hR).symm, F.sub (sc rfl (sc rfl (sc rfl (sc rfl sn)))), hB⟩
              · replace hR := ifF hb286 hR
                have F := F.eq (t := 40) rfl (congrArg Value.bool hb286)
                refine q_val F rfl (fun w l => r_move F rfl) (fun a F => ?_)
                refine q_val F rfl (fun w l => r_gtr F rfl rfl) (fun a F => ?_)
                refine q_val F rfl (fun w l => r_move F rfl) (fun a F => ?_)
                rcases bcases (decide (0 < (k181 : Int))) with hb287 | hb287
                · replace hR := ifT hb287 hR
                  have F := F.eq (t := 43) rfl (congrArg Value.bool hb287)
                  refine q_val F rfl (fun w l => r_move F rfl) (fun a F => ?_)
                  refine q_val F rfl (fun w l => r_nilCheckP F rfl (A1.go hB)) (fun a F => ?_)
                  refine q_field (s' := 1) fa58_1 F rfl rfl (A1.go hB) RRel.f1 (fun a p288 b289 h290 s291 F => ?_)
                  refine q_loadS (fun _ l => l) Try.isAgg52 F rfl rfl h290 (fun a v292 b293 h294 s295 F => ?_)
                  refine q_val F rfl (fun w l => r_move F rfl) (fun a F => ?_)
                  obtain ⟨z296, c297, hR⟩ := bnd_some hR
                  refine q_val F rfl (fun w l => r_sub F rfl rfl c297) (fun a F => ?_)
                  obtain ⟨z298, c299, hR⟩ := bnd_some hR
                  refine q_index Try.underlying52 Try.sizeOf34 F rfl rfl rfl h294 c299 (fun a p300 b301 h302 s303 F => ?_)
                  refine q_loadS (fun _ l => l) Try.isAgg34 F rfl rfl h302 (fun a v304 b305 h306 s307 F => ?_)
                  refine q_val F rfl (fun w l => r_move F rfl) (fun a F => ?_)
                  refine q_val F rfl (fun w l => r_nilCheckP F rfl (A1.go hB)) (fun a F => ?_)
                  refine q_field (s' := 1) fa58_1 F rfl rfl (A1.go hB) RRel.f1 (fun a p308 b309 h310 s311 F => ?_)
                  refine q_loadS (fun _ l => l) Try.isAgg52 F rfl rfl h310 (fun a v312 b313 h314 s315 F => ?_)
                  refine q_val F rfl (fun w l => r_move F rfl) (fun a F => ?_)
                  refine q_index Try.underlying52 Try.sizeOf34 F rfl rfl rfl h314 hxk181 (fun a p316 b317 h318 s319 F => ?_)
                  refine q_loadS (fun _ l => l) Try.isAgg34 F rfl rfl h318 (fun a v320 b321 h322 s323 F => ?_)
                  obtain ⟨z324, c325, hR⟩ := bnd_some hR
                  refine q_says F rfl Try.call133 rfl (fun w w' h l => l.through h) (fun w l => spec_l01Before_c z324 c325 w (h306.go l) (h322.go l)) (fun a F => ?_)
                  refine q_val F rfl (fun w l => r_not F rfl) (fun a F => ?_)
                  refine q_val F rfl (fun w l => r_pickt F rfl rfl) (fun a F => ?_)
                  refine q_val F rfl (fun w l => r_pickf F rfl rfl) (fun a F => ?_)
                  refine q_end (fun w l => ?_)
                  replace hB := Below.through l hB
                  refine x_tn ?_
                  exact ⟨(!z324), (Option.some.inj hR).symm, F.sub (sc rfl (sc rfl (sc rfl (sc rfl sn)))), hB⟩
                · replace hR := ifF hb287 hR
                  have F := F.eq (t := 43) rfl (congrArg Value.bool hb287)
                  refine q_no F rfl rfl (fun a F => ?_)
                  refine q_no F rfl rfl (fun a F => ?_)
                  refine q_no F rfl rfl (fun a F => ?_)
                  refine q_no F rfl rfl (fun a F => ?_)
                  refine q_no F rfl rfl (fun a F => ?_)
                  refine q_no F rfl rfl (fun a F => ?_)
                  refine q_no F rfl rfl (fun a F => ?_)
                  refine q_no F rfl rfl (fun a F => ?_)
                  refine q_no F rfl rfl (fun a F => ?_)
                  refine q_no F rfl rfl (fun a F => ?_)
                  refine q_no F rfl rfl (fun a F => ?_)
                  refine q_no F rfl rfl (fun a F => ?_)
                  refine q_no F rfl rfl (fun a F => ?_)
                  refine q_no F rfl rfl (fun a F => ?_)
                  refine q_no F rfl rfl (fun a F => ?_)
                  refine q_no F rfl rfl (fun a F => ?_)
                  refine q_no F rfl rfl (fun a F => ?_)
                  refine q_val F rfl (fun w l => r_pickf F rfl rfl) (fun a F => ?_)
                  refine q_val F rfl (fun w l => r_pickf F rfl rfl) (fun a F => ?_)
                  refine q_end (fun w l => ?_)
                  replace hB := Below.through l hB
                  refine x_tn ?_
                  exact ⟨false, (Option.some.inj hR).symm, F.sub (sc rfl (sc rfl (sc rfl (sc rfl sn)))), hB⟩
            · intro a w ⟨s262, ho261, F, hB⟩
              subst ho261
              have hR := then_nx hk260
              refine x_tn ?_
              refine x_if F rfl (fun hb326 => ?_) (fun hb326 => ?_)
              · replace hR := ifT hb326 hR
                refine x_seq ?_
                refine x_reg ?_
                refine o_assign F rfl rfl (fun a F => ?_)
                refine x_end ?_
                refine x_tn ?_
                refine x_ret ?_
                refine x_br ?_
                refine x_tr ?_
                refine x_tr ?_
                replace hR := l_ret hR hn178
                refine x_br ?_
                refine x_tr ?_
                replace hR := j_ret hR hk176
                refine x_tr ?_
                refine x_res1 F rfl (rv_t F rfl) ?_
                obtain rfl := Option.some.inj hR
                exact ⟨rfl, hB⟩
              · replace hR := ifF hb326 hR
                refine x_skip ?_
                refine x_bn ?_
                refine x_tn ?_
                refine x_reg ?_
                refine o_move F rfl rfl (fun a F => ?_)
                refine o_inc F rfl rfl rfl ink181 (fun a F => ?_)
                refine o_assign F rfl rfl (fun a F => ?_)
                refine x_end ?_
                refine x_tn ?_
                replace hR := l_go hR hn178
                exact ⟨_, Nat.lt_succ_self _, k181 + 1, rest182, ⟨hd185.1, hd185.2.2⟩, rfl, hR, F.sub (sc rfl (sc rfl (sc rfl sn))), hB⟩
      · intro a w ⟨ho177, F, hB⟩
        subst ho177
        have hR := then_nx hk176
        refine x_tn ?_
        refine x_seq ?_
        refine x_reg ?_
        refine o_assign F rfl rfl (fun a F => ?_)
        refine x_end ?_
        refine x_tn ?_
        refine x_ret ?_
        refine x_res1 F rfl (rv_t F rfl) ?_
        obtain rfl := Option.some.inj hR
        exact ⟨rfl, hB⟩

def impl_power (x0 : Int) (x1 : Int) : Option Int :=
  thn (σ := Int) (
    forI (σ := Int) (ρ := Int) (fun (k15 : Nat) (s11 : Int) =>
      bnd (ck (s11 * x0)) fun z21 =>
      some (.go z21)) x1.toNat 0 1) fun s13 =>
  some s13
set_option maxHeartbeats 1000000 in
theorem impl_power_c {x0 : Int} {x1 : Int} (r : Int) (hR : impl_power x0 x1 = some r)  (w0 : World) (hx0 : I64 x0) (hx1 : I64 x1) : Calls Try.prog 139 #[.int .i64 x0, .int .i64 x1] w0 (SaysI r w0) := by
  unfold impl_power at hR
  refine x_enter (L := [(0, .int .i64 x0), (1, .int .i64 x1)]) Try.func139 rfl rfl rfl (sc rfl (sc rfl sn)) (fun a F => ?_)
  have hB := Below.refl w0.heap.size w0
  refine x_seq ?_
  refine x_reg ?_
  refine o_assign F rfl rfl (fun a F => ?_)
  refine x_end ?_
  refine x_tn ?_
  refine x_seq ?_
  refine x_reg ?_
  refine o_assign F rfl rfl (fun a F => ?_)
  refine x_end ?_
  refine x_tn ?_
  refine x_seq ?_
  refine x_seq ?_
  refine x_reg ?_
  refine o_move F rfl rfl (fun a F => ?_)
  refine o_move F rfl rfl (fun a F => ?_)
  refine x_end ?_
  refine x_tn ?_
  obtain ⟨o5, hR, hk6⟩ := thn_some hR
  refine x_cutQ (fun a w => ∃ (s13 : Int), o5 = .nx s13 ∧ Sk a 14 [(5, .int .i64 s13)] ∧ Below w0.heap.size w0 w ∧ I64 s13) ?_ ?_
  · refine x_blk ?_
    obtain ⟨fl9, hf10, hR⟩ := forI_gen hR
    refine x_loop (fun g a w => ∃ (k15 : Nat) (s11 : Int), k15 + g = x1.toNat ∧ forI fl9 g k15 s11 = some o5 ∧ Sk a 14 [(7, .int .i64 (k15 : Int)), (0, .int .i64 x0), (5, .int .i64 s11), (6, .int .i64 x1)] ∧ Below w0.heap.size w0 w ∧ I64 s11) x1.toNat ?_ ?_
    · exact ⟨0, 1, (Nat.zero_add _), hR, F.sub (sc rfl (sc rfl (sc rfl (sc rfl sn)))), hB, (show I64 (1) by decide)⟩
    · intro g18 a w ⟨k15, s11, hd19, hR, F, hB, i12⟩
      cases g18 with
      | zero =>
        replace hR := forI_zero hR
        have hlk15 := dec_noI hd19
        refine x_seq ?_
        refine x_reg ?_
        refine o_lss F rfl rfl rfl (fun a F => ?_)
        refine x_end ?_
        refine x_tn ?_
        refine x_seq ?_
        refine x_ifF F rfl hlk15 ?_
        refine x_exit ?_
        refine x_te ?_
        refine x_te ?_
        refine x_be ?_
        refine x_tn ?_
        exact ⟨s11, (Option.some.inj hR).symm, F.sub (sc rfl sn), hB, i12⟩
      | succ g18 =>
        obtain ⟨ck15, hR, hn8⟩ := forI_succ hR
        rw [hf10] at hR
        have hlk15 := dec_yesI hd19
        refine x_seq ?_
        refine x_reg ?_
        refine o_lss F rfl rfl rfl (fun a F => ?_)
        refine x_end ?_
        refine x_tn ?_
        refine x_seq ?_
        refine x_ifT F rfl hlk15 ?_
        refine x_skip ?_
        refine x_tn ?_
        refine x_seq ?_
        have ikk15 := k64I hd19 hx1
        have ink15 := inc64I hd19 hx1
        refine x_blk ?_
        refine x_reg ?_
        refine o_move F rfl rfl (fun a F => ?_)
        refine o_move F rfl rfl (fun a F => ?_)
        obtain ⟨z21, c22, hR⟩ := bnd_some hR
        refine o_mul F rfl rfl rfl c22 (fun a F => ?_)
        refine o_assign F rfl rfl (fun a F => ?_)
        refine x_end ?_
        refine x_bn ?_
        refine x_tn ?_
        refine x_reg ?_
        refine o_inc F rfl rfl rfl ink15 (fun a F => ?_)
        refine o_move F rfl rfl (fun a F => ?_)
        refine x_end ?_
        refine x_tn ?_
        replace hR := l_go hR hn8
        exact ⟨_, Nat.lt_succ_self _, k15 + 1, z21, (by omega), hR, F.sub (sc rfl (sc rfl (sc rfl (sc rfl sn)))), hB, (ck64 c22)⟩
  · intro a w ⟨s13, ho7, F, hB, i14⟩
    subst ho7
    have hR := then_nx hk6
    refine x_tn ?_
    refine x_seq ?_
    refine x_reg ?_
    refine o_move F rfl rfl (fun a F => ?_)
    refine o_assign F rfl rfl (fun a F => ?_)
    refine x_end ?_
    refine x_tn ?_
    refine x_ret ?_
    refine x_res1 F rfl (rv_t F rfl) ?_
    obtain rfl := Option.some.inj hR
    exact ⟨⟨rfl, hB⟩, i14⟩

def impl_listOf (N : Nat) (x0 : Int) (x1 : Int) (x2 : Int) : Option (List Int) :=
  bnd (mkz (0 : Int) x1) fun z1 =>
  bnd (ck (x1 - 1)) fun z7 =>
  thn (σ := Int × Int × (List Int)) (
    whl (σ := Int × Int × (List Int)) (ρ := (List Int)) (fun (s : Int × Int × (List Int)) =>
      match s with
      | (s64, s66, s68) =>
        if (decide (0 ≤ s66)) then
          bnd (rm s64 x0) fun z89 =>
          bnd (ix s68 s66) fun z91 =>
          bnd (dv s64 x0) fun z102 =>
          bnd (ck (s66 - 1)) fun z104 =>
          some (.go (z102, z104, (s68.set (s66).toNat z89)))
        else
          some (.brk (s64, s66, s68))) N (x2, z7, z1)) fun (s73, s75, s77) =>
  some s77
set_option maxHeartbeats 1000000 in
theorem impl_listOf_c {N : Nat} {x0 : Int} {x1 : Int} {x2 : Int} (r : (List Int)) (hR : impl_listOf N x0 x1 x2 = some r)  (w0 : World) (hx0 : I64 x0) (hx1 : I64 x1) (hx2 : I64 x2) : Calls Try.prog 140 #[.int .i64 x0, .int .i64 x1, .int .i64 x2] w0 (Gives (fun v w' => ∃ (v1' : Value) (rb2' : List Nat), v = v1' ∧ Row 1 RInt 2 w0.heap.size w' v1' r rb2' []) w0) := by
  unfold impl_listOf at hR
  refine x_enter (L := [(0, .int .i64 x0), (1, .int .i64 x1), (2, .int .i64 x2)]) Try.func140 rfl rfl rfl (sc rfl (sc rfl (sc rfl sn))) (fun a F => ?_)
  have hB := Below.refl w0.heap.size w0
  refine x_seq ?_
  refine x_reg ?_
  refine o_assign F rfl rfl (fun a F => ?_)
  refine x_end ?_
  refine x_tn ?_
  refine x_seq ?_
  refine x_reg ?_
  refine o_move F rfl rfl (fun a F => ?_)
  obtain ⟨z1, c2, hR⟩ := bnd_some hR
  refine o_make (sz := 1) (R := RInt) (z := (.int .i64 0)) (bytes := 8) Try.underlying34 (by kernel_rfl) rfl (by decide) (by decide) (fun w => ⟨rfl, by decide, rfl⟩) F rfl rfl rfl c2 (fun a w v3 rb4 h5 l F => ?_)
  replace h5 := h5.base hB.size
  replace hB := Below.through l hB
  refine o_assign F rfl rfl (fun a F => ?_)
  refine x_end ?_
  refine x_tn ?_
  refine x_seq ?_
  refine x_seq ?_
  refine x_reg ?_
  refine o_move F rfl rfl (fun a F => ?_)
  obtain ⟨z7, c8, hR⟩ := bnd_some hR
  refine o_sub F rfl rfl rfl c8 (fun a F => ?_)
  refine o_assign F rfl rfl (fun a F => ?_)
  refine x_end ?_
  refine x_tn ?_
  obtain ⟨o58, hR, hk59⟩ := thn_some hR
  refine x_cutQ (fun a w => ∃ (s73 : Int) (s75 : Int) (s77 : List Int) (v79 : Value) (rb80 : List Nat), o58 = .nx (s73, s75, s77) ∧ Sk a 27 [(7, v79)] ∧ Below w0.heap.size w0 w ∧ I64 s73 ∧ I64 s75 ∧ Row 1 RInt 2 w0.heap.size w v79 s77 rb80 ([])) ?_ ?_
  · refine x_blk ?_
    obtain ⟨fl62, hf63, hR⟩ := whl_gen hR
    refine x_loop (fun g a w => ∃ (s64 : Int) (s66 : Int) (s68 : List Int) (v70 : Value) (rb71 : List Nat), whl fl62 g (s64, s66, s68) = some o58 ∧ Sk a 27 [(0, .int .i64 x0), (2, .int .i64 s64), (7, v70), (8, .int .i64 s66)] ∧ Below w0.heap.size w0 w ∧ I64 s64 ∧ I64 s66 ∧ Row 1 RInt 2 w0.heap.size w v70 s68 rb71 ([])) N ?_ ?_
    · exact ⟨x2, z7, z1, v3, rb4, hR, F.sub (sc rfl (sc rfl (sc rfl (sc rfl sn)))), hB, hx2, (ck64 c8), h5⟩
    · intro g85 a w ⟨s64, s66, s68, v70, rb71, hR, F, hB, i65, i67, h72⟩
      obtain ⟨ck82, rest83, hg87, hR, hn61⟩ := whl_round hR
      rw [hf63] at hR
      refine x_seq ?_
      refine x_seq ?_
      refine x_reg ?_
      refine o_move F rfl rfl (fun a F => ?_)
      refine o_geq F rfl rfl rfl (fun a F => ?_)
      refine x_end ?_
      refine x_tn ?_
      refine x_if F rfl (fun hb88 => ?_) (fun hb88 => ?_)
      · replace hR := ifT hb88 hR
        refine x_skip ?_
        refine x_tn ?_
        refine x_seq ?_
        refine x_blk ?_
        refine x_seq ?_
        refine x_reg ?_
        refine o_move F rfl rfl (fun a F => ?_)
        refine o_move F rfl rfl (fun a F => ?_)
        refine o_move F rfl rfl (fun a F => ?_)
        refine o_move F rfl rfl (fun a F => ?_)
        obtain ⟨z89, c90, hR⟩ := bnd_some hR
        refine o_rem F rfl rfl rfl c90 (fun a F => ?_)
        obtain ⟨z91, c92, hR⟩ := bnd_some hR
        refine o_rindex Try.underlying34 Try.sizeOf2 F rfl rfl rfl h72 c92 (fun a p93 b94 h95 s96 rp97 F => ?_)
        refine o_rstore Try.sizeOf2 F rfl rfl rfl h72 rp97 (ix_lt c92) (El.int (rm64 c90 i65 hx0)) rfl (Dj.nil _) (fun w ib99 h98 l s100 keep => ?_)
        obtain rfl : ib99 = [] := sub_nil_nil s100
        replace hB := hB.o l h72.lo hB.size
        refine x_end ?_
        refine x_tn ?_
        refine x_reg ?_
        refine o_move F rfl rfl (fun a F => ?_)
        refine o_move F rfl rfl (fun a F => ?_)
        obtain ⟨z102, c103, hR⟩ := bnd_some hR
        refine o_quo F rfl rfl rfl c103 (fun a F => ?_)
        refine o_assign F rfl rfl (fun a F => ?_)
        refine x_end ?_
        refine x_bn ?_
        refine x_tn ?_
        refine x_reg ?_
        refine o_move F rfl rfl (fun a F => ?_)
        obtain ⟨z104, c105, hR⟩ := bnd_some hR
        refine o_sub F rfl rfl rfl c105 (fun a F => ?_)
        refine o_assign F rfl rfl (fun a F => ?_)
        refine x_end ?_
        refine x_tn ?_
        replace hR := l_go hR hn61
        exact ⟨rest83, (by omega), z102, z104, (s68.set (s66).toNat z89), v70, rb71, hR, F.sub (sc rfl (sc rfl (sc rfl (sc rfl sn)))), hB, (dv64 c103), (ck64 c105), h98⟩
      · replace hR := ifF hb88 hR
        refine x_exit ?_
        refine x_te ?_
        refine x_te ?_
        replace hR := l_brk hR hn61
        refine x_be ?_
        refine x_tn ?_
        exact ⟨s64, s66, s68, v70, rb71, (Option.some.inj hR).symm, F.sub (sc rfl sn), hB, i65, i67, h72⟩
  · intro a w ⟨s73, s75, s77, v79, rb80, ho60, F, hB, i74, i76, h81⟩
    subst ho60
    have hR := then_nx hk59
    refine x_tn ?_
    refine x_seq ?_
    refine x_reg ?_
    refine o_move F rfl rfl (fun a F => ?_)
    refine o_assign F rfl rfl (fun a F => ?_)
    refine x_end ?_
    refine x_tn ?_
    refine x_ret ?_
    refine x_res1 F rfl (rv_t F rfl) ?_
    obtain rfl := Option.some.inj hR
    exact ⟨_, rfl, hB, v79, rb80, rfl, h81⟩

def spec_l01Power (N : Nat) (x0 : Int) (x1 : Int) : Option Int :=
  thn (σ := Int × Int) (
    whl (σ := Int × Int) (ρ := Int) (fun (s : Int × Int) =>
      match s with
      | (s16, s18) =>
        if (decide (0 < s16)) then
          bnd (ck (s18 * x0)) fun z31 =>
          bnd (ck (s16 - 1)) fun z33 =>
          some (.go (z33, z31))
        else
          some (.brk (s16, s18))) N (x1, 1)) fun (s20, s22) =>
  some s22
set_option maxHeartbeats 1000000 in
theorem spec_l01Power_c {N : Nat} {x0 : Int} {x1 : Int} (r : Int) (hR : spec_l01Power N x0 x1 = some r)  (w0 : World) (hx0 : I64 x0) (hx1 : I64 x1) : Calls Try.prog 134 #[.int .i64 x0, .int .i64 x1] w0 (SaysI r w0) := by
  unfold spec_l01Power at hR
  refine x_enter (L := [(0, .int .i64 x0), (1, .int .i64 x1)]) Try.func134 rfl rfl rfl (sc rfl (sc rfl sn)) (fun a F => ?_)
  have hB := Below.refl w0.heap.size w0
  refine x_seq ?_
  refine x_reg ?_
  refine o_assign F rfl rfl (fun a F => ?_)
  refine x_end ?_
  refine x_tn ?_
  refine x_seq ?_
  refine x_reg ?_
  refine o_assign F rfl rfl (fun a F => ?_)
  refine x_end ?_
  refine x_tn ?_
  refine x_seq ?_
  obtain ⟨o10, hR, hk11⟩ := thn_some hR
  refine x_cutQ (fun a w => ∃ (s20 : Int) (s22 : Int), o10 = .nx (s20, s22) ∧ Sk a 14 [(5, .int .i64 s22)] ∧ Below w0.heap.size w0 w ∧ I64 s20 ∧ I64 s22) ?_ ?_
  · refine x_blk ?_
    obtain ⟨fl14, hf15, hR⟩ := whl_gen hR
    refine x_loop (fun g a w => ∃ (s16 : Int) (s18 : Int), whl fl14 g (s16, s18) = some o10 ∧ Sk a 14 [(0, .int .i64 x0), (1, .int .i64 s16), (5, .int .i64 s18)] ∧ Below w0.heap.size w0 w ∧ I64 s16 ∧ I64 s18) N ?_ ?_
    · exact ⟨x1, 1, hR, F.sub (sc rfl (sc rfl (sc rfl sn))), hB, hx1, (show I64 (1) by decide)⟩
    · intro g27 a w ⟨s16, s18, hR, F, hB, i17, i19⟩
      obtain ⟨ck24, rest25, hg29, hR, hn13⟩ := whl_round hR
      rw [hf15] at hR
      refine x_seq ?_
      refine x_seq ?_
      refine x_reg ?_
      refine o_move F rfl rfl (fun a F => ?_)
      refine o_gtr F rfl rfl rfl (fun a F => ?_)
      refine x_end ?_
      refine x_tn ?_
      refine x_if F rfl (fun hb30 => ?_) (fun hb30 => ?_)
      · replace hR := ifT hb30 hR
        refine x_skip ?_
        refine x_tn ?_
        refine x_seq ?_
        refine x_blk ?_
        refine x_reg ?_
        refine o_move F rfl rfl (fun a F => ?_)
        refine o_move F rfl rfl (fun a F => ?_)
        obtain ⟨z31, c32, hR⟩ := bnd_some hR
        refine o_mul F rfl rfl rfl c32 (fun a F => ?_)
        refine o_assign F rfl rfl (fun a F => ?_)
        refine x_end ?_
        refine x_bn ?_
        refine x_tn ?_
        refine x_reg ?_
        refine o_move F rfl rfl (fun a F => ?_)
        obtain ⟨z33, c34, hR⟩ := bnd_some hR
        refine o_sub F rfl rfl rfl c34 (fun a F => ?_)
        refine o_assign F rfl rfl (fun a F => ?_)
        refine x_end ?_
        refine x_tn ?_
        replace hR := l_go hR hn13
        exact ⟨rest25, (by omega), z33, z31, hR, F.sub (sc rfl (sc rfl (sc rfl sn))), hB, (ck64 c34), (ck64 c32)⟩
      · replace hR := ifF hb30 hR
        refine x_exit ?_
        refine x_te ?_
        refine x_te ?_
        replace hR := l_brk hR hn13
        refine x_be ?_
        refine x_tn ?_
        exact ⟨s16, s18, (Option.some.inj hR).symm, F.sub (sc rfl sn), hB, i17, i19⟩
  · intro a w ⟨s20, s22, ho12, F, hB, i21, i23⟩
    subst ho12
    have hR := then_nx hk11
    refine x_tn ?_
    refine x_seq ?_
    refine x_reg ?_
    refine o_move F rfl rfl (fun a F => ?_)
    refine o_assign F rfl rfl (fun a F => ?_)
    refine x_end ?_
    refine x_tn ?_
    refine x_ret ?_
    refine x_res1 F rfl (rv_t F rfl) ?_
    obtain rfl := Option.some.inj hR
    exact ⟨⟨rfl, hB⟩, i23⟩

def spec_l01Digits (N : Nat) (x0 : Int) (x1 : Int) (x2 : Int) : Option (List Int) :=
  bnd (mkz (0 : Int) x1) fun z1 =>
  bnd (ck (x1 - 1)) fun z7 =>
  thn (σ := Int × Int × (List Int)) (
    whl (σ := Int × Int × (List Int)) (ρ := (List Int)) (fun (s : Int × Int × (List Int)) =>
      match s with
      | (s64, s66, s68) =>
        if (decide (0 ≤ s66)) then
          bnd (rm s64 x0) fun z89 =>
          bnd (ix s68 s66) fun z91 =>
          bnd (dv s64 x0) fun z102 =>
          bnd (ck (s66 - 1)) fun z104 =>
          some (.go (z102, z104, (s68.set (s66).toNat z89)))
        else
          some (.brk (s64, s66, s68))) N (x2, z7, z1)) fun (s73, s75, s77) =>
  some s77
set_option maxHeartbeats 1000000 in
theorem spec_l01Digits_c {N : Nat} {x0 : Int} {x1 : Int} {x2 : Int} (r : (List Int)) (hR : spec_l01Digits N x0 x1 x2 = some r)  (w0 : World) (hx0 : I64 x0) (hx1 : I64 x1) (hx2 : I64 x2) : Calls Try.prog 135 #[.int .i64 x0, .int .i64 x1, .int .i64 x2] w0 (Gives (fun v w' => ∃ (v1' : Value) (rb2' : List Nat), v = v1' ∧ Row 1 RInt 2 w0.heap.size w' v1' r rb2' []) w0) := by
  unfold spec_l01Digits at hR
  refine x_enter (L := [(0, .int .i64 x0), (1, .int .i64 x1), (2, .int .i64 x2)]) Try.func135 rfl rfl rfl (sc rfl (sc rfl (sc rfl sn))) (fun a F => ?_)
  have hB := Below.refl w0.heap.size w0
  refine x_seq ?_
  refine x_reg ?_
  refine o_assign F rfl rfl (fun a F => ?_)
  refine x_end ?_
  refine x_tn ?_
  refine x_seq ?_
  refine x_reg ?_
  refine o_move F rfl rfl (fun a F => ?_)
  obtain ⟨z1, c2, hR⟩ := bnd_some hR
  refine o_make (sz := 1) (R := RInt) (z := (.int .i64 0)) (bytes := 8) Try.underlying34 (by kernel_rfl) rfl (by decide) (by decide) (fun w => ⟨rfl, by decide, rfl⟩) F rfl rfl rfl c2 (fun a w v3 rb4 h5 l F => ?_)
  replace h5 := h5.base hB.size
  replace hB := Below.through l hB
  refine o_assign F rfl rfl (fun a F => ?_)
  refine x_end ?_
  refine x_tn ?_
  refine x_seq ?_
  refine x_seq ?_
  refine x_reg ?_
  refine o_move F rfl rfl (fun a F => ?_)
  obtain ⟨z7, c8, hR⟩ := bnd_some hR
  refine o_sub F rfl rfl rfl c8 (fun a F => ?_)
  refine o_assign F rfl rfl (fun a F => ?_)
  refine x_end ?_
  refine x_tn ?_
  obtain ⟨o58, hR, hk59⟩ := thn_some hR
  refine x_cutQ (fun a w => ∃ (s73 : Int) (s75 : Int) (s77 : List Int) (v79 : Value) (rb80 : List Nat), o58 = .nx (s73, s75, s77) ∧ Sk a 27 [(7, v79)] ∧ Below w0.heap.size w0 w ∧ I64 s73 ∧ I64 s75 ∧ Row 1 RInt 2 w0.heap.size w v79 s77 rb80 ([])) ?_ ?_
  · refine x_blk ?_
    obtain ⟨fl62, hf63, hR⟩ := whl_gen hR
    refine x_loop (fun g a w => ∃ (s64 : Int) (s66 : Int) (s68 : List Int) (v70 : Value) (rb71 : List Nat), whl fl62 g (s64, s66, s68) = some o58 ∧ Sk a 27 [(0, .int .i64 x0), (2, .int .i64 s64), (7, v70), (8, .int .i64 s66)] ∧ Below w0.heap.size w0 w ∧ I64 s64 ∧ I64 s66 ∧ Row 1 RInt 2 w0.heap.size w v70 s68 rb71 ([])) N ?_ ?_
    · exact ⟨x2, z7, z1, v3, rb4, hR, F.sub (sc rfl (sc rfl (sc rfl (sc rfl sn)))), hB, hx2, (ck64 c8), h5⟩
    · intro g85 a w ⟨s64, s66, s68, v70, rb71, hR, F, hB, i65, i67, h72⟩
      obtain ⟨ck82, rest83, hg87, hR, hn61⟩ := whl_round hR
      rw [hf63] at hR
      refine x_seq ?_
      refine x_seq ?_
      refine x_reg ?_
      refine o_move F rfl rfl (fun a F => ?_)
      refine o_geq F rfl rfl rfl (fun a F => ?_)
      refine x_end ?_
      refine x_tn ?_
      refine x_if F rfl (fun hb88 => ?_) (fun hb88 => ?_)
      · replace hR := ifT hb88 hR
        refine x_skip ?_
        refine x_tn ?_
        refine x_seq ?_
        refine x_blk ?_
        refine x_seq ?_
        refine x_reg ?_
        refine o_move F rfl rfl (fun a F => ?_)
        refine o_move F rfl rfl (fun a F => ?_)
        refine o_move F rfl rfl (fun a F => ?_)
        refine o_move F rfl rfl (fun a F => ?_)
        obtain ⟨z89, c90, hR⟩ := bnd_some hR
        refine o_rem F rfl rfl rfl c90 (fun a F => ?_)
        obtain ⟨z91, c92, hR⟩ := bnd_some hR
        refine o_rindex Try.underlying34 Try.sizeOf2 F rfl rfl rfl h72 c92 (fun a p93 b94 h95 s96 rp97 F => ?_)
        refine o_rstore Try.sizeOf2 F rfl rfl rfl h72 rp97 (ix_lt c92) (El.int (rm64 c90 i65 hx0)) rfl (Dj.nil _) (fun w ib99 h98 l s100 keep => ?_)
        obtain rfl : ib99 = [] := sub_nil_nil s100
        replace hB := hB.o l h72.lo hB.size
        refine x_end ?_
        refine x_tn ?_
        refine x_reg ?_
        refine o_move F rfl rfl (fun a F => ?_)
        refine o_move F rfl rfl (fun a F => ?_)
        obtain ⟨z102, c103, hR⟩ := bnd_some hR
        refine o_quo F rfl rfl rfl c103 (fun a F => ?_)
        refine o_assign F rfl rfl (fun a F => ?_)
        refine x_end ?_
        refine x_bn ?_
        refine x_tn ?_
        refine x_reg ?_
        refine o_move F rfl rfl (fun a F => ?_)
        obtain ⟨z104, c105, hR⟩ := bnd_some hR
        refine o_sub F rfl rfl rfl c105 (fun a F => ?_)
        refine o_assign F rfl rfl (fun a F => ?_)
        refine x_end ?_
        refine x_tn ?_
        replace hR := l_go hR hn61
        exact ⟨rest83, (by omega), z102, z104, (s68.set (s66).toNat z89), v70, rb71, hR, F.sub (sc rfl (sc rfl (sc rfl (sc rfl sn)))), hB, (dv64 c103), (ck64 c105), h98⟩
      · replace hR := ifF hb88 hR
        refine x_exit ?_
        refine x_te ?_
        refine x_te ?_
        replace hR := l_brk hR hn61
        refine x_be ?_
        refine x_tn ?_
        exact ⟨s64, s66, s68, v70, rb71, (Option.some.inj hR).symm, F.sub (sc rfl sn), hB, i65, i67, h72⟩
  · intro a w ⟨s73, s75, s77, v79, rb80, ho60, F, hB, i74, i76, h81⟩
    subst ho60
    have hR := then_nx hk59
    refine x_tn ?_
    refine x_seq ?_
    refine x_reg ?_
    refine o_move F rfl rfl (fun a F => ?_)
    refine o_assign F rfl rfl (fun a F => ?_)
    refine x_end ?_
    refine x_tn ?_
    refine x_ret ?_
    refine x_res1 F rfl (rv_t F rfl) ?_
    obtain rfl := Option.some.inj hR
    exact ⟨_, rfl, hB, v79, rb80, rfl, h81⟩

def spec_l00Own (x0 : List Int) : Option (List Int) :=
  bnd (ap ([]) x0) fun z5 =>
  some z5
set_option maxHeartbeats 1000000 in
theorem spec_l00Own_c {x0 : List Int} (r : (List Int)) (hR : spec_l00Own x0 = some r) {v0 : Value} {b0 : List Nat} (w0 : World) (A0 : Rd (Sl 1 RInt) w0 v0 x0 b0) : Calls Try.prog 144 #[v0] w0 (Gives (fun v w' => ∃ (v1' : Value) (rb2' : List Nat), v = v1' ∧ Row 1 RInt 2 w0.heap.size w' v1' r rb2' []) w0) := by
  unfold spec_l00Own at hR
  refine x_enter (L := [(0, v0)]) Try.func144 rfl rfl rfl (sc rfl sn) (fun a F => ?_)
  have hB := Below.refl w0.heap.size w0
  refine x_seq ?_
  refine x_reg ?_
  refine o_assign F rfl rfl (fun a F => ?_)
  refine x_end ?_
  refine x_tn ?_
  refine x_seq ?_
  refine x_reg ?_
  refine o_lit0 (R := RInt) Try.underlying34 Try.sizeOf2 F rfl (fun a w v1 rb2 h3 l F => ?_)
  replace h3 := h3.base hB.size
  replace hB := Below.through l hB
  refine o_move F rfl rfl (fun a F => ?_)
  obtain ⟨z5, c6, hR⟩ := bnd_some hR
  obtain ⟨ib10, sr11, sn12⟩ := Rd.src (by decide) (A0.go hB)
  refine o_append (sz := 1) (R := RInt) (z := (.int .i64 0)) (bytes := 8) Try.underlying34 (by kernel_rfl) rfl (by decide) (by decide) (by decide) F rfl rfl rfl h3 sr11 hB.size (Dj.symm (Dj.sub (Dj.new A0.m h3.ownR (Nat.le_refl _)) sn12)) c6 (fun a w v7 rb8 h9 l keep F => ?_)
  obtain rfl : ib10 = [] := src_flat sr11 (fun w f x bs h => by first | exact h.2.2 | exact h.2 | exact R_flat h)
  replace h9 := row_nil2 h9
  replace hB := hB.o l h3.lo hB.size
  refine o_assign F rfl rfl (fun a F => ?_)
  refine x_end ?_
  refine x_tn ?_
  refine x_ret ?_
  refine x_res1 F rfl (rv_t F rfl) ?_
  obtain rfl := Option.some.inj hR
  exact ⟨_, rfl, hB, v7, rb8, rfl, h9⟩

def spec_l03Count (x0 : Int) : Option (List Int) :=
  thn (σ := (List Int)) (
    forI (σ := (List Int)) (ρ := (List Int)) (fun (k38 : Nat) (s28 : (List Int)) =>
      bnd (ap s28 ([(k38 : Int)])) fun z50 =>
      some (.go z50)) x0.toNat 0 []) fun s33 =>
  some s33
set_option maxHeartbeats 1000000 in
theorem spec_l03Count_c {x0 : Int} (r : (List Int)) (hR : spec_l03Count x0 = some r)  (w0 : World) (hx0 : I64 x0) : Calls Try.prog 152 #[.int .i64 x0] w0 (Gives (fun v w' => ∃ (v1' : Value) (rb2' : List Nat), v = v1' ∧ Row 1 RInt 2 w0.heap.size w' v1' r rb2' []) w0) := by
  unfold spec_l03Count at hR
  refine x_enter (L := [(0, .int .i64 x0)]) Try.func152 rfl rfl rfl (sc rfl sn) (fun a F => ?_)
  have hB := Below.refl w0.heap.size w0
  refine x_seq ?_
  refine x_reg ?_
  refine o_assign F rfl rfl (fun a F => ?_)
  refine x_end ?_
  refine x_tn ?_
  refine x_seq ?_
  refine x_reg ?_
  refine o_lit0 (R := RInt) Try.underlying34 Try.sizeOf2 F rfl (fun a w v1 rb2 h3 l F => ?_)
  replace h3 := h3.base hB.size
  replace hB := Below.through l hB
  refine o_assign F rfl rfl (fun a F => ?_)
  refine x_end ?_
  refine x_tn ?_
  refine x_seq ?_
  refine x_seq ?_
  refine x_reg ?_
  refine o_assign F rfl rfl (fun a F => ?_)
  refine x_end ?_
  refine x_tn ?_
  obtain ⟨o22, hR, hk23⟩ := thn_some hR
  refine x_cutQ (fun a w => ∃ (s33 : List Int) (v35 : Value) (rb36 : List Nat), o22 = .nx s33 ∧ Sk a 16 [(3, v35)] ∧ Below w0.heap.size w0 w ∧ Row 1 RInt 2 w0.heap.size w v35 s33 rb36 ([])) ?_ ?_
  · refine x_blk ?_
    obtain ⟨fl26, hf27, hR⟩ := forI_gen hR
    refine x_loop (fun g a w => ∃ (k38 : Nat) (s28 : List Int) (v30 : Value) (rb31 : List Nat), k38 + g = x0.toNat ∧ forI fl26 g k38 s28 = some o22 ∧ Sk a 16 [(4, .int .i64 (k38 : Int)), (0, .int .i64 x0), (3, v30)] ∧ Below w0.heap.size w0 w ∧ Row 1 RInt 2 w0.heap.size w v30 s28 rb31 ([])) x0.toNat ?_ ?_
    · exact ⟨0, [], v1, rb2, (Nat.zero_add _), hR, F.sub (sc rfl (sc rfl (sc rfl sn))), hB, h3⟩
    · intro g41 a w ⟨k38, s28, v30, rb31, hd42, hR, F, hB, h32⟩
      cases g41 with
      | zero =>
        replace hR := forI_zero hR
        have hlk38 := dec_noI hd42
        refine x_seq ?_
        refine x_seq ?_
        refine x_reg ?_
        refine o_move F rfl rfl (fun a F => ?_)
        refine o_move F rfl rfl (fun a F => ?_)
        refine o_lss F rfl rfl rfl (fun a F => ?_)
        refine x_end ?_
        refine x_tn ?_
        refine x_ifF F rfl hlk38 ?_
        refine x_exit ?_
        refine x_te ?_
        refine x_te ?_
        refine x_be ?_
        refine x_tn ?_
        exact ⟨s28, v30, rb31, (Option.some.inj hR).symm, F.sub (sc rfl sn), hB, h32⟩
      | succ g41 =>
        obtain ⟨ck38, hR, hn25⟩ := forI_succ hR
        rw [hf27] at hR
        have hlk38 := dec_yesI hd42
        refine x_seq ?_
        refine x_seq ?_
        refine x_reg ?_
        refine o_move F rfl rfl (fun a F => ?_)
        refine o_move F rfl rfl (fun a F => ?_)
        refine o_lss F rfl rfl rfl (fun a F => ?_)
        refine x_end ?_
        refine x_tn ?_
        refine x_ifT F rfl hlk38 ?_
        refine x_skip ?_
        refine x_tn ?_
        refine x_seq ?_
        have ikk38 := k64I hd42 hx0
        have ink38 := inc64I hd42 hx0
        refine x_blk ?_
        refine x_reg ?_
        refine o_move F rfl rfl (fun a F => ?_)
        refine o_move F rfl rfl (fun a F => ?_)
        refine o_lit1 (R := RInt) (y := (k38 : Int)) Try.underlying34 Try.sizeOf2 Try.zeroValue2 rfl (by decide) (by decide) F rfl rfl (El.int ikk38) (fun a w v44 rb45 h46 l F => ?_)
        have d48 := Dj.new h32.rd.m h46.ownR (Nat.le_refl _)
        have d49 := Dj.app' (Dj.new h32.memR h46.ownR (Nat.le_refl _)).symm (Dj.nil' _)
        replace h46 := h46.base hB.size
        replace hB := Below.through l hB
        replace h32 := h32.go l
        obtain ⟨z50, c51, hR⟩ := bnd_some hR
        refine o_append (sz := 1) (R := RInt) (z := (.int .i64 0)) (bytes := 8) Try.underlying34 (by kernel_rfl) rfl (by decide) (by decide) (by decide) F rfl rfl rfl h32 h46.src hB.size (Dj.nil _) c51 (fun a w v52 rb53 h54 l keep F => ?_)
        replace h54 := row_nil2 h54
        replace hB := hB.o l h32.lo hB.size
        refine o_assign F rfl rfl (fun a F => ?_)
        refine x_end ?_
        refine x_bn ?_
        refine x_tn ?_
        refine x_reg ?_
        refine o_move F rfl rfl (fun a F => ?_)
        refine o_inc F rfl rfl rfl ink38 (fun a F => ?_)
        refine o_assign F rfl rfl (fun a F => ?_)
        refine x_end ?_
        refine x_tn ?_
        replace hR := l_go hR hn25
        exact ⟨_, Nat.lt_succ_self _, k38 + 1, z50, v52, rb53, (by omega), hR, F.sub (sc rfl (sc rfl (sc rfl sn))), hB, h54⟩
  · intro a w ⟨s33, v35, rb36, ho24, F, hB, h37⟩
    subst ho24
    have hR := then_nx hk23
    refine x_tn ?_
    refine x_seq ?_
    refine x_reg ?_
    refine o_move F rfl rfl (fun a F => ?_)
    refine o_assign F rfl rfl (fun a F => ?_)
    refine x_end ?_
    refine x_tn ?_
    refine x_ret ?_
    refine x_res1 F rfl (rv_t F rfl) ?_
    obtain rfl := Option.some.inj hR
    exact ⟨_, rfl, hB, v35, rb36, rfl, h37⟩

def impl_upTo (x0 : Int) (x1 : Int) : Option (List Int) :=
  thn (σ := (List Int)) (
    forI (σ := (List Int)) (ρ := (List Int)) (fun (k40 : Nat) (s30 : (List Int)) =>
      bnd (ck (x0 + (k40 : Int))) fun z46 =>
      bnd (ap s30 ([z46])) fun z54 =>
      some (.go z54)) x1.toNat 0 []) fun s35 =>
  some s35
set_option maxHeartbeats 1000000 in
theorem impl_upTo_c {x0 : Int} {x1 : Int} (r : (List Int)) (hR : impl_upTo x0 x1 = some r)  (w0 : World) (hx0 : I64 x0) (hx1 : I64 x1) : Calls Try.prog 155 #[.int .i64 x0, .int .i64 x1] w0 (Gives (fun v w' => ∃ (v1' : Value) (rb2' : List Nat), v = v1' ∧ Row 1 RInt 2 w0.heap.size w' v1' r rb2' []) w0) := by
  unfold impl_upTo at hR
  refine x_enter (L := [(0, .int .i64 x0), (1, .int .i64 x1)]) Try.func155 rfl rfl rfl (sc rfl (sc rfl sn)) (fun a F => ?_)
  have hB := Below.refl w0.heap.size w0
  refine x_seq ?_
  refine x_reg ?_
  refine o_assign F rfl rfl (fun a F => ?_)
  refine x_end ?_
  refine x_tn ?_
  refine x_seq ?_
  refine x_reg ?_
  refine o_lit0 (R := RInt) Try.underlying34 Try.sizeOf2 F rfl (fun a w v1 rb2 h3 l F => ?_)
  replace h3 := h3.base hB.size
  replace hB := Below.through l hB
  refine o_assign F rfl rfl (fun a F => ?_)
  refine x_end ?_
  refine x_tn ?_
  refine x_seq ?_
  refine x_seq ?_
  refine x_reg ?_
  refine o_move F rfl rfl (fun a F => ?_)
  refine o_move F rfl rfl (fun a F => ?_)
  refine x_end ?_
  refine x_tn ?_
  obtain ⟨o24, hR, hk25⟩ := thn_some hR
  refine x_cutQ (fun a w => ∃ (s35 : List Int) (v37 : Value) (rb38 : List Nat), o24 = .nx s35 ∧ Sk a 20 [(5, v37)] ∧ Below w0.heap.size w0 w ∧ Row 1 RInt 2 w0.heap.size w v37 s35 rb38 ([])) ?_ ?_
  · refine x_blk ?_
    obtain ⟨fl28, hf29, hR⟩ := forI_gen hR
    refine x_loop (fun g a w => ∃ (k40 : Nat) (s30 : List Int) (v32 : Value) (rb33 : List Nat), k40 + g = x1.toNat ∧ forI fl28 g k40 s30 = some o24 ∧ Sk a 20 [(9, .int .i64 (k40 : Int)), (0, .int .i64 x0), (5, v32), (8, .int .i64 x1)] ∧ Below w0.heap.size w0 w ∧ Row 1 RInt 2 w0.heap.size w v32 s30 rb33 ([])) x1.toNat ?_ ?_
    · exact ⟨0, [], v1, rb2, (Nat.zero_add _), hR, F.sub (sc rfl (sc rfl (sc rfl (sc rfl sn)))), hB, h3⟩
    · intro g43 a w ⟨k40, s30, v32, rb33, hd44, hR, F, hB, h34⟩
      cases g43 with
      | zero =>
        replace hR := forI_zero hR
        have hlk40 := dec_noI hd44
        refine x_seq ?_
        refine x_reg ?_
        refine o_lss F rfl rfl rfl (fun a F => ?_)
        refine x_end ?_
        refine x_tn ?_
        refine x_seq ?_
        refine x_ifF F rfl hlk40 ?_
        refine x_exit ?_
        refine x_te ?_
        refine x_te ?_
        refine x_be ?_
        refine x_tn ?_
        exact ⟨s30, v32, rb33, (Option.some.inj hR).symm, F.sub (sc rfl sn), hB, h34⟩
      | succ g43 =>
        obtain ⟨ck40, hR, hn27⟩ := forI_succ hR
        rw [hf29] at hR
        have hlk40 := dec_yesI hd44
        refine x_seq ?_
        refine x_reg ?_
        refine o_lss F rfl rfl rfl (fun a F => ?_)
        refine x_end ?_
        refine x_tn ?_
        refine x_seq ?_
        refine x_ifT F rfl hlk40 ?_
        refine x_skip ?_
        refine x_tn ?_
        refine x_seq ?_
        have ikk40 := k64I hd44 hx1
        have ink40 := inc64I hd44 hx1
        refine x_blk ?_
        refine x_seq ?_
        refine x_reg ?_
        refine o_move F rfl rfl (fun a F => ?_)
        refine o_assign F rfl rfl (fun a F => ?_)
        refine x_end ?_
        refine x_tn ?_
        refine x_reg ?_
        refine o_move F rfl rfl (fun a F => ?_)
        refine o_move F rfl rfl (fun a F => ?_)
        refine o_move F rfl rfl (fun a F => ?_)
        obtain ⟨z46, c47, hR⟩ := bnd_some hR
        refine o_add F rfl rfl rfl c47 (fun a F => ?_)
        refine o_lit1 (R := RInt) (y := z46) Try.underlying34 Try.sizeOf2 Try.zeroValue2 rfl (by decide) (by decide) F rfl rfl (El.int (ck64 c47)) (fun a w v48 rb49 h50 l F => ?_)
        have d52 := Dj.new h34.rd.m h50.ownR (Nat.le_refl _)
        have d53 := Dj.app' (Dj.new h34.memR h50.ownR (Nat.le_refl _)).symm (Dj.nil' _)
        replace h50 := h50.base hB.size
        replace hB := Below.through l hB
        replace h34 := h34.go l
        obtain ⟨z54, c55, hR⟩ := bnd_some hR
        refine o_append (sz := 1) (R := RInt) (z := (.int .i64 0)) (bytes := 8) Try.underlying34 (by kernel_rfl) rfl (by decide) (by decide) (by decide) F rfl rfl rfl h34 h50.src hB.size (Dj.nil _) c55 (fun a w v56 rb57 h58 l keep F => ?_)
        replace h58 := row_nil2 h58
        replace hB := hB.o l h34.lo hB.size
        refine o_assign F rfl rfl (fun a F => ?_)
        refine x_end ?_
        refine x_bn ?_
        refine x_tn ?_
        refine x_reg ?_
        refine o_inc F rfl rfl rfl ink40 (fun a F => ?_)
        refine o_move F rfl rfl (fun a F => ?_)
        refine x_end ?_
        refine x_tn ?_
        replace hR := l_go hR hn27
        exact ⟨_, Nat.lt_succ_self _, k40 + 1, z54, v56, rb57, (by omega), hR, F.sub (sc rfl (sc rfl (sc rfl (sc rfl sn)))), hB, h58⟩
  · intro a w ⟨s35, v37, rb38, ho26, F, hB, h39⟩
    subst ho26
    have hR := then_nx hk25
    refine x_tn ?_
    refine x_seq ?_
    refine x_reg ?_
    refine o_move F rfl rfl (fun a F => ?_)
    refine o_assign F rfl rfl (fun a F => ?_)
    refine x_end ?_
    refine x_tn ?_
    refine x_ret ?_
    refine x_res1 F rfl (rv_t F rfl) ?_
    obtain rfl := Option.some.inj hR
    exact ⟨_, rfl, hB, v37, rb38, rfl, h39⟩

def spec_l09Equations (N : Nat) (x0 : Rel) : Option (List (List Int)) :=
  bnd (ck (x0.arity + 1)) fun z10 =>
  bnd (spec_l01Power N 2 z10) fun z12 =>
  thn (σ := (List (List Int))) (
    forI (σ := (List (List Int))) (ρ := (List (List Int))) (fun (k768 : Nat) (s754 : (List (List Int))) =>
      bnd (spec_l01Digits N 2 z10 (1 + (k768 : Int))) fun z784 =>
      thn (σ := Bool × Int) (
        whl (σ := Bool × Int) (ρ := (Ctl ((List (List Int))) (List (List Int)))) (fun (s : Bool × Int) =>
          match s with
          | (s956, s957) =>
            thn (σ := Bool) (
              if (decide (s957 < (x0.tuples.length : Int))) then   some (.nx s956) else   some (.nx false)) fun s981 =>
            if s981 then
              bnd (ix z784 x0.arity) fun z998 =>
              thn (σ := Int) (
                forI (σ := Int) (ρ := (Ctl (Bool × Int) (Ctl ((List (List Int))) (List (List Int))))) (fun (k1064 : Nat) (s1060 : Int) =>
                  bnd (ix z784 (k1064 : Int)) fun z1075 =>
                  bnd (ix x0.tuples s957) fun z1090 =>
                  bnd (ix z1090 (k1064 : Int)) fun z1100 =>
                  bnd (ck (z1075 * z1100)) fun z1107 =>
                  bnd (ck (s1060 + z1107)) fun z1109 =>
                  some (.go z1109)) x0.arity.toNat 0 z998) fun s1062 =>
              bnd (rm s1062 2) fun z1116 =>
              bnd (ck (s957 + 1)) fun z1118 =>
              some (.go ((z1116 == 0), z1118))
            else
              some (.brk (s956, s957))) N (true, 0)) fun (s959, s960) =>
      if s959 then
        bnd (ap s754 ([z784])) fun z1129 =>
        some (.go z1129)
      else
        some (.go s754)) (z12 - 1).toNat 0 []) fun s761 =>
  some s761
set_option maxHeartbeats 1000000 in
theorem spec_l09Equations_c {N : Nat} {x0 : Rel} (r : (List (List Int))) (hR : spec_l09Equations N x0 = some r) {v0 : Value} {b0 : List Nat} (w0 : World) (A0 : Rd (Pt 2 RRel) w0 v0 x0 b0) : Calls Try.prog 80 #[v0] w0 (Gives (fun v w' => ∃ (v1' : Value) (rb2' : List Nat) (ib3' : List Nat), v = v1' ∧ Row 1 (RSl 1 RInt) 34 w0.heap.size w' v1' r rb2' ib3' ∧ Own w0.heap.size ib3' w') w0) := by
  unfold spec_l09Equations at hR
  refine x_enter (L := [(0, v0)]) Try.func80 rfl rfl rfl (sc rfl sn) (fun a F => ?_)
  have hB := Below.refl w0.heap.size w0
  refine x_seq ?_
  refine x_reg ?_
  refine o_assign F rfl rfl (fun a F => ?_)
  refine x_end ?_
  refine x_tn ?_
  refine x_seq ?_
  refine x_reg ?_
  refine o_lit0 (R := (RSl 1 RInt)) Try.underlying52 Try.sizeOf34 F rfl (fun a w v1 rb2 h3 l F => ?_)
  replace h3 := h3.base hB.size
  replace hB := Below.through l hB
  refine o_assign F rfl rfl (fun a F => ?_)
  refine x_end ?_
  refine x_tn ?_
  refine x_seq ?_
  refine x_seq ?_
  refine x_reg ?_
  refine o_assign F rfl rfl (fun a F => ?_)
  refine x_end ?_
  refine x_tn ?_
  obtain ⟨z10, c11, hR⟩ := bnd_some hR
  obtain ⟨z12, c13, hR⟩ := bnd_some hR
  obtain ⟨o748, hR, hk749⟩ := thn_some hR
  refine x_cutQ (fun a w => ∃ (s761 : List (List Int)) (v763 : Value) (rb764 : List Nat) (ib766 : List Nat), o748 = .nx s761 ∧ Sk a 81 [(3, v763)] ∧ Below w0.heap.size w0 w ∧ Row 1 (RSl 1 RInt) 34 w0.heap.size w v763 s761 rb764 ib766 ∧ Own w0.heap.size ib766 w) ?_ ?_
  · refine x_blk ?_
    obtain ⟨fl752, hf753, hR⟩ := forI_gen hR
    refine x_loop (fun g a w => ∃ (k768 : Nat) (s754 : List (List Int)) (v756 : Value) (rb757 : List Nat) (ib759 : List Nat), k768 + g = (z12 - 1).toNat ∧ forI fl752 g k768 s754 = some o748 ∧ Sk a 81 [(4, .int .i64 (1 + (k768 : Int))), (0, v0), (3, v756)] ∧ Below w0.heap.size w0 w ∧ Row 1 (RSl 1 RInt) 34 w0.heap.size w v756 s754 rb757 ib759 ∧ Own w0.heap.size ib759 w) (z12 - 1).toNat ?_ ?_
    · exact ⟨0, [], v1, rb2, [], (Nat.zero_add _), hR, F.sub (sc rfl (sc rfl (sc rfl sn))), hB, h3, (Own.nil _ _)⟩
    · intro g771 a w ⟨k768, s754, v756, rb757, ib759, hd772, hR, F, hB, h758, ow760⟩
      cases g771 with
      | zero =>
        replace hR := forI_zero hR
        have hlk768 := dec_noIO hd772
        refine x_seq ?_
        refine x_seq ?_
        refine x_reg ?_
        refine o_move F rfl rfl (fun a F => ?_)
        refine o_move F rfl rfl (fun a F => ?_)
        refine o_nilCheckP F rfl rfl (A0.go hB) (fun a F => ?_)
        refine o_field (s' := 1) fa58_0 F rfl rfl (A0.go hB) RRel.f0 (fun a p1136 b1137 h1138 s1139 F => ?_)
        have i1140 := (h1138).i64
        refine o_loadI Try.isAgg2 F rfl rfl h1138 (fun a F => ?_)
        refine o_add F rfl rfl rfl c11 (fun a F => ?_)
        refine o_saysI F rfl Try.call134 rfl (spec_l01Power_c z12 c13 _ (show I64 (2) by decide) (ck64 c11)) (fun a w l iz12 F => ?_)
        replace hB := Below.through l hB
        replace h758 := h758.go l
        replace ow760 := ow760.go l
        refine o_lss F rfl rfl rfl (fun a F => ?_)
        refine x_end ?_
        refine x_tn ?_
        refine x_ifF F rfl hlk768 ?_
        refine x_exit ?_
        refine x_te ?_
        refine x_te ?_
        refine x_be ?_
        refine x_tn ?_
        exact ⟨s754, v756, rb757, ib759, (Option.some.inj hR).symm, F.sub (sc rfl sn), hB, h758, ow760⟩
      | succ g771 =>
        obtain ⟨ck768, hR, hn751⟩ := forI_succ hR
        rw [hf753] at hR
        have hlk768 := dec_yesIO hd772
        refine x_seq ?_
        refine x_seq ?_
        refine x_reg ?_
        refine o_move F rfl rfl (fun a F => ?_)
        refine o_move F rfl rfl (fun a F => ?_)
        refine o_nilCheckP F rfl rfl (A0.go hB) (fun a F => ?_)
        refine o_field (s' := 1) fa58_0 F rfl rfl (A0.go hB) RRel.f0 (fun a p774 b775 h776 s777 F => ?_)
        have i778 := (h776).i64
        refine o_loadI Try.isAgg2 F rfl rfl h776 (fun a F => ?_)
        refine o_add F rfl rfl rfl c11 (fun a F => ?_)
        refine o_saysI F rfl Try.call134 rfl (spec_l01Power_c z12 c13 _ (show I64 (2) by decide) (ck64 c11)) (fun a w l iz12 F => ?_)
        replace hB := Below.through l hB
        replace h758 := h758.go l
        replace ow760 := ow760.go l
        refine o_lss F rfl rfl rfl (fun a F => ?_)
        refine x_end ?_
        refine x_tn ?_
        refine x_ifT F rfl hlk768 ?_
        refine x_skip ?_
        refine x_tn ?_
        refine x_seq ?_
        have ikk768 := k64O hd772 (show I64 (1) by decide) iz12
        have ink768 := inc64O hd772 (show I64 (1) by decide) iz12
        refine x_blk ?_
        refine x_seq ?_
        refine x_reg ?_
        refine o_move F rfl rfl (fun a F => ?_)
        refine o_nilCheckP F rfl rfl (A0.go hB) (fun a F => ?_)
        refine o_field (s' := 1) fa58_0 F rfl rfl (A0.go hB) RRel.f0 (fun a p779 b780 h781 s782 F => ?_)
        have i783 := (h781).i64
        refine o_loadI Try.isAgg2 F rfl rfl h781 (fun a F => ?_)
        refine o_add F rfl rfl rfl c11 (fun a F => ?_)
        refine o_move F rfl rfl (fun a F => ?_)
        obtain ⟨z784, c785, hR⟩ := bnd_some hR
        refine o_gives F rfl Try.call135 rfl (spec_l01Digits_c z784 c785 _ (show I64 (2) by decide) (ck64 c11) ikk768) (fun a vv w l ⟨v786, rb787, hv790, h789⟩ F => ?_)
        subst vv
        have d792 := Dj.new h758.rd.m h789.ownR (Nat.le_refl _)
        have d793 := Dj.app' (Dj.new h758.memR h789.ownR (Nat.le_refl _)).symm (Dj.nil' _)
        have d794 := Dj.app' (Dj.new h758.mem h789.ownR (Nat.le_refl _)).symm (Dj.nil' _)
        replace h789 := h789.base hB.size
        replace hB := Below.through l hB
        replace h758 := h758.go l
        replace ow760 := ow760.go l
        refine o_assign F rfl rfl (fun a F => ?_)
        refine x_end ?_
        refine x_tn ?_
        refine x_seq ?_
        refine x_reg ?_
        refine o_assign F rfl rfl (fun a F => ?_)
        refine x_end ?_
        refine x_tn ?_
        refine x_seq ?_
        refine x_seq ?_
        refine x_reg ?_
        refine o_assign F rfl rfl (fun a F => ?_)
        refine x_end ?_
        refine x_tn ?_
        obtain ⟨o950, hR, hk951⟩ := thn_some hR
        refine x_cutQ (fun a w => ∃ (s959 : Bool) (s960 : Int), o950 = .nx (s959, s960) ∧ Sk a 81 [(0, v0), (3, v756), (4, .int .i64 (1 + (k768 : Int))), (5, v786), (6, .bool s959)] ∧ Below w0.heap.size w0 w ∧ I64 s960 ∧ Row 1 (RSl 1 RInt) 34 w0.heap.size w v756 s754 rb757 ib759 ∧ Own w0.heap.size ib759 w ∧ Row 1 RInt 2 w0.heap.size w v786 z784 rb787 ([])) ?_ ?_
        · refine x_blk ?_
          obtain ⟨fl954, hf955, hR⟩ := whl_gen hR
          refine x_loop (fun g a w => ∃ (s956 : Bool) (s957 : Int), whl fl954 g (s956, s957) = some o950 ∧ Sk a 81 [(0, v0), (3, v756), (4, .int .i64 (1 + (k768 : Int))), (5, v786), (6, .bool s956), (7, .int .i64 s957)] ∧ Below w0.heap.size w0 w ∧ I64 s957 ∧ Row 1 (RSl 1 RInt) 34 w0.heap.size w v756 s754 rb757 ib759 ∧ Own w0.heap.size ib759 w ∧ Row 1 RInt 2 w0.heap.size w v786 z784 rb787 ([])) N ?_ ?_
          · exact ⟨true, 0, hR, F.sub (sc rfl (sc rfl (sc rfl (sc rfl (sc rfl (sc rfl sn)))))), hB, (show I64 (0) by decide), h758, ow760, h789⟩
          · intro g965 a w ⟨s956, s957, hR, F, hB, i958, h758, ow760, h789⟩
            obtain ⟨ck962, rest963, hg967, hR, hn953⟩ := whl_round hR
            rw [hf955] at hR
            refine x_seq ?_
            refine x_seq ?_
            obtain ⟨o978, hR, hk979⟩ := thn_some hR
            refine x_cutQ (fun a w => ∃ (s981 : Bool), o978 = .nx s981 ∧ Sk a 81 [(0, v0), (3, v756), (4, .int .i64 (1 + (k768 : Int))), (5, v786), (6, .bool s956), (7, .int .i64 s957), (37, .bool s981)] ∧ Below w0.heap.size w0 w ∧ Row 1 (RSl 1 RInt) 34 w0.heap.size w v756 s754 rb757 ib759 ∧ Own w0.heap.size ib759 w ∧ Row 1 RInt 2 w0.heap.size w v786 z784 rb787 ([])) ?_ ?_
            · refine x_reg ?_
              refine o_move F rfl rfl (fun a F => ?_)
              refine o_move F rfl rfl (fun a F => ?_)
              refine o_nilCheckP F rfl rfl (A0.go hB) (fun a F => ?_)
              refine o_field (s' := 1) fa58_1 F rfl rfl (A0.go hB) RRel.f1 (fun a p982 b983 h984 s985 F => ?_)
              refine o_loadS Try.isAgg52 F rfl rfl h984 (fun a v986 b987 h988 s989 F => ?_)
              refine o_len Try.underlying52 F rfl rfl h988 (fun a F => ?_)
              have i990 := (h988).r.len64
              refine o_lss F rfl rfl rfl (fun a F => ?_)
              refine o_move F rfl rfl (fun a F => ?_)
              rcases bcases (decide (s957 < (x0.tuples.length : Int))) with hb991 | hb991
              · replace hR := ifT hb991 hR
                have F := F.eq (t := 35) rfl (congrArg Value.bool hb991)
                refine o_move F rfl rfl (fun a F => ?_)
                refine o_pickt F rfl rfl rfl (fun a F => ?_)
                refine x_end ?_
                refine x_tn ?_
                exact ⟨s956, (Option.some.inj hR).symm, F.sub (sc rfl (sc rfl (sc rfl (sc rfl (sc rfl (sc rfl (sc rfl sn))))))), hB, h758, ow760, h789⟩
              · replace hR := ifF hb991 hR
                have F := F.eq (t := 35) rfl (congrArg Value.bool hb991)
                refine o_no F rfl rfl (fun a F => ?_)
                refine o_pickf F rfl rfl rfl (fun a F => ?_)
                refine x_end ?_
                refine x_tn ?_
                exact ⟨false, (Option.some.inj hR).symm, F.sub (sc rfl (sc rfl (sc rfl (sc rfl (sc rfl (sc rfl (sc rfl sn))))))), hB, h758, ow760, h789⟩
            · intro a w ⟨s981, ho980, F, hB, h758, ow760, h789⟩
              subst ho980
              have hR := then_nx hk979
              refine x_tn ?_
              refine x_if F rfl (fun hb992 => ?_) (fun hb992 => ?_)
              · replace hR := ifT hb992 hR
                refine x_skip ?_
                refine x_tn ?_
                refine x_seq ?_
                refine x_blk ?_
                refine x_seq ?_
                refine x_reg ?_
                refine o_move F rfl rfl (fun a F => ?_)
                refine o_move F rfl rfl (fun a F => ?_)
                refine o_nilCheckP F rfl rfl (A0.go hB) (fun a F => ?_)
                refine o_field (s' := 1) fa58_0 F rfl rfl (A0.go hB) RRel.f0 (fun a p993 b994 h995 s996 F => ?_)
                have i997 := (h995).i64
                refine o_loadI Try.isAgg2 F rfl rfl h995 (fun a F => ?_)
                obtain ⟨z998, c999, hR⟩ := bnd_some hR
                refine o_rindex Try.underlying34 Try.sizeOf2 F rfl rfl rfl h789 c999 (fun a p1000 b1001 h1002 s1003 rp1004 F => ?_)
                have i1005 := (h1002).i64
                refine o_loadI Try.isAgg2 F rfl rfl h1002 (fun a F => ?_)
                refine o_assign F rfl rfl (fun a F => ?_)
                refine x_end ?_
                refine x_tn ?_
                refine x_seq ?_
                refine x_seq ?_
                refine x_reg ?_
                refine o_assign F rfl rfl (fun a F => ?_)
                refine x_end ?_
                refine x_tn ?_
                obtain ⟨o1054, hR, hk1055⟩ := thn_some hR
                refine x_cutQ (fun a w => ∃ (s1062 : Int), o1054 = .nx s1062 ∧ Sk a 81 [(0, v0), (3, v756), (4, .int .i64 (1 + (k768 : Int))), (5, v786), (7, .int .i64 s957), (8, .int .i64 s1062)] ∧ Below w0.heap.size w0 w ∧ I64 s1062 ∧ Row 1 (RSl 1 RInt) 34 w0.heap.size w v756 s754 rb757 ib759 ∧ Own w0.heap.size ib759 w ∧ Row 1 RInt 2 w0.heap.size w v786 z784 rb787 ([])) ?_ ?_
                · refine x_blk ?_
                  obtain ⟨fl1058, hf1059, hR⟩ := forI_gen hR
                  refine x_loop (fun g a w => ∃ (k1064 : Nat) (s1060 : Int), k1064 + g = x0.arity.toNat ∧ forI fl1058 g k1064 s1060 = some o1054 ∧ Sk a 81 [(9, .int .i64 (k1064 : Int)), (0, v0), (3, v756), (4, .int .i64 (1 + (k768 : Int))), (5, v786), (7, .int .i64 s957), (8, .int .i64 s1060)] ∧ Below w0.heap.size w0 w ∧ I64 s1060 ∧ Row 1 (RSl 1 RInt) 34 w0.heap.size w v756 s754 rb757 ib759 ∧ Own w0.heap.size ib759 w ∧ Row 1 RInt 2 w0.heap.size w v786 z784 rb787 ([])) x0.arity.toNat ?_ ?_
                  · exact ⟨0, z998, (Nat.zero_add _), hR, F.sub (sc rfl (sc rfl (sc rfl (sc rfl (sc rfl (sc rfl (sc rfl sn))))))), hB, i1005, h758, ow760, h789⟩
                  · intro g1067 a w ⟨k1064, s1060, hd1068, hR, F, hB, i1061, h758, ow760, h789⟩
                    cases g1067 with
                    | zero =>
                      replace hR := forI_zero hR
                      have hlk1064 := dec_noI hd1068
                      refine x_seq ?_
                      refine x_seq ?_
                      refine x_reg ?_
                      refine o_move F rfl rfl (fun a F => ?_)
                      refine o_move F rfl rfl (fun a F => ?_)
                      refine o_nilCheckP F rfl rfl (A0.go hB) (fun a F => ?_)
                      refine o_field (s' := 1) fa58_0 F rfl rfl (A0.go hB) RRel.f0 (fun a p1111 b1112 h1113 s1114 F => ?_)
                      have i1115 := (h1113).i64
                      refine o_loadI Try.isAgg2 F rfl rfl h1113 (fun a F => ?_)
                      refine o_lss F rfl rfl rfl (fun a F => ?_)
                      refine x_end ?_
                      refine x_tn ?_
                      refine x_ifF F rfl hlk1064 ?_
                      refine x_exit ?_
                      refine x_te ?_
                      refine x_te ?_
                      refine x_be ?_
                      refine x_tn ?_
                      exact ⟨s1060, (Option.some.inj hR).symm, F.sub (sc rfl (sc rfl (sc rfl (sc rfl (sc rfl (sc rfl sn)))))), hB, i1061, h758, ow760, h789⟩
                    | succ g1067 =>
                      obtain ⟨ck1064, hR, hn1057⟩ := forI_succ hR
                      rw [hf1059] at hR
                      have hlk1064 := dec_yesI hd1068
                      refine x_seq ?_
                      refine x_seq ?_
                      refine x_reg ?_
                      refine o_move F rfl rfl (fun a F => ?_)
                      refine o_move F rfl rfl (fun a F => ?_)
                      refine o_nilCheckP F rfl rfl (A0.go hB) (fun a F => ?_)
                      refine o_field (s' := 1) fa58_0 F rfl rfl (A0.go hB) RRel.f0 (fun a p1070 b1071 h1072 s1073 F => ?_)
                      have i1074 := (h1072).i64
                      refine o_loadI Try.isAgg2 F rfl rfl h1072 (fun a F => ?_)
                      refine o_lss F rfl rfl rfl (fun a F => ?_)
                      refine x_end ?_
                      refine x_tn ?_
                      refine x_ifT F rfl hlk1064 ?_
                      refine x_skip ?_
                      refine x_tn ?_
                      refine x_seq ?_
                      have ikk1064 := k64I hd1068 i1074
                      have ink1064 := inc64I hd1068 i1074
                      refine x_blk ?_
                      refine x_draw (by kernel_rfl) (by kernel_rfl) ?_
                      refine q_val F rfl (fun w l => r_move F rfl) (fun a F => ?_)
                      refine q_val F rfl (fun w l => r_move F rfl) (fun a F => ?_)
                      refine q_val F rfl (fun w l => r_move F rfl) (fun a F => ?_)
                      obtain ⟨z1075, c1076, hR⟩ := bnd_some hR
                      refine q_index Try.underlying34 Try.sizeOf2 F rfl rfl rfl h789.rd c1076 (fun a p1077 b1078 h1079 s1080 F => ?_)
                      have i1081 := (h1079).i64
                      refine q_val F rfl (fun w l => r_loadI Try.isAgg2 F rfl ((h1079).go l)) (fun a F => ?_)
                      refine q_val F rfl (fun w l => r_move F rfl) (fun a F => ?_)
                      refine q_val F rfl (fun w l => r_nilCheckP F rfl (A0.go hB)) (fun a F => ?_)
                      refine q_field (s' := 1) fa58_1 F rfl rfl (A0.go hB) RRel.f1 (fun a p1082 b1083 h1084 s1085 F => ?_)
                      refine q_loadS (fun _ l => l) Try.isAgg52 F rfl rfl h1084 (fun a v1086 b1087 h1088 s1089 F => ?_)
                      refine q_val F rfl (fun w l => r_move F rfl) (fun a F => ?_)
                      obtain ⟨z1090, c1091, hR⟩ := bnd_some hR
                      refine q_index Try.underlying52 Try.sizeOf34 F rfl rfl rfl h1088 c1091 (fun a p1092 b1093 h1094 s1095 F => ?_)
                      refine q_loadS (fun _ l => l) Try.isAgg34 F rfl rfl h1094 (fun a v1096 b1097 h1098 s1099 F => ?_)
                      refine q_val F rfl (fun w l => r_move F rfl) (fun a F => ?_)
                      obtain ⟨z1100, c1101, hR⟩ := bnd_some hR
                      refine q_index Try.underlying34 Try.sizeOf2 F rfl rfl rfl h1098 c1101 (fun a p1102 b1103 h1104 s1105 F => ?_)
                      have i1106 := (h1104).i64
                      refine q_val F rfl (fun w l => r_loadI Try.isAgg2 F rfl ((h1104).go l)) (fun a F => ?_)
                      obtain ⟨z1107, c1108, hR⟩ := bnd_some hR
                      refine q_val F rfl (fun w l => r_mul F rfl rfl c1108) (fun a F => ?_)
                      obtain ⟨z1109, c1110, hR⟩ := bnd_some hR
                      refine q_val F rfl (fun w l => r_add F rfl rfl c1110) (fun a F => ?_)
                      refine q_val F rfl (fun w l => r_assign F rfl) (fun a F => ?_)
                      refine q_end (fun w l => ?_)
                      replace hB := Below.through l hB
                      replace h758 := h758.go l
                      replace ow760 := ow760.go l
                      replace h789 := h789.go l
                      refine x_bn ?_
                      refine x_tn ?_
                      refine x_reg ?_
                      refine o_move F rfl rfl (fun a F => ?_)
                      refine o_inc F rfl rfl rfl ink1064 (fun a F => ?_)
                      refine o_assign F rfl rfl (fun a F => ?_)
                      refine x_end ?_
                      refine x_tn ?_
                      replace hR := l_go hR hn1057
                      exact ⟨_, Nat.lt_succ_self _, k1064 + 1, z1109, (by omega), hR, F.sub (sc rfl (sc rfl (sc rfl (sc rfl (sc rfl (sc rfl (sc rfl sn))))))), hB, (ck64 c1110), h758, ow760, h789⟩
                · intro a w ⟨s1062, ho1056, F, hB, i1063, h758, ow760, h789⟩
                  subst ho1056
                  have hR := then_nx hk1055
                  refine x_tn ?_
                  refine x_reg ?_
                  refine o_move F rfl rfl (fun a F => ?_)
                  obtain ⟨z1116, c1117, hR⟩ := bnd_some hR
                  refine o_rem F rfl rfl rfl c1117 (fun a F => ?_)
                  refine o_eql F rfl rfl rfl (fun a F => ?_)
                  refine o_assign F rfl rfl (fun a F => ?_)
                  refine x_end ?_
                  refine x_bn ?_
                  refine x_tn ?_
                  refine x_reg ?_
                  refine o_move F rfl rfl (fun a F => ?_)
                  obtain ⟨z1118, c1119, hR⟩ := bnd_some hR
                  refine o_add F rfl rfl rfl c1119 (fun a F => ?_)
                  refine o_assign F rfl rfl (fun a F => ?_)
                  refine x_end ?_
                  refine x_tn ?_
                  replace hR := l_go hR hn953
                  exact ⟨rest963, (by omega), (z1116 == 0), z1118, hR, F.sub (sc rfl (sc rfl (sc rfl (sc rfl (sc rfl (sc rfl sn)))))), hB, (ck64 c1119), h758, ow760, h789⟩
              · replace hR := ifF hb992 hR
                refine x_exit ?_
                refine x_te ?_
                refine x_te ?_
                replace hR := l_brk hR hn953
                refine x_be ?_
                refine x_tn ?_
                exact ⟨s956, s957, (Option.some.inj hR).symm, F.sub (sc rfl (sc rfl (sc rfl (sc rfl (sc rfl sn))))), hB, i958, h758, ow760, h789⟩
        · intro a w ⟨s959, s960, ho952, F, hB, i961, h758, ow760, h789⟩
          subst ho952
          have hR := then_nx hk951
          refine x_tn ?_
          refine x_seq ?_
          refine x_reg ?_
          refine o_move F rfl rfl (fun a F => ?_)
          refine x_end ?_
          refine x_tn ?_
          refine x_if F rfl (fun hb1120 => ?_) (fun hb1120 => ?_)
          · replace hR := ifT hb1120 hR
            refine x_reg ?_
            refine o_move F rfl rfl (fun a F => ?_)
            refine o_move F rfl rfl (fun a F => ?_)
            refine o_lit1 (R := (RSl 1 RInt)) (y := z784) Try.underlying52 Try.sizeOf34 Try.zeroValue34 rfl (by decide) (by decide) F rfl rfl (El.sl h789.rd) (fun a w v1121 rb1122 h1123 l F => ?_)
            have ow1124 := Own.go (h789.own (Own.nil _ _)) l
            have d1126 := Dj.new h758.rd.m h1123.ownR (Nat.le_refl _)
            have d1127 := Dj.app' (Dj.new h758.memR h1123.ownR (Nat.le_refl _)).symm d793
            have d1128 := Dj.app' (Dj.new h758.mem h1123.ownR (Nat.le_refl _)).symm d794
            replace h1123 := h1123.base hB.size
            replace hB := Below.through l hB
            replace h758 := h758.go l
            replace ow760 := ow760.go l
            obtain ⟨z1129, c1130, hR⟩ := bnd_some hR
            refine o_append (sz := 1) (R := (RSl 1 RInt)) (z := ((.slice none 0 0))) (bytes := 24) Try.underlying52 (by kernel_rfl) rfl (by decide) (by decide) (by decide) F rfl rfl rfl h758 h1123.src hB.size (Dj.symm d1127.r) c1130 (fun a w v1131 rb1132 h1133 l keep F => ?_)
            have ow1134 := Own.append (Own.goO ow760 l h758.dj.symm) (Own.goO ow1124 l (Dj.symm (Dj.symm d1127.r))) (Dj.symm d1128.r)
            replace hB := hB.o l h758.lo hB.size
            refine o_assign F rfl rfl (fun a F => ?_)
            refine x_end ?_
            refine x_bn ?_
            refine x_tn ?_
            refine x_reg ?_
            refine o_move F rfl rfl (fun a F => ?_)
            refine o_incO F rfl rfl rfl ink768 (fun a F => ?_)
            refine o_assign F rfl rfl (fun a F => ?_)
            refine x_end ?_
            refine x_tn ?_
            replace hR := l_go hR hn751
            exact ⟨_, Nat.lt_succ_self _, k768 + 1, z1129, v1131, rb1132, (ib759 ++ (rb787 ++ [])), (by omega), hR, F.sub (sc rfl (sc rfl (sc rfl sn))), hB, h1133, ow1134⟩
          · replace hR := ifF hb1120 hR
            refine x_skip ?_
            refine x_bn ?_
            refine x_tn ?_
            refine x_reg ?_
            refine o_move F rfl rfl (fun a F => ?_)
            refine o_incO F rfl rfl rfl ink768 (fun a F => ?_)
            refine o_assign F rfl rfl (fun a F => ?_)
            refine x_end ?_
            refine x_tn ?_
            replace hR := l_go hR hn751
            exact ⟨_, Nat.lt_succ_self _, k768 + 1, s754, v756, rb757, ib759, (by omega), hR, F.sub (sc rfl (sc rfl (sc rfl sn))), hB, h758, ow760⟩
  · intro a w ⟨s761, v763, rb764, ib766, ho750, F, hB, h765, ow767⟩
    subst ho750
    have hR := then_nx hk749
    refine x_tn ?_
    refine x_seq ?_
    refine x_reg ?_
    refine o_move F rfl rfl (fun a F => ?_)
    refine o_assign F rfl rfl (fun a F => ?_)
    refine x_end ?_
    refine x_tn ?_
    refine x_ret ?_
    refine x_res1 F rfl (rv_t F rfl) ?_
    obtain rfl := Option.some.inj hR
    exact ⟨_, rfl, hB, v763, rb764, ib766, rfl, h765, ow767⟩

def impl_isTrue (x0 : Int) (x1 : Equation) (x2 : List Int) : Option Bool :=
  thn (σ := Int) (
    forL (σ := Int) (ρ := Bool) (fun (k38 : Nat) (x40 : Int) (s34 : Int) =>
      bnd (ix x2 (k38 : Int)) fun z49 =>
      bnd (ck (x40 * z49)) fun z56 =>
      bnd (ck (s34 + z56)) fun z58 =>
      some (.go z58)) x1.left 0 0) fun s36 =>
  bnd (rm s36 x0) fun z60 =>
  some ((z60 == x1.right))
set_option maxHeartbeats 1000000 in
theorem impl_isTrue_c {x0 : Int} {x1 : Equation} {x2 : List Int} (r : Bool) (hR : impl_isTrue x0 x1 x2 = some r) {v1 : Value} {b1 : List Nat} {v2 : Value} {b2 : List Nat} (w0 : World) (hx0 : I64 x0) (A1 : Rd (Agg 2 REquation) w0 v1 x1 b1) (A2 : Rd (Sl 1 RInt) w0 v2 x2 b2) : Calls Try.prog 143 #[.int .i64 x0, v1, v2] w0 (Says (.bool r) w0) := by
  unfold impl_isTrue at hR
  refine x_enter (L := [(0, .int .i64 x0), (1, v1), (2, v2)]) Try.func143 rfl rfl rfl (sc rfl (sc rfl (sc rfl sn))) (fun a F => ?_)
  have hB := Below.refl w0.heap.size w0
  refine x_seq ?_
  refine x_reg ?_
  obtain ⟨v3, b4, e7, h5, i6, _⟩ := REquation.rd (A1.go hB)
  subst e7
  refine o_box F rfl rfl rfl (fun a w b1 K2 l BK2 F => ?_)
  have d8 := (dj1 h5.m BK2).symm
  have CK2 := Nat.le_trans hB.size BK2
  replace hB := Below.through l hB
  replace h5 := h5.go l
  refine o_assign F rfl rfl (fun a F => ?_)
  refine x_end ?_
  refine x_tn ?_
  refine x_seq ?_
  refine x_reg ?_
  refine o_assign F rfl rfl (fun a F => ?_)
  refine x_end ?_
  refine x_tn ?_
  refine x_seq ?_
  refine x_seq ?_
  refine x_reg ?_
  refine o_bfield fa181_0 F rfl rfl rfl (fun a F => ?_)
  refine o_bload Try.isAgg34 F rfl rfl K2 rfl (fun a F => ?_)
  refine o_len Try.underlying34 F rfl rfl h5 (fun a F => ?_)
  have i9 := (h5).r.len64
  refine o_move F rfl rfl (fun a F => ?_)
  refine x_end ?_
  refine x_tn ?_
  obtain ⟨o28, hR, hk29⟩ := thn_some hR
  refine x_cutQ (fun a w => ∃ (s36 : Int), o28 = .nx s36 ∧ Sk a 33 [(0, .int .i64 x0), (4, .pointer (some ⟨b1, 0, none⟩)), (7, .int .i64 s36)] ∧ Below w0.heap.size w0 w ∧ I64 s36 ∧ Rd (Sl 1 RInt) w v3 x1.left b4 ∧ Blk w b1 #[v3, .int .i64 x1.right] 181) ?_ ?_
  · refine x_blk ?_
    obtain ⟨fl32, hf33, hR⟩ := forL_gen hR
    refine x_loop (fun g a w => ∃ (k38 : Nat) (rest39 : List Int) (s34 : Int), (k38 ≤ x1.left.length ∧ x1.left.drop k38 = rest39) ∧ rest39.length = g ∧ forL fl32 rest39 k38 s34 = some o28 ∧ Sk a 33 [(13, .int .i64 (k38 : Int)), (0, .int .i64 x0), (2, v2), (4, .pointer (some ⟨b1, 0, none⟩)), (7, .int .i64 s34), (11, v3), (12, .int .i64 (x1.left.length : Int))] ∧ Below w0.heap.size w0 w ∧ I64 s34 ∧ Rd (Sl 1 RInt) w v3 x1.left b4 ∧ Blk w b1 #[v3, .int .i64 x1.right] 181) x1.left.length ?_ ?_
    · exact ⟨0, x1.left, 0, ⟨Nat.zero_le _, rfl⟩, rfl, hR, F.sub (sc rfl (sc rfl (sc rfl (sc rfl (sc rfl (sc rfl (sc rfl sn))))))), hB, (show I64 (0) by decide), h5, K2⟩
    · intro g41 a w ⟨k38, rest39, s34, hd42, hg43, hR, F, hB, i35, h5, K2⟩
      cases rest39 with
      | nil =>
        replace hR := forL_nil hR
        have hkk38 := drop_nil hd42.1 hd42.2
        have hlk38 := dec_no hkk38
        refine x_seq ?_
        refine x_reg ?_
        refine o_lss F rfl rfl rfl (fun a F => ?_)
        refine x_end ?_
        refine x_tn ?_
        refine x_seq ?_
        refine x_ifF F rfl hlk38 ?_
        refine x_exit ?_
        refine x_te ?_
        refine x_te ?_
        refine x_be ?_
        refine x_tn ?_
        exact ⟨s34, (Option.some.inj hR).symm, F.sub (sc rfl (sc rfl (sc rfl sn))), hB, i35, h5, K2⟩
      | cons x40 rest39 =>
        subst hg43
        replace hd42 := drop_cons hd42.2
        have hxk38 := ix_nat hd42.2.1
        obtain ⟨ck38, hR, hn31⟩ := forL_cons hR
        rw [hf33] at hR
        have hlk38 := dec_yes hd42.1
        refine x_seq ?_
        refine x_reg ?_
        refine o_lss F rfl rfl rfl (fun a F => ?_)
        refine x_end ?_
        refine x_tn ?_
        refine x_seq ?_
        refine x_ifT F rfl hlk38 ?_
        refine x_skip ?_
        refine x_tn ?_
        refine x_seq ?_
        have ikk38 := k64 (Nat.le_of_lt hd42.1) i9
        have ink38 := inc64 hd42.1 i9
        refine x_blk ?_
        refine x_seq ?_
        refine x_reg ?_
        refine o_move F rfl rfl (fun a F => ?_)
        refine o_index Try.underlying34 Try.sizeOf2 F rfl rfl rfl h5 hxk38 (fun a p44 b45 h46 s47 F => ?_)
        have i48 := (h46).i64
        refine o_loadI Try.isAgg2 F rfl rfl h46 (fun a F => ?_)
        refine o_assign F rfl rfl (fun a F => ?_)
        refine o_assign F rfl rfl (fun a F => ?_)
        refine x_end ?_
        refine x_tn ?_
        refine x_reg ?_
        refine o_move F rfl rfl (fun a F => ?_)
        refine o_move F rfl rfl (fun a F => ?_)
        refine o_move F rfl rfl (fun a F => ?_)
        refine o_move F rfl rfl (fun a F => ?_)
        obtain ⟨z49, c50, hR⟩ := bnd_some hR
        refine o_index Try.underlying34 Try.sizeOf2 F rfl rfl rfl (A2.go hB) c50 (fun a p51 b52 h53 s54 F => ?_)
        have i55 := (h53).i64
        refine o_loadI Try.isAgg2 F rfl rfl h53 (fun a F => ?_)
        obtain ⟨z56, c57, hR⟩ := bnd_some hR
        refine o_mul F rfl rfl rfl c57 (fun a F => ?_)
        obtain ⟨z58, c59, hR⟩ := bnd_some hR
        refine o_add F rfl rfl rfl c59 (fun a F => ?_)
        refine o_assign F rfl rfl (fun a F => ?_)
        refine x_end ?_
        refine x_bn ?_
        refine x_tn ?_
        refine x_reg ?_
        refine o_inc F rfl rfl rfl ink38 (fun a F => ?_)
        refine o_move F rfl rfl (fun a F => ?_)
        refine x_end ?_
        refine x_tn ?_
        replace hR := l_go hR hn31
        exact ⟨_, Nat.lt_succ_self _, k38 + 1, rest39, z58, ⟨hd42.1, hd42.2.2⟩, rfl, hR, F.sub (sc rfl (sc rfl (sc rfl (sc rfl (sc rfl (sc rfl (sc rfl sn))))))), hB, (ck64 c59), h5, K2⟩
  · intro a w ⟨s36, ho30, F, hB, i37, h5, K2⟩
    subst ho30
    have hR := then_nx hk29
    refine x_tn ?_
    refine x_seq ?_
    refine x_draw (by kernel_rfl) (by kernel_rfl) ?_
    refine q_val F rfl (fun w l => r_move F rfl) (fun a F => ?_)
    refine q_val F rfl (fun w l => r_move F rfl) (fun a F => ?_)
    obtain ⟨z60, c61, hR⟩ := bnd_some hR
    refine q_val F rfl (fun w l => r_rem F rfl rfl c61) (fun a F => ?_)
    refine q_val F rfl (fun w l => r_bfield fa181_1 F rfl rfl) (fun a F => ?_)
    refine q_val F rfl (fun w l => r_load1 Try.isAgg2 F rfl (((K2.thru l).cell _).trans rfl)) (fun a F => ?_)
    refine q_val F rfl (fun w l => r_eql F rfl rfl) (fun a F => ?_)
    refine q_val F rfl (fun w l => r_assign F rfl) (fun a F => ?_)
    refine q_end (fun w l => ?_)
    replace hB := Below.through l hB
    refine x_tn ?_
    refine x_ret ?_
    refine x_res1 F rfl (rv_t F rfl) ?_
    obtain rfl := Option.some.inj hR
    exact ⟨rfl, hB⟩

def impl_equationsOver_1 (x0 : List Int) (y0 : Equation) : Option Bool :=
  bnd (impl_isTrue 2 y0 x0) fun z5 =>
  some ((!z5))
set_option maxHeartbeats 1000000 in
theorem impl_equationsOver_1_c {x0 : List Int} {y0 : Equation} (r : Bool) (hR : impl_equationsOver_1 x0 y0 = some r) {v0 : Value} {b0 : List Nat} {v1 : Value} {b1 : List Nat} (w0 : World) (A0 : Rd (Sl 1 RInt) w0 v0 x0 b0) (A1 : Rd (Pt 2 REquation) w0 v1 y0 b1) : Calls Try.prog 142 #[v0, v1] w0 (Says (.bool r) w0) := by
  unfold impl_equationsOver_1 at hR
  refine x_enter (L := [(0, v0), (1, v1)]) Try.func142 rfl rfl rfl (sc rfl (sc rfl sn)) (fun a F => ?_)
  have hB := Below.refl w0.heap.size w0
  refine x_seq ?_
  refine x_reg ?_
  refine o_assign F rfl rfl (fun a F => ?_)
  refine x_end ?_
  refine x_tn ?_
  refine x_seq ?_
  refine x_reg ?_
  refine o_loadA Try.isAgg181 Try.sizeOf181 F rfl rfl (A1.go hB) (fun a v1 b2 h3 s4 F => ?_)
  refine o_move F rfl rfl (fun a F => ?_)
  obtain ⟨z5, c6, hR⟩ := bnd_some hR
  refine o_says F rfl Try.call143 rfl (impl_isTrue_c z5 c6 _ (show I64 (2) by decide) h3 (A0.go hB)) (fun a w l F => ?_)
  replace hB := Below.through l hB
  refine o_not F rfl rfl (fun a F => ?_)
  refine o_assign F rfl rfl (fun a F => ?_)
  refine x_end ?_
  refine x_tn ?_
  refine x_ret ?_
  refine x_res1 F rfl (rv_t F rfl) ?_
  obtain rfl := Option.some.inj hR
  exact ⟨rfl, hB⟩

def spec_l09Op (x0 : Int) : Option Op :=
  if (x0 == 1) then
    some ((Op.mk 1 ([0, 0])))
  else
    if (x0 == 2) then
      some ((Op.mk 1 ([1, 1])))
    else
      if (x0 == 3) then
        some ((Op.mk 2 ([0, 0, 0, 1])))
      else
        if (x0 == 4) then
          some ((Op.mk 2 ([0, 1, 1, 1])))
        else
          if (x0 == 5) then
            some ((Op.mk 3 ([0, 0, 0, 1, 0, 1, 1, 1])))
          else
            some ((Op.mk 3 ([0, 1, 1, 0, 1, 0, 0, 1])))
set_option maxHeartbeats 1000000 in
theorem spec_l09Op_c {x0 : Int} (r : Op) (hR : spec_l09Op x0 = some r)  (w0 : World) (hx0 : I64 x0) : Calls Try.prog 69 #[.int .i64 x0] w0 (Gives (fun v w' => ∃ (v1' : Value) (rb2' : List Nat), v = .agg #[.int .i64 r.arity, v1'] ∧ I64 r.arity ∧ Row 1 RInt 2 w0.heap.size w' v1' r.table rb2' []) w0) := by
  unfold spec_l09Op at hR
  refine x_enter (L := [(0, .int .i64 x0)]) Try.func69 rfl rfl rfl (sc rfl sn) (fun a F => ?_)
  have hB := Below.refl w0.heap.size w0
  refine x_seq ?_
  refine x_reg ?_
  refine o_alloc Try.zeroValue36 F rfl rfl (fun a w b1 K2 l BK2 F => ?_)
  have CK2 := Nat.le_trans hB.size BK2
  replace hB := Below.through l hB
  refine x_end ?_
  refine x_tn ?_
  refine x_seq ?_
  refine x_seq ?_
  refine x_reg ?_
  refine o_move F rfl rfl (fun a F => ?_)
  refine x_end ?_
  refine x_tn ?_
  refine x_blk ?_
  refine x_seq ?_
  refine x_reg ?_
  refine o_eql F rfl rfl rfl (fun a F => ?_)
  refine o_assign F rfl rfl (fun a F => ?_)
  refine x_end ?_
  refine x_tn ?_
  refine x_if F rfl (fun hb3 => ?_) (fun hb3 => ?_)
  · replace hR := ifT hb3 hR
    refine x_seq ?_
    refine x_reg ?_
    refine o_litI (xs := [.const (.int .i64 0), .const (.int .i64 0)]) (l := [0, 0]) Try.underlying34 Try.sizeOf2 Try.zeroValue2 rfl F rfl rfl rfl (by decide) (by decide) rfl (by simp only [List.forall_mem_cons, List.not_mem_nil, false_implies, implies_true, and_true]; exact ⟨(show I64 (0) by decide), (show I64 (0) by decide)⟩) (fun a w v4 rb5 h6 l F => ?_)
    have d8 := Dj.new (inm1 K2) h6.ownR (Nat.le_refl _)
    replace h6 := h6.base hB.size
    replace hB := Below.through l hB
    replace K2 := K2.thru l
    refine o_build Try.underlying36 Try.zeroValue36 (fun w => by simp [Try.sizeOf2, Try.sizeOf34]; rfl) F rfl rfl rfl rfl rfl (oc rfl (oc (h6.rd).r.one on)) rfl rfl (fun a F => ?_)
    have h9 := ROp.mk2 (w := w) (show I64 (1) by decide) h6.rd
    refine o_bstoreA (vs := [.int .i64 1, v4]) Try.sizeOf36 F rfl rfl rfl K2 (oc rfl (oc (h6.rd).r.one on)) (Nat.le_of_ble_eq_true rfl) rfl (fun w K2 l => ?_)
    replace hB := hB.o l (fun c hc => by rw [List.mem_singleton] at hc; rw [hc]; exact CK2) hB.size
    replace h6 := h6.goO l (Dj.app' (Dj.symm d8) (Dj.nil' _))
    refine x_end ?_
    refine x_tn ?_
    refine x_ret ?_
    refine x_br ?_
    refine x_tr ?_
    refine x_res1 F rfl (rv_cA (arr := #[.int .i64 1, v4]) F Try.isAgg36 Try.sizeOf36 rfl K2) ?_
    obtain rfl := Option.some.inj hR
    exact ⟨_, rfl, hB, v4, rb5, rfl, (show I64 (1) by decide), h6⟩
  · replace hR := ifF hb3 hR
    refine x_seq ?_
    refine x_reg ?_
    refine o_eql F rfl rfl rfl (fun a F => ?_)
    refine o_assign F rfl rfl (fun a F => ?_)
    refine x_end ?_
    refine x_tn ?_
    refine x_if F rfl (fun hb10 => ?_) (fun hb10 => ?_)
    · replace hR := ifT hb10 hR
      refine x_seq ?_
      refine x_reg ?_
      refine o_litI (xs := [.const (.int .i64 1), .const (.int .i64 1)]) (l := [1, 1]) Try.underlying34 Try.sizeOf2 Try.zeroValue2 rfl F rfl rfl rfl (by decide) (by decide) rfl (by simp only [List.forall_mem_cons, List.not_mem_nil, false_implies, implies_true, and_true]; exact ⟨(show I64 (1) by decide), (show I64 (1) by decide)⟩) (fun a w v11 rb12 h13 l F => ?_)
      have d15 := Dj.new (inm1 K2) h13.ownR (Nat.le_refl _)
      replace h13 := h13.base hB.size
      replace hB := Below.through l hB
      replace K2 := K2.thru l
      refine o_build Try.underlying36 Try.zeroValue36 (fun w => by simp [Try.sizeOf2, Try.sizeOf34]; rfl) F rfl rfl rfl rfl rfl (oc rfl (oc (h13.rd).r.one on)) rfl rfl (fun a F => ?_)
      have h16 := ROp.mk2 (w := w) (show I64 (1) by decide) h13.rd
      refine o_bstoreA (vs := [.int .i64 1, v11]) Try.sizeOf36 F rfl rfl rfl K2 (oc rfl (oc (h13.rd).r.one on)) (Nat.le_of_ble_eq_true rfl) rfl (fun w K2 l => ?_)
      replace hB := hB.o l (fun c hc => by rw [List.mem_singleton] at hc; rw [hc]; exact CK2) hB.size
      replace h13 := h13.goO l (Dj.app' (Dj.symm d15) (Dj.nil' _))
      refine x_end ?_
      refine x_tn ?_
      refine x_ret ?_
      refine x_br ?_
      refine x_tr ?_
      refine x_res1 F rfl (rv_cA (arr := #[.int .i64 1, v11]) F Try.isAgg36 Try.sizeOf36 rfl K2) ?_
      obtain rfl := Option.some.inj hR
      exact ⟨_, rfl, hB, v11, rb12, rfl, (show I64 (1) by decide), h13⟩
    · replace hR := ifF hb10 hR
      refine x_seq ?_
      refine x_reg ?_
      refine o_eql F rfl rfl rfl (fun a F => ?_)
      refine o_assign F rfl rfl (fun a F => ?_)
      refine x_end ?_
      refine x_tn ?_
      refine x_if F rfl (fun hb17 => ?_) (fun hb17 => ?_)
      · replace hR := ifT hb17 hR
        refine x_seq ?_
        refine x_reg ?_
        refine o_litI (xs := [.const (.int .i64 0), .const (.int .i64 0), .const (.int .i64 0), .const (.int .i64 1)]) (l := [0, 0, 0, 1]) Try.underlying34 Try.sizeOf2 Try.zeroValue2 rfl F rfl rfl rfl (by decide) (by decide) rfl (by simp only [List.forall_mem_cons, List.not_mem_nil, false_implies, implies_true, and_true]; exact ⟨(show I64 (0) by decide), (show I64 (0) by decide), (show I64 (0) by decide), (show I64 (1) by decide)⟩) (fun a w v18 rb19 h20 l F => ?_)
        have d22 := Dj.new (inm1 K2) h20.ownR (Nat.le_refl _)
        replace h20 := h20.base hB.size
        replace hB := Below.through l hB
        replace K2 := K2.thru l
        refine o_build Try.underlying36 Try.zeroValue36 (fun w => by simp [Try.sizeOf2, Try.sizeOf34]; rfl) F rfl rfl rfl rfl rfl (oc rfl (oc (h20.rd).r.one on)) rfl rfl (fun a F => ?_)
        have h23 := ROp.mk2 (w := w) (show I64 (2) by decide) h20.rd
        refine o_bstoreA (vs := [.int .i64 2, v18]) Try.sizeOf36 F rfl rfl rfl K2 (oc rfl (oc (h20.rd).r.one on)) (Nat.le_of_ble_eq_true rfl) rfl (fun w K2 l => ?_)
        replace hB := hB.o l (fun c hc => by rw [List.mem_singleton] at hc; rw [hc]; exact CK2) hB.size
        replace h20 := h20.goO l (Dj.app' (Dj.symm d22) (Dj.nil' _))
        refine x_end ?_
        refine x_tn ?_
        refine x_ret ?_
        refine x_br ?_
        refine x_tr ?_
        refine x_res1 F rfl (rv_cA (arr := #[.int .i64 2, v18]) F Try.isAgg36 Try.sizeOf36 rfl K2) ?_
        obtain rfl := Option.some.inj hR
        exact ⟨_, rfl, hB, v18, rb19, rfl, (show I64 (2) by decide), h20⟩
      · replace hR := ifF hb17 hR
        refine x_seq ?_
        refine x_reg ?_
        refine o_eql F rfl rfl rfl (fun a F => ?_)
        refine o_assign F rfl rfl (fun a F => ?_)
        refine x_end ?_
        refine x_tn ?_
        refine x_if F rfl (fun hb24 => ?_) (fun hb24 => ?_)
        · replace hR := ifT hb24 hR
          refine x_seq ?_
          refine x_reg ?_
          refine o_litI (xs := [.const (.int .i64 0), .const (.int .i64 1), .const (.int .i64 1), .const (.int .i64 1)]) (l := [0, 1, 1, 1]) Try.underlying34 Try.sizeOf2 Try.zeroValue2 rfl F rfl rfl rfl (by decide) (by decide) rfl (by simp only [List.forall_mem_cons, List.not_mem_nil, false_implies, implies_true, and_true]; exact ⟨(show I64 (0) by decide), (show I64 (1) by decide), (show I64 (1) by decide), (show I64 (1) by decide)⟩) (fun a w v25 rb26 h27 l F => ?_)
          have d29 := Dj.new (inm1 K2) h27.ownR (Nat.le_refl _)
          replace h27 := h27.base hB.size
          replace hB := Below.through l hB
          replace K2 := K2.thru l
          refine o_build Try.underlying36 Try.zeroValue36 (fun w => by simp [Try.sizeOf2, Try.sizeOf34]; rfl) F rfl rfl rfl rfl rfl (oc rfl (oc (h27.rd).r.one on)) rfl rfl (fun a F => ?_)
          have h30 := ROp.mk2 (w := w) (show I64 (2) by decide) h27.rd
          refine o_bstoreA (vs := [.int .i64 2, v25]) Try.sizeOf36 F rfl rfl rfl K2 (oc rfl (oc (h27.rd).r.one on)) (Nat.le_of_ble_eq_true rfl) rfl (fun w K2 l => ?_)
          replace hB := hB.o l (fun c hc => by rw [List.mem_singleton] at hc; rw [hc]; exact CK2) hB.size
          replace h27 := h27.goO l (Dj.app' (Dj.symm d29) (Dj.nil' _))
          refine x_end ?_
          refine x_tn ?_
          refine x_ret ?_
          refine x_br ?_
          refine x_tr ?_
          refine x_res1 F rfl (rv_cA (arr := #[.int .i64 2, v25]) F Try.isAgg36 Try.sizeOf36 rfl K2) ?_
          obtain rfl := Option.some.inj hR
          exact ⟨_, rfl, hB, v25, rb26, rfl, (show I64 (2) by decide), h27⟩
        · replace hR := ifF hb24 hR
          refine x_seq ?_
          refine x_reg ?_
          refine o_eql F rfl rfl rfl (fun a F => ?_)
          refine o_assign F rfl rfl (fun a F => ?_)
          refine x_end ?_
          refine x_tn ?_
          refine x_if F rfl (fun hb31 => ?_) (fun hb31 => ?_)
          · replace hR := ifT hb31 hR
            refine x_seq ?_
            refine x_reg ?_
            refine o_litI (xs := [.const (.int .i64 0), .const (.int .i64 0), .const (.int .i64 0), .const (.int .i64 1), .const (.int .i64 0), .const (.int .i64 1), .const (.int .i64 1), .const (.int .i64 1)]) (l := [0, 0, 0, 1, 0, 1, 1, 1]) Try.underlying34 Try.sizeOf2 Try.zeroValue2 rfl F rfl rfl rfl (by decide) (by decide) rfl (by simp only [List.forall_mem_cons, List.not_mem_nil, false_implies, implies_true, and_true]; exact ⟨(show I64 (0) by decide), (show I64 (0) by decide), (show I64 (0) by decide), (show I64 (1) by decide), (show I64 (0) by decide), (show I64 (1) by decide), (show I64 (1) by decide), (show I64 (1) by decide)⟩) (fun a w v32 rb33 h34 l F => ?_)
            have d36 := Dj.new (inm1 K2) h34.ownR (Nat.le_refl _)
            replace h34 := h34.base hB.size
            replace hB := Below.through l hB
            replace K2 := K2.thru l
            refine o_build Try.underlying36 Try.zeroValue36 (fun w => by simp [Try.sizeOf2, Try.sizeOf34]; rfl) F rfl rfl rfl rfl rfl (oc rfl (oc (h34.rd).r.one on)) rfl rfl (fun a F => ?_)
            have h37 := ROp.mk2 (w := w) (show I64 (3) by decide) h34.rd
            refine o_bstoreA (vs := [.int .i64 3, v32]) Try.sizeOf36 F rfl rfl rfl K2 (oc rfl (oc (h34.rd).r.one on)) (Nat.le_of_ble_eq_true rfl) rfl (fun w K2 l => ?_)
            replace hB := hB.o l (fun c hc => by rw [List.mem_singleton] at hc; rw [hc]; exact CK2) hB.size
            replace h34 := h34.goO l (Dj.app' (Dj.symm d36) (Dj.nil' _))
            refine x_end ?_
            refine x_tn ?_
            refine x_ret ?_
            refine x_br ?_
            refine x_tr ?_
            refine x_res1 F rfl (rv_cA (arr := #[.int .i64 3, v32]) F Try.isAgg36 Try.sizeOf36 rfl K2) ?_
            obtain rfl := Option.some.inj hR
            exact ⟨_, rfl, hB, v32, rb33, rfl, (show I64 (3) by decide), h34⟩
          · replace hR := ifF hb31 hR
            refine x_skip ?_
            refine x_bn ?_
            refine x_tn ?_
            refine x_seq ?_
            refine x_reg ?_
            refine o_litI (xs := [.const (.int .i64 0), .const (.int .i64 1), .const (.int .i64 1), .const (.int .i64 0), .const (.int .i64 1), .const (.int .i64 0), .const (.int .i64 0), .const (.int .i64 1)]) (l := [0, 1, 1, 0, 1, 0, 0, 1]) Try.underlying34 Try.sizeOf2 Try.zeroValue2 rfl F rfl rfl rfl (by decide) (by decide) rfl (by simp only [List.forall_mem_cons, List.not_mem_nil, false_implies, implies_true, and_true]; exact ⟨(show I64 (0) by decide), (show I64 (1) by decide), (show I64 (1) by decide), (show I64 (0) by decide), (show I64 (1) by decide), (show I64 (0) by decide), (show I64 (0) by decide), (show I64 (1) by decide)⟩) (fun a w v38 rb39 h40 l F => ?_)
            have d42 := Dj.new (inm1 K2) h40.ownR (Nat.le_refl _)
            replace h40 := h40.base hB.size
            replace hB := Below.through l hB
            replace K2 := K2.thru l
            refine o_build Try.underlying36 Try.zeroValue36 (fun w => by simp [Try.sizeOf2, Try.sizeOf34]; rfl) F rfl rfl rfl rfl rfl (oc rfl (oc (h40.rd).r.one on)) rfl rfl (fun a F => ?_)
            have h43 := ROp.mk2 (w := w) (show I64 (3) by decide) h40.rd
            refine o_bstoreA (vs := [.int .i64 3, v38]) Try.sizeOf36 F rfl rfl rfl K2 (oc rfl (oc (h40.rd).r.one on)) (Nat.le_of_ble_eq_true rfl) rfl (fun w K2 l => ?_)
            replace hB := hB.o l (fun c hc => by rw [List.mem_singleton] at hc; rw [hc]; exact CK2) hB.size
            replace h40 := h40.goO l (Dj.app' (Dj.symm d42) (Dj.nil' _))
            refine x_end ?_
            refine x_tn ?_
            refine x_ret ?_
            refine x_res1 F rfl (rv_cA (arr := #[.int .i64 3, v38]) F Try.isAgg36 Try.sizeOf36 rfl K2) ?_
            obtain rfl := Option.some.inj hR
            exact ⟨_, rfl, hB, v38, rb39, rfl, (show I64 (3) by decide), h40⟩

def spec_l09Class (x0 : Int) : Option Bool :=
  bnd (spec_l00In x0 1 6) fun z1 =>
  some z1
set_option maxHeartbeats 1000000 in
theorem spec_l09Class_c {x0 : Int} (r : Bool) (hR : spec_l09Class x0 = some r)  (w0 : World) (hx0 : I64 x0) : Calls Try.prog 68 #[.int .i64 x0] w0 (Says (.bool r) w0) := by
  unfold spec_l09Class at hR
  refine x_enter (L := [(0, .int .i64 x0)]) Try.func68 rfl rfl rfl (sc rfl sn) (fun a F => ?_)
  have hB := Below.refl w0.heap.size w0
  refine x_seq ?_
  refine x_reg ?_
  refine o_assign F rfl rfl (fun a F => ?_)
  refine x_end ?_
  refine x_tn ?_
  refine x_seq ?_
  refine x_reg ?_
  refine o_move F rfl rfl (fun a F => ?_)
  obtain ⟨z1, c2, hR⟩ := bnd_some hR
  refine o_says F rfl Try.call116 rfl (spec_l00In_c z1 c2 _ hx0 (show I64 (1) by decide) (show I64 (6) by decide)) (fun a w l F => ?_)
  replace hB := Below.through l hB
  refine o_assign F rfl rfl (fun a F => ?_)
  refine x_end ?_
  refine x_tn ?_
  refine x_ret ?_
  refine x_res1 F rfl (rv_t F rfl) ?_
  obtain rfl := Option.some.inj hR
  exact ⟨rfl, hB⟩

def impl_isClass (x0 : Int) : Option Bool :=
  bnd (impl_within x0 1 6) fun z1 =>
  some z1
set_option maxHeartbeats 1000000 in
theorem impl_isClass_c {x0 : Int} (r : Bool) (hR : impl_isClass x0 = some r)  (w0 : World) (hx0 : I64 x0) : Calls Try.prog 70 #[.int .i64 x0] w0 (Says (.bool r) w0) := by
  unfold impl_isClass at hR
  refine x_enter (L := [(0, .int .i64 x0)]) Try.func70 rfl rfl rfl (sc rfl sn) (fun a F => ?_)
  have hB := Below.refl w0.heap.size w0
  refine x_seq ?_
  refine x_reg ?_
  refine o_assign F rfl rfl (fun a F => ?_)
  refine x_end ?_
  refine x_tn ?_
  refine x_seq ?_
  refine x_reg ?_
  refine o_move F rfl rfl (fun a F => ?_)
  obtain ⟨z1, c2, hR⟩ := bnd_some hR
  refine o_says F rfl Try.call60 rfl (impl_within_c z1 c2 _ hx0 (show I64 (1) by decide) (show I64 (6) by decide)) (fun a w l F => ?_)
  replace hB := Below.through l hB
  refine o_assign F rfl rfl (fun a F => ?_)
  refine x_end ?_
  refine x_tn ?_
  refine x_ret ?_
  refine x_res1 F rfl (rv_t F rfl) ?_
  obtain rfl := Option.some.inj hR
  exact ⟨rfl, hB⟩

def impl_indexOf (x0 : Int) (x1 : List Int) : Option Int :=
  thn (σ := Int) (
    forL (σ := Int) (ρ := Int) (fun (k23 : Nat) (x25 : Int) (s19 : Int) =>
      bnd (ck (s19 * x0)) fun z34 =>
      bnd (ck (z34 + x25)) fun z36 =>
      some (.go z36)) x1 0 0) fun s21 =>
  some s21
set_option maxHeartbeats 1000000 in
theorem impl_indexOf_c {x0 : Int} {x1 : List Int} (r : Int) (hR : impl_indexOf x0 x1 = some r) {v1 : Value} {b1 : List Nat} (w0 : World) (hx0 : I64 x0) (A1 : Rd (Sl 1 RInt) w0 v1 x1 b1) : Calls Try.prog 181 #[.int .i64 x0, v1] w0 (SaysI r w0) := by
  unfold impl_indexOf at hR
  refine x_enter (L := [(0, .int .i64 x0), (1, v1)]) Try.func181 rfl rfl rfl (sc rfl (sc rfl sn)) (fun a F => ?_)
  have hB := Below.refl w0.heap.size w0
  refine x_seq ?_
  refine x_reg ?_
  refine o_assign F rfl rfl (fun a F => ?_)
  refine x_end ?_
  refine x_tn ?_
  refine x_seq ?_
  refine x_reg ?_
  refine o_assign F rfl rfl (fun a F => ?_)
  refine x_end ?_
  refine x_tn ?_
  refine x_seq ?_
  refine x_seq ?_
  refine x_reg ?_
  refine o_move F rfl rfl (fun a F => ?_)
  refine o_len Try.underlying34 F rfl rfl (A1.go hB) (fun a F => ?_)
  have i1 := ((A1.go hB)).r.len64
  refine o_move F rfl rfl (fun a F => ?_)
  refine x_end ?_
  refine x_tn ?_
  obtain ⟨o13, hR, hk14⟩ := thn_some hR
  refine x_cutQ (fun a w => ∃ (s21 : Int), o13 = .nx s21 ∧ Sk a 21 [(5, .int .i64 s21)] ∧ Below w0.heap.size w0 w ∧ I64 s21) ?_ ?_
  · refine x_blk ?_
    obtain ⟨fl17, hf18, hR⟩ := forL_gen hR
    refine x_loop (fun g a w => ∃ (k23 : Nat) (rest24 : List Int) (s19 : Int), (k23 ≤ x1.length ∧ x1.drop k23 = rest24) ∧ rest24.length = g ∧ forL fl17 rest24 k23 s19 = some o13 ∧ Sk a 21 [(10, .int .i64 (k23 : Int)), (0, .int .i64 x0), (5, .int .i64 s19), (8, v1), (9, .int .i64 (x1.length : Int))] ∧ Below w0.heap.size w0 w ∧ I64 s19) x1.length ?_ ?_
    · exact ⟨0, x1, 0, ⟨Nat.zero_le _, rfl⟩, rfl, hR, F.sub (sc rfl (sc rfl (sc rfl (sc rfl (sc rfl sn))))), hB, (show I64 (0) by decide)⟩
    · intro g26 a w ⟨k23, rest24, s19, hd27, hg28, hR, F, hB, i20⟩
      cases rest24 with
      | nil =>
        replace hR := forL_nil hR
        have hkk23 := drop_nil hd27.1 hd27.2
        have hlk23 := dec_no hkk23
        refine x_seq ?_
        refine x_reg ?_
        refine o_lss F rfl rfl rfl (fun a F => ?_)
        refine x_end ?_
        refine x_tn ?_
        refine x_seq ?_
        refine x_ifF F rfl hlk23 ?_
        refine x_exit ?_
        refine x_te ?_
        refine x_te ?_
        refine x_be ?_
        refine x_tn ?_
        exact ⟨s19, (Option.some.inj hR).symm, F.sub (sc rfl sn), hB, i20⟩
      | cons x25 rest24 =>
        subst hg28
        replace hd27 := drop_cons hd27.2
        have hxk23 := ix_nat hd27.2.1
        obtain ⟨ck23, hR, hn16⟩ := forL_cons hR
        rw [hf18] at hR
        have hlk23 := dec_yes hd27.1
        refine x_seq ?_
        refine x_reg ?_
        refine o_lss F rfl rfl rfl (fun a F => ?_)
        refine x_end ?_
        refine x_tn ?_
        refine x_seq ?_
        refine x_ifT F rfl hlk23 ?_
        refine x_skip ?_
        refine x_tn ?_
        refine x_seq ?_
        have ikk23 := k64 (Nat.le_of_lt hd27.1) i1
        have ink23 := inc64 hd27.1 i1
        refine x_blk ?_
        refine x_seq ?_
        refine x_reg ?_
        refine o_index Try.underlying34 Try.sizeOf2 F rfl rfl rfl (A1.go hB) hxk23 (fun a p29 b30 h31 s32 F => ?_)
        have i33 := (h31).i64
        refine o_loadI Try.isAgg2 F rfl rfl h31 (fun a F => ?_)
        refine o_assign F rfl rfl (fun a F => ?_)
        refine x_end ?_
        refine x_tn ?_
        refine x_reg ?_
        refine o_move F rfl rfl (fun a F => ?_)
        refine o_move F rfl rfl (fun a F => ?_)
        obtain ⟨z34, c35, hR⟩ := bnd_some hR
        refine o_mul F rfl rfl rfl c35 (fun a F => ?_)
        refine o_move F rfl rfl (fun a F => ?_)
        obtain ⟨z36, c37, hR⟩ := bnd_some hR
        refine o_add F rfl rfl rfl c37 (fun a F => ?_)
        refine o_assign F rfl rfl (fun a F => ?_)
        refine x_end ?_
        refine x_bn ?_
        refine x_tn ?_
        refine x_reg ?_
        refine o_inc F rfl rfl rfl ink23 (fun a F => ?_)
        refine o_move F rfl rfl (fun a F => ?_)
        refine x_end ?_
        refine x_tn ?_
        replace hR := l_go hR hn16
        exact ⟨_, Nat.lt_succ_self _, k23 + 1, rest24, z36, ⟨hd27.1, hd27.2.2⟩, rfl, hR, F.sub (sc rfl (sc rfl (sc rfl (sc rfl (sc rfl sn))))), hB, (ck64 c37)⟩
  · intro a w ⟨s21, ho15, F, hB, i22⟩
    subst ho15
    have hR := then_nx hk14
    refine x_tn ?_
    refine x_seq ?_
    refine x_reg ?_
    refine o_move F rfl rfl (fun a F => ?_)
    refine o_assign F rfl rfl (fun a F => ?_)
    refine x_end ?_
    refine x_tn ?_
    refine x_ret ?_
    refine x_res1 F rfl (rv_t F rfl) ?_
    obtain rfl := Option.some.inj hR
    exact ⟨⟨rfl, hB⟩, i22⟩

def spec_l01Code (x0 : Int) (x1 : List Int) : Option Int :=
  thn (σ := Int) (
    forL (σ := Int) (ρ := Int) (fun (k24 : Nat) (x26 : Int) (s20 : Int) =>
      bnd (ck (s20 * x0)) fun z31 =>
      bnd (ck (z31 + x26)) fun z38 =>
      some (.go z38)) x1 0 0) fun s22 =>
  some s22
set_option maxHeartbeats 1000000 in
theorem spec_l01Code_c {x0 : Int} {x1 : List Int} (r : Int) (hR : spec_l01Code x0 x1 = some r) {v1 : Value} {b1 : List Nat} (w0 : World) (hx0 : I64 x0) (A1 : Rd (Sl 1 RInt) w0 v1 x1 b1) : Calls Try.prog 180 #[.int .i64 x0, v1] w0 (SaysI r w0) := by
  unfold spec_l01Code at hR
  refine x_enter (L := [(0, .int .i64 x0), (1, v1)]) Try.func180 rfl rfl rfl (sc rfl (sc rfl sn)) (fun a F => ?_)
  have hB := Below.refl w0.heap.size w0
  refine x_seq ?_
  refine x_reg ?_
  refine o_assign F rfl rfl (fun a F => ?_)
  refine x_end ?_
  refine x_tn ?_
  refine x_seq ?_
  refine x_reg ?_
  refine o_assign F rfl rfl (fun a F => ?_)
  refine x_end ?_
  refine x_tn ?_
  refine x_seq ?_
  refine x_seq ?_
  refine x_reg ?_
  refine o_assign F rfl rfl (fun a F => ?_)
  refine x_end ?_
  refine x_tn ?_
  obtain ⟨o14, hR, hk15⟩ := thn_some hR
  refine x_cutQ (fun a w => ∃ (s22 : Int), o14 = .nx s22 ∧ Sk a 22 [(5, .int .i64 s22)] ∧ Below w0.heap.size w0 w ∧ I64 s22) ?_ ?_
  · refine x_blk ?_
    obtain ⟨fl18, hf19, hR⟩ := forL_gen hR
    refine x_loop (fun g a w => ∃ (k24 : Nat) (rest25 : List Int) (s20 : Int), (k24 ≤ x1.length ∧ x1.drop k24 = rest25) ∧ rest25.length = g ∧ forL fl18 rest25 k24 s20 = some o14 ∧ Sk a 22 [(6, .int .i64 (k24 : Int)), (0, .int .i64 x0), (1, v1), (5, .int .i64 s20)] ∧ Below w0.heap.size w0 w ∧ I64 s20) x1.length ?_ ?_
    · exact ⟨0, x1, 0, ⟨Nat.zero_le _, rfl⟩, rfl, hR, F.sub (sc rfl (sc rfl (sc rfl (sc rfl sn)))), hB, (show I64 (0) by decide)⟩
    · intro g27 a w ⟨k24, rest25, s20, hd28, hg29, hR, F, hB, i21⟩
      cases rest25 with
      | nil =>
        replace hR := forL_nil hR
        have hkk24 := drop_nil hd28.1 hd28.2
        have hlk24 := dec_no hkk24
        refine x_seq ?_
        refine x_seq ?_
        refine x_reg ?_
        refine o_move F rfl rfl (fun a F => ?_)
        refine o_move F rfl rfl (fun a F => ?_)
        refine o_len Try.underlying34 F rfl rfl (A1.go hB) (fun a F => ?_)
        have i40 := ((A1.go hB)).r.len64
        refine o_lss F rfl rfl rfl (fun a F => ?_)
        refine x_end ?_
        refine x_tn ?_
        refine x_ifF F rfl hlk24 ?_
        refine x_exit ?_
        refine x_te ?_
        refine x_te ?_
        refine x_be ?_
        refine x_tn ?_
        exact ⟨s20, (Option.some.inj hR).symm, F.sub (sc rfl sn), hB, i21⟩
      | cons x26 rest25 =>
        subst hg29
        replace hd28 := drop_cons hd28.2
        have hxk24 := ix_nat hd28.2.1
        obtain ⟨ck24, hR, hn17⟩ := forL_cons hR
        rw [hf19] at hR
        have hlk24 := dec_yes hd28.1
        refine x_seq ?_
        refine x_seq ?_
        refine x_reg ?_
        refine o_move F rfl rfl (fun a F => ?_)
        refine o_move F rfl rfl (fun a F => ?_)
        refine o_len Try.underlying34 F rfl rfl (A1.go hB) (fun a F => ?_)
        have i30 := ((A1.go hB)).r.len64
        refine o_lss F rfl rfl rfl (fun a F => ?_)
        refine x_end ?_
        refine x_tn ?_
        refine x_ifT F rfl hlk24 ?_
        refine x_skip ?_
        refine x_tn ?_
        refine x_seq ?_
        have ikk24 := k64 (Nat.le_of_lt hd28.1) i30
        have ink24 := inc64 hd28.1 i30
        refine x_blk ?_
        refine x_reg ?_
        refine o_move F rfl rfl (fun a F => ?_)
        refine o_move F rfl rfl (fun a F => ?_)
        obtain ⟨z31, c32, hR⟩ := bnd_some hR
        refine o_mul F rfl rfl rfl c32 (fun a F => ?_)
        refine o_move F rfl rfl (fun a F => ?_)
        refine o_move F rfl rfl (fun a F => ?_)
        refine o_index Try.underlying34 Try.sizeOf2 F rfl rfl rfl (A1.go hB) hxk24 (fun a p33 b34 h35 s36 F => ?_)
        have i37 := (h35).i64
        refine o_loadI Try.isAgg2 F rfl rfl h35 (fun a F => ?_)
        obtain ⟨z38, c39, hR⟩ := bnd_some hR
        refine o_add F rfl rfl rfl c39 (fun a F => ?_)
        refine o_assign F rfl rfl (fun a F => ?_)
        refine x_end ?_
        refine x_bn ?_
        refine x_tn ?_
        refine x_reg ?_
        refine o_move F rfl rfl (fun a F => ?_)
        refine o_inc F rfl rfl rfl ink24 (fun a F => ?_)
        refine o_assign F rfl rfl (fun a F => ?_)
        refine x_end ?_
        refine x_tn ?_
        replace hR := l_go hR hn17
        exact ⟨_, Nat.lt_succ_self _, k24 + 1, rest25, z38, ⟨hd28.1, hd28.2.2⟩, rfl, hR, F.sub (sc rfl (sc rfl (sc rfl (sc rfl sn)))), hB, (ck64 c39)⟩
  · intro a w ⟨s22, ho16, F, hB, i23⟩
    subst ho16
    have hR := then_nx hk15
    refine x_tn ?_
    refine x_seq ?_
    refine x_reg ?_
    refine o_move F rfl rfl (fun a F => ?_)
    refine o_assign F rfl rfl (fun a F => ?_)
    refine x_end ?_
    refine x_tn ?_
    refine x_ret ?_
    refine x_res1 F rfl (rv_t F rfl) ?_
    obtain rfl := Option.some.inj hR
    exact ⟨⟨rfl, hB⟩, i23⟩

def spec_l01Template (x0 : Template) : Option Bool :=
  thn (σ := Unit) (
    forL (σ := Unit) (ρ := Bool) (fun (k45 : Nat) (x47 : Rel) (s : Unit) =>
      match s with
      | _ =>
        bnd (spec_l01Ok x0.size x47) fun z77 =>
        if (!z77) then
          some (.ret false)
        else
          some (.go ())) x0.rels 0 ()) fun _ =>
  thn (σ := Bool) (
    bnd (spec_l01Size x0.size) fun z115 =>
    if z115 then   some (.nx (decide ((x0.rels.length : Int) ≤ 6))) else   some (.nx false)) fun s109 =>
  some s109
set_option maxHeartbeats 1000000 in
theorem spec_l01Template_c {x0 : Template} (r : Bool) (hR : spec_l01Template x0 = some r) {v0 : Value} {b0 : List Nat} (w0 : World) (A0 : Rd (Pt 2 RTemplate) w0 v0 x0 b0) : Calls Try.prog 103 #[v0] w0 (Says (.bool r) w0) := by
  unfold spec_l01Template at hR
  refine x_enter (L := [(0, v0)]) Try.func103 rfl rfl rfl (sc rfl sn) (fun a F => ?_)
  have hB := Below.refl w0.heap.size w0
  refine x_seq ?_
  refine x_reg ?_
  refine o_assign F rfl rfl (fun a F => ?_)
  refine x_end ?_
  refine x_tn ?_
  refine x_seq ?_
  refine x_seq ?_
  refine x_reg ?_
  refine o_assign F rfl rfl (fun a F => ?_)
  refine x_end ?_
  refine x_tn ?_
  obtain ⟨o39, hR, hk40⟩ := thn_some hR
  refine x_cutQ (fun a w => o39 = .nx () ∧ Sk a 38 [(0, v0)] ∧ Below w0.heap.size w0 w) ?_ ?_
  · refine x_blk ?_
    obtain ⟨fl43, hf44, hR⟩ := forL_gen hR
    refine x_loop (fun g a w => ∃ (k45 : Nat) (rest46 : List Rel), (k45 ≤ x0.rels.length ∧ x0.rels.drop k45 = rest46) ∧ rest46.length = g ∧ forL fl43 rest46 k45 () = some o39 ∧ Sk a 38 [(3, .int .i64 (k45 : Int)), (0, v0)] ∧ Below w0.heap.size w0 w) x0.rels.length ?_ ?_
    · exact ⟨0, x0.rels, ⟨Nat.zero_le _, rfl⟩, rfl, hR, F.sub (sc rfl (sc rfl sn)), hB⟩
    · intro g48 a w ⟨k45, rest46, hd49, hg50, hR, F, hB⟩
      cases rest46 with
      | nil =>
        replace hR := forL_nil hR
        have hkk45 := drop_nil hd49.1 hd49.2
        have hlk45 := dec_no hkk45
        refine x_seq ?_
        refine x_seq ?_
        refine x_reg ?_
        refine o_move F rfl rfl (fun a F => ?_)
        refine o_move F rfl rfl (fun a F => ?_)
        refine o_nilCheckP F rfl rfl (A0.go hB) (fun a F => ?_)
        refine o_field (s' := 1) fa87_1 F rfl rfl (A0.go hB) RTemplate.f1 (fun a p80 b81 h82 s83 F => ?_)
        refine o_loadS Try.isAgg85 F rfl rfl h82 (fun a v84 b85 h86 s87 F => ?_)
        refine o_len Try.underlying85 F rfl rfl h86 (fun a F => ?_)
        have i88 := (h86).r.len64
        refine o_lss F rfl rfl rfl (fun a F => ?_)
        refine x_end ?_
        refine x_tn ?_
        refine x_ifF F rfl hlk45 ?_
        refine x_exit ?_
        refine x_te ?_
        refine x_te ?_
        refine x_be ?_
        refine x_tn ?_
        exact ⟨(Option.some.inj hR).symm, F.sub (sc rfl sn), hB⟩
      | cons x47 rest46 =>
        subst hg50
        replace hd49 := drop_cons hd49.2
        have hxk45 := ix_nat hd49.2.1
        obtain ⟨ck45, hR, hn42⟩ := forL_cons hR
        rw [hf44] at hR
        have hlk45 := dec_yes hd49.1
        refine x_seq ?_
        refine x_seq ?_
        refine x_reg ?_
        refine o_move F rfl rfl (fun a F => ?_)
        refine o_move F rfl rfl (fun a F => ?_)
        refine o_nilCheckP F rfl rfl (A0.go hB) (fun a F => ?_)
        refine o_field (s' := 1) fa87_1 F rfl rfl (A0.go hB) RTemplate.f1 (fun a p51 b52 h53 s54 F => ?_)
        refine o_loadS Try.isAgg85 F rfl rfl h53 (fun a v55 b56 h57 s58 F => ?_)
        refine o_len Try.underlying85 F rfl rfl h57 (fun a F => ?_)
        have i59 := (h57).r.len64
        refine o_lss F rfl rfl rfl (fun a F => ?_)
        refine x_end ?_
        refine x_tn ?_
        refine x_ifT F rfl hlk45 ?_
        refine x_skip ?_
        refine x_tn ?_
        refine x_seq ?_
        have ikk45 := k64 (Nat.le_of_lt hd49.1) i59
        have ink45 := inc64 hd49.1 i59
        refine x_blk ?_
        refine x_seq ?_
        refine x_draw (by kernel_rfl) (by kernel_rfl) ?_
        refine q_val F rfl (fun w l => r_move F rfl) (fun a F => ?_)
        refine q_val F rfl (fun w l => r_nilCheckP F rfl (A0.go hB)) (fun a F => ?_)
        refine q_field (s' := 1) fa87_0 F rfl rfl (A0.go hB) RTemplate.f0 (fun a p60 b61 h62 s63 F => ?_)
        have i64 := (h62).i64
        refine q_val F rfl (fun w l => r_loadI Try.isAgg2 F rfl ((h62).go l)) (fun a F => ?_)
        refine q_val F rfl (fun w l => r_move F rfl) (fun a F => ?_)
        refine q_val F rfl (fun w l => r_nilCheckP F rfl (A0.go hB)) (fun a F => ?_)
        refine q_field (s' := 1) fa87_1 F rfl rfl (A0.go hB) RTemplate.f1 (fun a p65 b66 h67 s68 F => ?_)
        refine q_loadS (fun _ l => l) Try.isAgg85 F rfl rfl h67 (fun a v69 b70 h71 s72 F => ?_)
        refine q_val F rfl (fun w l => r_move F rfl) (fun a F => ?_)
        refine q_index Try.underlying85 Try.sizeOf58 F rfl rfl rfl h71 hxk45 (fun a p73 b74 h75 s76 F => ?_)
        obtain ⟨z77, c78, hR⟩ := bnd_some hR
        refine q_says F rfl Try.call79 rfl (fun w w' h l => l.through h) (fun w l => spec_l01Ok_c z77 c78 w i64 (h75.go l)) (fun a F => ?_)
        refine q_val F rfl (fun w l => r_not F rfl) (fun a F => ?_)
        refine q_end (fun w l => ?_)
        replace hB := Below.through l hB
        refine x_tn ?_
        refine x_if F rfl (fun hb79 => ?_) (fun hb79 => ?_)
        · replace hR := ifT hb79 hR
          refine x_seq ?_
          refine x_reg ?_
          refine o_assign F rfl rfl (fun a F => ?_)
          refine x_end ?_
          refine x_tn ?_
          refine x_ret ?_
          refine x_br ?_
          refine x_tr ?_
          refine x_tr ?_
          replace hR := l_ret hR hn42
          refine x_br ?_
          refine x_tr ?_
          replace hR := j_ret hR hk40
          refine x_tr ?_
          refine x_res1 F rfl (rv_t F rfl) ?_
          obtain rfl := Option.some.inj hR
          exact ⟨rfl, hB⟩
        · replace hR := ifF hb79 hR
          refine x_skip ?_
          refine x_bn ?_
          refine x_tn ?_
          refine x_reg ?_
          refine o_move F rfl rfl (fun a F => ?_)
          refine o_inc F rfl rfl rfl ink45 (fun a F => ?_)
          refine o_assign F rfl rfl (fun a F => ?_)
          refine x_end ?_
          refine x_tn ?_
          replace hR := l_go hR hn42
          exact ⟨_, Nat.lt_succ_self _, k45 + 1, rest46, ⟨hd49.1, hd49.2.2⟩, rfl, hR, F.sub (sc rfl (sc rfl sn)), hB⟩
  · intro a w ⟨ho41, F, hB⟩
    subst ho41
    have hR := then_nx hk40
    refine x_tn ?_
    refine x_seq ?_
    obtain ⟨o106, hR, hk107⟩ := thn_some hR
    refine x_cutQ (fun a w => ∃ (s109 : Bool), o106 = .nx s109 ∧ Sk a 38 [(2, .bool s109)] ∧ Below w0.heap.size w0 w) ?_ ?_
    · refine x_reg ?_
      refine o_move F rfl rfl (fun a F => ?_)
      refine o_nilCheckP F rfl rfl (A0.go hB) (fun a F => ?_)
      refine o_field (s' := 1) fa87_0 F rfl rfl (A0.go hB) RTemplate.f0 (fun a p110 b111 h112 s113 F => ?_)
      have i114 := (h112).i64
      refine o_loadI Try.isAgg2 F rfl rfl h112 (fun a F => ?_)
      obtain ⟨z115, c116, hR⟩ := bnd_some hR
      refine o_says F rfl Try.call130 rfl (spec_l01Size_c z115 c116 _ i114) (fun a w l F => ?_)
      replace hB := Below.through l hB
      refine o_move F rfl rfl (fun a F => ?_)
      rcases bcases z115 with hb117 | hb117
      · replace hR := ifT hb117 hR
        have F := F.eq (t := 30) rfl (congrArg Value.bool hb117)
        refine o_move F rfl rfl (fun a F => ?_)
        refine o_nilCheckP F rfl rfl (A0.go hB) (fun a F => ?_)
        refine o_field (s' := 1) fa87_1 F rfl rfl (A0.go hB) RTemplate.f1 (fun a p118 b119 h120 s121 F => ?_)
        refine o_loadS Try.isAgg85 F rfl rfl h120 (fun a v122 b123 h124 s125 F => ?_)
        refine o_len Try.underlying85 F rfl rfl h124 (fun a F => ?_)
        have i126 := (h124).r.len64
        refine o_leq F rfl rfl rfl (fun a F => ?_)
        refine o_pickt F rfl rfl rfl (fun a F => ?_)
        refine o_assign F rfl rfl (fun a F => ?_)
        refine x_end ?_
        refine x_tn ?_
        exact ⟨(decide ((x0.rels.length : Int) ≤ 6)), (Option.some.inj hR).symm, F.sub (sc rfl sn), hB⟩
      · replace hR := ifF hb117 hR
        have F := F.eq (t := 30) rfl (congrArg Value.bool hb117)
        refine o_no F rfl rfl (fun a F => ?_)
        refine o_no F rfl rfl (fun a F => ?_)
        refine o_no F rfl rfl (fun a F => ?_)
        refine o_no F rfl rfl (fun a F => ?_)
        refine o_no F rfl rfl (fun a F => ?_)
        refine o_no F rfl rfl (fun a F => ?_)
        refine o_pickf F rfl rfl rfl (fun a F => ?_)
        refine o_assign F rfl rfl (fun a F => ?_)
        refine x_end ?_
        refine x_tn ?_
        exact ⟨false, (Option.some.inj hR).symm, F.sub (sc rfl sn), hB⟩
    · intro a w ⟨s109, ho108, F, hB⟩
      subst ho108
      have hR := then_nx hk107
      refine x_tn ?_
      refine x_ret ?_
      refine x_res1 F rfl (rv_t F rfl) ?_
      obtain rfl := Option.some.inj hR
      exact ⟨rfl, hB⟩

def spec_l09Two (x0 : Template) (x1 : Int) : Option Int :=
  bnd (spec_l01Template x0) fun z1 =>
  if (!z1) then
    some 1
  else
    if (x0.size != 2) then
      some 4
    else
      bnd (spec_l09Class x1) fun z10 =>
      if (!z10) then
        some 2
      else
        some 0
set_option maxHeartbeats 1000000 in
theorem spec_l09Two_c {x0 : Template} {x1 : Int} (r : Int) (hR : spec_l09Two x0 x1 = some r) {v0 : Value} {b0 : List Nat} (w0 : World) (A0 : Rd (Pt 2 RTemplate) w0 v0 x0 b0) (hx1 : I64 x1) : Calls Try.prog 112 #[v0, .int .i64 x1] w0 (SaysI r w0) := by
  unfold spec_l09Two at hR
  refine x_enter (L := [(0, v0), (1, .int .i64 x1)]) Try.func112 rfl rfl rfl (sc rfl (sc rfl sn)) (fun a F => ?_)
  have hB := Below.refl w0.heap.size w0
  refine x_seq ?_
  refine x_reg ?_
  refine o_assign F rfl rfl (fun a F => ?_)
  refine x_end ?_
  refine x_tn ?_
  refine x_seq ?_
  refine x_blk ?_
  refine x_seq ?_
  refine x_reg ?_
  refine o_move F rfl rfl (fun a F => ?_)
  obtain ⟨z1, c2, hR⟩ := bnd_some hR
  refine o_says F rfl Try.call103 rfl (spec_l01Template_c z1 c2 _ (A0.go hB)) (fun a w l F => ?_)
  replace hB := Below.through l hB
  refine o_not F rfl rfl (fun a F => ?_)
  refine o_assign F rfl rfl (fun a F => ?_)
  refine x_end ?_
  refine x_tn ?_
  refine x_if F rfl (fun hb3 => ?_) (fun hb3 => ?_)
  · replace hR := ifT hb3 hR
    refine x_seq ?_
    refine x_reg ?_
    refine o_assign F rfl rfl (fun a F => ?_)
    refine x_end ?_
    refine x_tn ?_
    refine x_ret ?_
    refine x_br ?_
    refine x_tr ?_
    refine x_res1 F rfl (rv_t F rfl) ?_
    obtain rfl := Option.some.inj hR
    exact ⟨⟨rfl, hB⟩, (show I64 (1) by decide)⟩
  · replace hR := ifF hb3 hR
    refine x_seq ?_
    refine x_reg ?_
    refine o_move F rfl rfl (fun a F => ?_)
    refine o_nilCheckP F rfl rfl (A0.go hB) (fun a F => ?_)
    refine o_field (s' := 1) fa87_0 F rfl rfl (A0.go hB) RTemplate.f0 (fun a p4 b5 h6 s7 F => ?_)
    have i8 := (h6).i64
    refine o_loadI Try.isAgg2 F rfl rfl h6 (fun a F => ?_)
    refine o_neq F rfl rfl rfl (fun a F => ?_)
    refine o_assign F rfl rfl (fun a F => ?_)
    refine x_end ?_
    refine x_tn ?_
    refine x_if F rfl (fun hb9 => ?_) (fun hb9 => ?_)
    · replace hR := ifT hb9 hR
      refine x_seq ?_
      refine x_reg ?_
      refine o_assign F rfl rfl (fun a F => ?_)
      refine x_end ?_
      refine x_tn ?_
      refine x_ret ?_
      refine x_br ?_
      refine x_tr ?_
      refine x_res1 F rfl (rv_t F rfl) ?_
      obtain rfl := Option.some.inj hR
      exact ⟨⟨rfl, hB⟩, (show I64 (4) by decide)⟩
    · replace hR := ifF hb9 hR
      refine x_seq ?_
      refine x_reg ?_
      refine o_move F rfl rfl (fun a F => ?_)
      obtain ⟨z10, c11, hR⟩ := bnd_some hR
      refine o_says F rfl Try.call68 rfl (spec_l09Class_c z10 c11 _ hx1) (fun a w l F => ?_)
      replace hB := Below.through l hB
      refine o_not F rfl rfl (fun a F => ?_)
      refine o_assign F rfl rfl (fun a F => ?_)
      refine x_end ?_
      refine x_tn ?_
      refine x_if F rfl (fun hb12 => ?_) (fun hb12 => ?_)
      · replace hR := ifT hb12 hR
        refine x_seq ?_
        refine x_reg ?_
        refine o_assign F rfl rfl (fun a F => ?_)
        refine x_end ?_
        refine x_tn ?_
        refine x_ret ?_
        refine x_br ?_
        refine x_tr ?_
        refine x_res1 F rfl (rv_t F rfl) ?_
        obtain rfl := Option.some.inj hR
        exact ⟨⟨rfl, hB⟩, (show I64 (2) by decide)⟩
      · replace hR := ifF hb12 hR
        refine x_skip ?_
        refine x_bn ?_
        refine x_tn ?_
        refine x_seq ?_
        refine x_reg ?_
        refine o_assign F rfl rfl (fun a F => ?_)
        refine x_end ?_
        refine x_tn ?_
        refine x_ret ?_
        refine x_res1 F rfl (rv_t F rfl) ?_
        obtain rfl := Option.some.inj hR
        exact ⟨⟨rfl, hB⟩, (show I64 (0) by decide)⟩

def spec_EquationsOver (N : Nat) (x0 : Rel) : Option ((List (List Int)) × Int) :=
  bnd (spec_l01Ok 2 (Rel.mk x0.arity x0.tuples)) fun z9 =>
  if (!z9) then
    some ([], 1)
  else
    bnd (spec_l09Equations N (Rel.mk x0.arity x0.tuples)) fun z16 =>
    some (z16, 0)
set_option maxHeartbeats 1000000 in
theorem spec_EquationsOver_c {N : Nat} {x0 : Rel} (r : (List (List Int)) × Int) (hR : spec_EquationsOver N x0 = some r) {v0 : Value} {b0 : List Nat} (w0 : World) (A0 : Rd (Agg 2 RRel) w0 v0 x0 b0) : Calls Try.prog 29 #[v0] w0 (Gives (fun v w' => ∃ (v1' : Value) (rb2' : List Nat) (ib3' : List Nat), v = .tuple #[v1', .int .i64 r.2] ∧ Row 1 (RSl 1 RInt) 34 w0.heap.size w' v1' r.1 rb2' ib3' ∧ Own w0.heap.size ib3' w' ∧ I64 r.2) w0) := by
  unfold spec_EquationsOver at hR
  refine x_enter (L := [(0, v0)]) Try.func29 rfl rfl rfl (sc rfl sn) (fun a F => ?_)
  have hB := Below.refl w0.heap.size w0
  refine x_seq ?_
  refine x_reg ?_
  obtain ⟨v4, b5, e7, i3, h6, _⟩ := RRel.rd (A0.go hB)
  subst e7
  refine o_box F rfl rfl rfl (fun a w b1 K2 l BK2 F => ?_)
  have d8 := (dj1 h6.m BK2).symm
  have CK2 := Nat.le_trans hB.size BK2
  replace hB := Below.through l hB
  replace h6 := h6.go l
  refine o_assign F rfl rfl (fun a F => ?_)
  refine o_assign F rfl rfl (fun a F => ?_)
  refine x_end ?_
  refine x_tn ?_
  refine x_seq ?_
  refine x_seq ?_
  refine x_reg ?_
  obtain ⟨z9, c10, hR⟩ := bnd_some hR
  refine o_says F rfl Try.call79 rfl (spec_l01Ok_c z9 c10 _ (show I64 (2) by decide) (RRel.blk K2 i3 h6)) (fun a w l F => ?_)
  replace hB := Below.through l hB
  replace h6 := h6.go l
  replace K2 := K2.thru l
  refine o_not F rfl rfl (fun a F => ?_)
  refine x_end ?_
  refine x_tn ?_
  refine x_if F rfl (fun hb11 => ?_) (fun hb11 => ?_)
  · replace hR := ifT hb11 hR
    refine x_seq ?_
    refine x_reg ?_
    refine o_lit0 (R := (RSl 1 RInt)) Try.underlying52 Try.sizeOf34 F rfl (fun a w v12 rb13 h14 l F => ?_)
    replace h14 := h14.base hB.size
    replace hB := Below.through l hB
    refine o_assign F rfl rfl (fun a F => ?_)
    refine o_assign F rfl rfl (fun a F => ?_)
    refine x_end ?_
    refine x_tn ?_
    refine x_ret ?_
    refine x_tr ?_
    refine x_res2 F rfl (rv_t F rfl) (rv_t F rfl) ?_
    obtain rfl := Option.some.inj hR
    exact ⟨_, rfl, hB, v12, rb13, [], rfl, h14, (Own.nil _ _), (show I64 (1) by decide)⟩
  · replace hR := ifF hb11 hR
    refine x_skip ?_
    refine x_tn ?_
    refine x_seq ?_
    refine x_reg ?_
    obtain ⟨z16, c17, hR⟩ := bnd_some hR
    refine o_gives F rfl Try.call80 rfl (spec_l09Equations_c z16 c17 _ (RRel.blk K2 i3 h6)) (fun a vv w l ⟨v18, rb19, ib20, hv23, h21, ow22⟩ F => ?_)
    subst vv
    have o24 := h21.own ow22
    have d25 := (Dj.new (inm1 K2) o24 (Nat.le_refl _)).symm
    replace h21 := h21.base hB.size
    replace ow22 := ow22.mono hB.size
    replace hB := Below.through l hB
    refine o_assign F rfl rfl (fun a F => ?_)
    refine o_assign F rfl rfl (fun a F => ?_)
    refine x_end ?_
    refine x_tn ?_
    refine x_ret ?_
    refine x_res2 F rfl (rv_t F rfl) (rv_t F rfl) ?_
    obtain rfl := Option.some.inj hR
    exact ⟨_, rfl, hB, v18, rb19, ib20, rfl, h21, ow22, (show I64 (0) by decide)⟩

def spec_AtomFormula (x0 : Template) (x1 : Int) : Option (Formula × Int) :=
  bnd (spec_l01Template (Template.mk x0.size x0.rels)) fun z13 =>
  if (!z13) then
    some ((Formula.mk 0 0 ([])), 1)
  else
    bnd (ck ((x0.rels.length : Int) - 1)) fun z18 =>
    bnd (spec_l00In x1 0 z18) fun z20 =>
    if (!z20) then
      some ((Formula.mk 0 0 ([])), 2)
    else
      bnd (ix x0.rels x1) fun z24 =>
      bnd (spec_l03Count z24.arity) fun z35 =>
      some ((Formula.mk z24.arity z24.arity ([(Atom.mk x1 z35)])), 0)
set_option maxHeartbeats 1000000 in
theorem spec_AtomFormula_c {x0 : Template} {x1 : Int} (r : Formula × Int) (hR : spec_AtomFormula x0 x1 = some r) {v0 : Value} {b0 : List Nat} (w0 : World) (A0 : Rd (Agg 2 RTemplate) w0 v0 x0 b0) (hx1 : I64 x1) : Calls Try.prog 104 #[v0, .int .i64 x1] w0 (Gives (fun v w' => ∃ (v1' : Value) (rb2' : List Nat) (ib3' : List Nat), v = .tuple #[.agg #[.int .i64 r.1.free, .int .i64 r.1.vars, v1'], .int .i64 r.2] ∧ I64 r.1.free ∧ I64 r.1.vars ∧ Row 2 RAtom 174 w0.heap.size w' v1' r.1.atoms rb2' ib3' ∧ Own w0.heap.size ib3' w' ∧ I64 r.2) w0) := by
  unfold spec_AtomFormula at hR
  refine x_enter (L := [(0, v0), (1, .int .i64 x1)]) Try.func104 rfl rfl rfl (sc rfl (sc rfl sn)) (fun a F => ?_)
  have hB := Below.refl w0.heap.size w0
  refine x_seq ?_
  refine x_reg ?_
  obtain ⟨v4, b5, e7, i3, h6, _⟩ := RTemplate.rd (A0.go hB)
  subst e7
  refine o_box F rfl rfl rfl (fun a w b1 K2 l BK2 F => ?_)
  have d8 := (dj1 h6.m BK2).symm
  have CK2 := Nat.le_trans hB.size BK2
  replace hB := Below.through l hB
  replace h6 := h6.go l
  refine o_alloc Try.zeroValue114 F rfl rfl (fun a w b9 K10 l BK10 F => ?_)
  have nb11 := Dj.bb K2 BK10
  have d12 := (dj1 h6.m BK10).symm
  have CK10 := Nat.le_trans hB.size BK10
  replace hB := Below.through l hB
  replace h6 := h6.go l
  replace K2 := K2.thru l
  refine o_assign F rfl rfl (fun a F => ?_)
  refine x_end ?_
  refine x_tn ?_
  refine x_seq ?_
  refine x_seq ?_
  refine x_reg ?_
  obtain ⟨z13, c14, hR⟩ := bnd_some hR
  refine o_says F rfl Try.call103 rfl (spec_l01Template_c z13 c14 _ (RTemplate.blk K2 i3 h6)) (fun a w l F => ?_)
  replace hB := Below.through l hB
  replace h6 := h6.go l
  replace K2 := K2.thru l
  replace K10 := K10.thru l
  refine o_not F rfl rfl (fun a F => ?_)
  refine x_end ?_
  refine x_tn ?_
  refine x_if F rfl (fun hb15 => ?_) (fun hb15 => ?_)
  · replace hR := ifT hb15 hR
    refine x_seq ?_
    refine x_reg ?_
    refine o_build Try.underlying114 Try.zeroValue114 (fun w => by simp [Try.sizeOf112, Try.sizeOf2]; rfl) F rfl rfl rfl rfl rfl on rfl rfl (fun a F => ?_)
    have h16 := RFormula.mk2 (w := w) (show I64 0 by decide) (show I64 0 by decide) (Rd.nil 2 RAtom _)
    refine o_bstoreA (vs := [.int .i64 0, .int .i64 0, (.slice none 0 0)]) Try.sizeOf114 F rfl rfl rfl K10 (oc rfl (oc rfl (oc rfl on))) (Nat.le_of_ble_eq_true rfl) rfl (fun w K10 l => ?_)
    replace hB := hB.o l (fun c hc => by rw [List.mem_singleton] at hc; rw [hc]; exact CK10) hB.size
    refine o_assign F rfl rfl (fun a F => ?_)
    refine x_end ?_
    refine x_tn ?_
    refine x_ret ?_
    refine x_tr ?_
    refine x_res2 F rfl (rv_cA (arr := #[.int .i64 0, .int .i64 0, (.slice none 0 0)]) F Try.isAgg114 Try.sizeOf114 rfl K10) (rv_t F rfl) ?_
    obtain rfl := Option.some.inj hR
    exact ⟨_, rfl, hB, (.slice none 0 0), [], [], rfl, (show I64 0 by decide), (show I64 0 by decide), Row.nil 2 RAtom 174 _ _, Own.nil _ _, (show I64 (1) by decide)⟩
  · replace hR := ifF hb15 hR
    refine x_skip ?_
    refine x_tn ?_
    refine x_seq ?_
    refine x_seq ?_
    refine x_reg ?_
    refine o_move F rfl rfl (fun a F => ?_)
    refine o_bfield fa87_1 F rfl rfl rfl (fun a F => ?_)
    refine o_bload Try.isAgg85 F rfl rfl K2 rfl (fun a F => ?_)
    refine o_len Try.underlying85 F rfl rfl h6 (fun a F => ?_)
    have i17 := (h6).r.len64
    obtain ⟨z18, c19, hR⟩ := bnd_some hR
    refine o_sub F rfl rfl rfl c19 (fun a F => ?_)
    obtain ⟨z20, c21, hR⟩ := bnd_some hR
    refine o_says F rfl Try.call116 rfl (spec_l00In_c z20 c21 _ hx1 (show I64 (0) by decide) (ck64 c19)) (fun a w l F => ?_)
    replace hB := Below.through l hB
    replace h6 := h6.go l
    replace K2 := K2.thru l
    replace K10 := K10.thru l
    refine o_not F rfl rfl (fun a F => ?_)
    refine x_end ?_
    refine x_tn ?_
    refine x_if F rfl (fun hb22 => ?_) (fun hb22 => ?_)
    · replace hR := ifT hb22 hR
      refine x_seq ?_
      refine x_reg ?_
      refine o_build Try.underlying114 Try.zeroValue114 (fun w => by simp [Try.sizeOf112, Try.sizeOf2]; rfl) F rfl rfl rfl rfl rfl on rfl rfl (fun a F => ?_)
      have h23 := RFormula.mk2 (w := w) (show I64 0 by decide) (show I64 0 by decide) (Rd.nil 2 RAtom _)
      refine o_bstoreA (vs := [.int .i64 0, .int .i64 0, (.slice none 0 0)]) Try.sizeOf114 F rfl rfl rfl K10 (oc rfl (oc rfl (oc rfl on))) (Nat.le_of_ble_eq_true rfl) rfl (fun w K10 l => ?_)
      replace hB := hB.o l (fun c hc => by rw [List.mem_singleton] at hc; rw [hc]; exact CK10) hB.size
      refine o_assign F rfl rfl (fun a F => ?_)
      refine x_end ?_
      refine x_tn ?_
      refine x_ret ?_
      refine x_tr ?_
      refine x_res2 F rfl (rv_cA (arr := #[.int .i64 0, .int .i64 0, (.slice none 0 0)]) F Try.isAgg114 Try.sizeOf114 rfl K10) (rv_t F rfl) ?_
      obtain rfl := Option.some.inj hR
      exact ⟨_, rfl, hB, (.slice none 0 0), [], [], rfl, (show I64 0 by decide), (show I64 0 by decide), Row.nil 2 RAtom 174 _ _, Own.nil _ _, (show I64 (2) by decide)⟩
    · replace hR := ifF hb22 hR
      refine x_skip ?_
      refine x_tn ?_
      refine x_seq ?_
      refine x_reg ?_
      refine o_bfield fa87_1 F rfl rfl rfl (fun a F => ?_)
      refine o_bload Try.isAgg85 F rfl rfl K2 rfl (fun a F => ?_)
      refine o_move F rfl rfl (fun a F => ?_)
      obtain ⟨z24, c25, hR⟩ := bnd_some hR
      refine o_index Try.underlying85 Try.sizeOf58 F rfl rfl rfl h6 c25 (fun a p26 b27 h28 s29 F => ?_)
      refine o_field (s' := 1) fa58_0 F rfl rfl h28 RRel.f0 (fun a p30 b31 h32 s33 F => ?_)
      have i34 := (h32).i64
      refine o_loadI Try.isAgg2 F rfl rfl h32 (fun a F => ?_)
      refine o_assign F rfl rfl (fun a F => ?_)
      refine x_end ?_
      refine x_tn ?_
      refine x_seq ?_
      refine x_reg ?_
      refine o_move F rfl rfl (fun a F => ?_)
      refine o_move F rfl rfl (fun a F => ?_)
      refine o_move F rfl rfl (fun a F => ?_)
      refine o_move F rfl rfl (fun a F => ?_)
      obtain ⟨z35, c36, hR⟩ := bnd_some hR
      refine o_gives F rfl Try.call152 rfl (spec_l03Count_c z35 c36 _ i34) (fun a vv w l ⟨v37, rb38, hv41, h40⟩ F => ?_)
      subst vv
      have d43 := Dj.new (inm1 K10) h40.ownR (Nat.le_refl _)
      replace h40 := h40.base hB.size
      replace hB := Below.through l hB
      replace K10 := K10.thru l
      refine o_build Try.underlying174 Try.zeroValue174 (fun w => by simp [Try.sizeOf2, Try.sizeOf34]; rfl) F rfl rfl rfl rfl rfl (oc rfl (oc (h40.rd).r.one on)) rfl rfl (fun a F => ?_)
      have h44 := RAtom.mk2 (w := w) hx1 h40.rd
      refine o_lit1 (R := RAtom) (y := (Atom.mk x1 z35)) Try.underlying112 Try.sizeOf174 Try.zeroValue174 rfl (by decide) (by decide) F rfl rfl (El.agg h44) (fun a w v45 rb46 h47 l F => ?_)
      have ow48 := Own.go (h40.own (Own.nil _ _)) l
      have d50 := Dj.new (inm1 K10) h47.ownR (Nat.le_refl _)
      have d51 := Dj.app' (Dj.symm d50) (Dj.app' (Dj.symm d43) (Dj.nil' _))
      replace h47 := h47.base hB.size
      replace hB := Below.through l hB
      replace K10 := K10.thru l
      refine o_build Try.underlying114 Try.zeroValue114 (fun w => by simp [Try.sizeOf112, Try.sizeOf2]; rfl) F rfl rfl rfl rfl rfl (oc rfl (oc rfl (oc (h47.rd).r.one on))) rfl rfl (fun a F => ?_)
      have h52 := RFormula.mk2 (w := w) i34 i34 h47.rd
      refine o_bstoreA (vs := [.int .i64 z24.arity, .int .i64 z24.arity, v45]) Try.sizeOf114 F rfl rfl rfl K10 (oc rfl (oc rfl (oc (h47.rd).r.one on))) (Nat.le_of_ble_eq_true rfl) rfl (fun w K10 l => ?_)
      replace hB := hB.o l (fun c hc => by rw [List.mem_singleton] at hc; rw [hc]; exact CK10) hB.size
      replace h47 := h47.goO l d51
      replace ow48 := ow48.goO l d51.r
      refine o_assign F rfl rfl (fun a F => ?_)
      refine x_end ?_
      refine x_tn ?_
      refine x_ret ?_
      refine x_res2 F rfl (rv_cA (arr := #[.int .i64 z24.arity, .int .i64 z24.arity, v45]) F Try.isAgg114 Try.sizeOf114 rfl K10) (rv_t F rfl) ?_
      obtain rfl := Option.some.inj hR
      exact ⟨_, rfl, hB, v45, rb46, ((rb38 ++ [])), rfl, i34, i34, h47, ow48, (show I64 (0) by decide)⟩

def slices_IndexFunc_s_int64_int64 (x0 : List Int) (x1 : Int → Option Bool) : Option Int :=
  thn (σ := Unit) (
    forL (σ := Unit) (ρ := Int) (fun (k16 : Nat) (x18 : Int) (s : Unit) =>
      match s with
      | _ =>
        bnd (x1 x18) fun z27 =>
        if z27 then
          some (.ret ((k16 : Int)))
        else
          some (.go ())) x0 0 ()) fun _ =>
  some ((-1))
set_option maxHeartbeats 1000000 in
theorem slices_IndexFunc_s_int64_int64_c {x0 : List Int} {x1 : Int → Option Bool} (r : Int) (hR : slices_IndexFunc_s_int64_int64 x0 x1 = some r) {v0 : Value} {b0 : List Nat} {g1 : FuncId} {lb1 : List Value} (w0 : World) (A0 : Rd (Sl 1 RInt) w0 v0 x0 b0) (hg1 : ∀ args w, (callFunc g1 args).run Try.prog w = .ok (.enter g1 args) w) (hp1 : ∀ (a0 : Int) (r : Bool), x1 a0 = some r → ∀ W, Below w0.heap.size w0 W → I64 a0 → Calls Try.prog g1 ([.int .i64 a0] ++ lb1 : List Value).toArray W (Says (.bool r) W)) : Calls Try.prog 120 #[v0, .func (.func g1) #[] lb1.toArray] w0 (SaysI r w0) := by
  unfold slices_IndexFunc_s_int64_int64 at hR
  refine x_enter (L := [(0, v0), (1, .func (.func g1) #[] lb1.toArray)]) Try.func120 rfl rfl rfl (sc rfl (sc rfl sn)) (fun a F => ?_)
  have hB := Below.refl w0.heap.size w0
  refine x_seq ?_
  refine x_reg ?_
  refine o_assign F rfl rfl (fun a F => ?_)
  refine x_end ?_
  refine x_tn ?_
  refine x_seq ?_
  refine x_seq ?_
  refine x_reg ?_
  refine o_move F rfl rfl (fun a F => ?_)
  refine o_len Try.underlying34 F rfl rfl (A0.go hB) (fun a F => ?_)
  have i1 := ((A0.go hB)).r.len64
  refine o_move F rfl rfl (fun a F => ?_)
  refine x_end ?_
  refine x_tn ?_
  obtain ⟨o10, hR, hk11⟩ := thn_some hR
  refine x_cutQ (fun a w => o10 = .nx () ∧ Sk a 19 [] ∧ Below w0.heap.size w0 w) ?_ ?_
  · refine x_blk ?_
    obtain ⟨fl14, hf15, hR⟩ := forL_gen hR
    refine x_loop (fun g a w => ∃ (k16 : Nat) (rest17 : List Int), (k16 ≤ x0.length ∧ x0.drop k16 = rest17) ∧ rest17.length = g ∧ forL fl14 rest17 k16 () = some o10 ∧ Sk a 19 [(8, .int .i64 (k16 : Int)), (0, v0), (1, .func (.func g1) #[] lb1.toArray), (7, .int .i64 (x0.length : Int))] ∧ Below w0.heap.size w0 w) x0.length ?_ ?_
    · exact ⟨0, x0, ⟨Nat.zero_le _, rfl⟩, rfl, hR, F.sub (sc rfl (sc rfl (sc rfl (sc rfl sn)))), hB⟩
    · intro g19 a w ⟨k16, rest17, hd20, hg21, hR, F, hB⟩
      cases rest17 with
      | nil =>
        replace hR := forL_nil hR
        have hkk16 := drop_nil hd20.1 hd20.2
        have hlk16 := dec_no hkk16
        refine x_seq ?_
        refine x_reg ?_
        refine o_lss F rfl rfl rfl (fun a F => ?_)
        refine x_end ?_
        refine x_tn ?_
        refine x_seq ?_
        refine x_ifF F rfl hlk16 ?_
        refine x_exit ?_
        refine x_te ?_
        refine x_te ?_
        refine x_be ?_
        refine x_tn ?_
        exact ⟨(Option.some.inj hR).symm, F.sub sn, hB⟩
      | cons x18 rest17 =>
        subst hg21
        replace hd20 := drop_cons hd20.2
        have hxk16 := ix_nat hd20.2.1
        obtain ⟨ck16, hR, hn13⟩ := forL_cons hR
        rw [hf15] at hR
        have hlk16 := dec_yes hd20.1
        refine x_seq ?_
        refine x_reg ?_
        refine o_lss F rfl rfl rfl (fun a F => ?_)
        refine x_end ?_
        refine x_tn ?_
        refine x_seq ?_
        refine x_ifT F rfl hlk16 ?_
        refine x_skip ?_
        refine x_tn ?_
        refine x_seq ?_
        have ikk16 := k64 (Nat.le_of_lt hd20.1) i1
        have ink16 := inc64 hd20.1 i1
        refine x_blk ?_
        refine x_seq ?_
        refine x_reg ?_
        refine o_move F rfl rfl (fun a F => ?_)
        refine o_assign F rfl rfl (fun a F => ?_)
        refine x_end ?_
        refine x_tn ?_
        refine x_seq ?_
        refine x_reg ?_
        refine o_move F rfl rfl (fun a F => ?_)
        refine o_move F rfl rfl (fun a F => ?_)
        refine o_move F rfl rfl (fun a F => ?_)
        refine o_index Try.underlying34 Try.sizeOf2 F rfl rfl rfl (A0.go hB) hxk16 (fun a p22 b23 h24 s25 F => ?_)
        have i26 := (h24).i64
        refine o_loadI Try.isAgg2 F rfl rfl h24 (fun a F => ?_)
        obtain ⟨z27, c28, hR⟩ := bnd_some hR
        refine o_saysV F rfl rfl hg1 rfl (hp1 _ z27 c28 _ hB i26) (fun a w l F => ?_)
        replace hB := Below.through l hB
        refine x_end ?_
        refine x_tn ?_
        refine x_if F rfl (fun hb29 => ?_) (fun hb29 => ?_)
        · replace hR := ifT hb29 hR
          refine x_seq ?_
          refine x_reg ?_
          refine o_move F rfl rfl (fun a F => ?_)
          refine o_assign F rfl rfl (fun a F => ?_)
          refine x_end ?_
          refine x_tn ?_
          refine x_ret ?_
          refine x_br ?_
          refine x_tr ?_
          refine x_tr ?_
          replace hR := l_ret hR hn13
          refine x_br ?_
          refine x_tr ?_
          replace hR := j_ret hR hk11
          refine x_tr ?_
          refine x_res1 F rfl (rv_t F rfl) ?_
          obtain rfl := Option.some.inj hR
          exact ⟨⟨rfl, hB⟩, ikk16⟩
        · replace hR := ifF hb29 hR
          refine x_skip ?_
          refine x_bn ?_
          refine x_tn ?_
          refine x_reg ?_
          refine o_inc F rfl rfl rfl ink16 (fun a F => ?_)
          refine o_move F rfl rfl (fun a F => ?_)
          refine x_end ?_
          refine x_tn ?_
          replace hR := l_go hR hn13
          exact ⟨_, Nat.lt_succ_self _, k16 + 1, rest17, ⟨hd20.1, hd20.2.2⟩, rfl, hR, F.sub (sc rfl (sc rfl (sc rfl (sc rfl sn)))), hB⟩
  · intro a w ⟨ho12, F, hB⟩
    subst ho12
    have hR := then_nx hk11
    refine x_tn ?_
    refine x_seq ?_
    refine x_reg ?_
    refine o_assign F rfl rfl (fun a F => ?_)
    refine x_end ?_
    refine x_tn ?_
    refine x_ret ?_
    refine x_res1 F rfl (rv_t F rfl) ?_
    obtain rfl := Option.some.inj hR
    exact ⟨⟨rfl, hB⟩, (show I64 (-1) by decide)⟩

def slices_ContainsFunc_s_int64_int64 (x0 : List Int) (x1 : Int → Option Bool) : Option Bool :=
  bnd (slices_IndexFunc_s_int64_int64 x0 x1) fun z1 =>
  some ((decide (0 ≤ z1)))
set_option maxHeartbeats 1000000 in
theorem slices_ContainsFunc_s_int64_int64_c {x0 : List Int} {x1 : Int → Option Bool} (r : Bool) (hR : slices_ContainsFunc_s_int64_int64 x0 x1 = some r) {v0 : Value} {b0 : List Nat} {g1 : FuncId} {lb1 : List Value} (w0 : World) (A0 : Rd (Sl 1 RInt) w0 v0 x0 b0) (hg1 : ∀ args w, (callFunc g1 args).run Try.prog w = .ok (.enter g1 args) w) (hp1 : ∀ (a0 : Int) (r : Bool), x1 a0 = some r → ∀ W, Below w0.heap.size w0 W → I64 a0 → Calls Try.prog g1 ([.int .i64 a0] ++ lb1 : List Value).toArray W (Says (.bool r) W)) : Calls Try.prog 62 #[v0, .func (.func g1) #[] lb1.toArray] w0 (Says (.bool r) w0) := by
  unfold slices_ContainsFunc_s_int64_int64 at hR
  refine x_enter (L := [(0, v0), (1, .func (.func g1) #[] lb1.toArray)]) Try.func62 rfl rfl rfl (sc rfl (sc rfl sn)) (fun a F => ?_)
  have hB := Below.refl w0.heap.size w0
  refine x_seq ?_
  refine x_reg ?_
  refine o_assign F rfl rfl (fun a F => ?_)
  refine x_end ?_
  refine x_tn ?_
  refine x_seq ?_
  refine x_reg ?_
  refine o_move F rfl rfl (fun a F => ?_)
  refine o_move F rfl rfl (fun a F => ?_)
  obtain ⟨z1, c2, hR⟩ := bnd_some hR
  refine o_saysI F rfl Try.call120 rfl (slices_IndexFunc_s_int64_int64_c z1 c2 _ (A0.go hB) hg1 (fun a0 r h W l => hp1 a0 r h W (hB.through' l))) (fun a w l iz1 F => ?_)
  replace hB := Below.through l hB
  refine o_geq F rfl rfl rfl (fun a F => ?_)
  refine o_assign F rfl rfl (fun a F => ?_)
  refine x_end ?_
  refine x_tn ?_
  refine x_ret ?_
  refine x_res1 F rfl (rv_t F rfl) ?_
  obtain rfl := Option.some.inj hR
  exact ⟨rfl, hB⟩

def impl_areValues (x0 : Int) (x1 : List Int) (x2 : Int) : Option Bool :=
  thn (σ := Bool) (
    if ((x1.length : Int) == x2) then   bnd (slices_ContainsFunc_s_int64_int64 x1 (fun a0 => impl_areValues_1 a0 x0)) fun z13 =>
      some (.nx (!z13)) else   some (.nx false)) fun s10 =>
  some s10
set_option maxHeartbeats 1000000 in
theorem impl_areValues_c {x0 : Int} {x1 : List Int} {x2 : Int} (r : Bool) (hR : impl_areValues x0 x1 x2 = some r) {v1 : Value} {b1 : List Nat} (w0 : World) (hx0 : I64 x0) (A1 : Rd (Sl 1 RInt) w0 v1 x1 b1) (hx2 : I64 x2) : Calls Try.prog 61 #[.int .i64 x0, v1, .int .i64 x2] w0 (Says (.bool r) w0) := by
  unfold impl_areValues at hR
  refine x_enter (L := [(0, .int .i64 x0), (1, v1), (2, .int .i64 x2)]) Try.func61 rfl rfl rfl (sc rfl (sc rfl (sc rfl sn))) (fun a F => ?_)
  have hB := Below.refl w0.heap.size w0
  refine x_seq ?_
  refine x_reg ?_
  refine o_box F rfl rfl rfl (fun a w b1 K2 l BK2 F => ?_)
  have CK2 := Nat.le_trans hB.size BK2
  replace hB := Below.through l hB
  refine o_assign F rfl rfl (fun a F => ?_)
  refine x_end ?_
  refine x_tn ?_
  refine x_seq ?_
  obtain ⟨o7, hR, hk8⟩ := thn_some hR
  refine x_cutQ (fun a w => ∃ (s10 : Bool), o7 = .nx s10 ∧ Sk a 17 [(6, .bool s10)] ∧ Below w0.heap.size w0 w) ?_ ?_
  · refine x_reg ?_
    refine o_move F rfl rfl (fun a F => ?_)
    refine o_len Try.underlying34 F rfl rfl (A1.go hB) (fun a F => ?_)
    have i11 := ((A1.go hB)).r.len64
    refine o_move F rfl rfl (fun a F => ?_)
    refine o_eql F rfl rfl rfl (fun a F => ?_)
    refine o_move F rfl rfl (fun a F => ?_)
    rcases bcases ((x1.length : Int) == x2) with hb12 | hb12
    · replace hR := ifT hb12 hR
      have F := F.eq (t := 11) rfl (congrArg Value.bool hb12)
      refine o_move F rfl rfl (fun a F => ?_)
      refine o_func F rfl rfl rfl (fun a F => ?_)
      obtain ⟨z13, c14, hR⟩ := bnd_some hR
      refine o_says F rfl Try.call62 rfl (slices_ContainsFunc_s_int64_int64_c z13 c14 _ (A1.go hB) Try.call118 (fun a0 r h W l f0 => impl_areValues_1_c r h W f0 ((cell1I K2 hx0).go l))) (fun a w l F => ?_)
      replace hB := Below.through l hB
      refine o_not F rfl rfl (fun a F => ?_)
      refine o_pickt F rfl rfl rfl (fun a F => ?_)
      refine o_assign F rfl rfl (fun a F => ?_)
      refine x_end ?_
      refine x_tn ?_
      exact ⟨(!z13), (Option.some.inj hR).symm, F.sub (sc rfl sn), hB⟩
    · replace hR := ifF hb12 hR
      have F := F.eq (t := 11) rfl (congrArg Value.bool hb12)
      refine o_no F rfl rfl (fun a F => ?_)
      refine o_no F rfl rfl (fun a F => ?_)
      refine o_no F rfl rfl (fun a F => ?_)
      refine o_no F rfl rfl (fun a F => ?_)
      refine o_pickf F rfl rfl rfl (fun a F => ?_)
      refine o_assign F rfl rfl (fun a F => ?_)
      refine x_end ?_
      refine x_tn ?_
      exact ⟨false, (Option.some.inj hR).symm, F.sub (sc rfl sn), hB⟩
  · intro a w ⟨s10, ho9, F, hB⟩
    subst ho9
    have hR := then_nx hk8
    refine x_tn ?_
    refine x_ret ?_
    refine x_res1 F rfl (rv_t F rfl) ?_
    obtain rfl := Option.some.inj hR
    exact ⟨rfl, hB⟩

def cmp_isNaN_int64 (x0 : Int) : Option Bool :=
  some ((x0 != x0))
set_option maxHeartbeats 1000000 in
theorem cmp_isNaN_int64_c {x0 : Int} (r : Bool) (hR : cmp_isNaN_int64 x0 = some r)  (w0 : World) (hx0 : I64 x0) : Calls Try.prog 175 #[.int .i64 x0] w0 (Says (.bool r) w0) := by
  unfold cmp_isNaN_int64 at hR
  refine x_enter (L := [(0, .int .i64 x0)]) Try.func175 rfl rfl rfl (sc rfl sn) (fun a F => ?_)
  have hB := Below.refl w0.heap.size w0
  refine x_seq ?_
  refine x_reg ?_
  refine o_assign F rfl rfl (fun a F => ?_)
  refine x_end ?_
  refine x_tn ?_
  refine x_seq ?_
  refine x_reg ?_
  refine o_move F rfl rfl (fun a F => ?_)
  refine o_move F rfl rfl (fun a F => ?_)
  refine o_neq F rfl rfl rfl (fun a F => ?_)
  refine o_assign F rfl rfl (fun a F => ?_)
  refine x_end ?_
  refine x_tn ?_
  refine x_ret ?_
  refine x_res1 F rfl (rv_t F rfl) ?_
  obtain rfl := Option.some.inj hR
  exact ⟨rfl, hB⟩

def cmp_Compare_int64 (x0 : Int) (x1 : Int) : Option Int :=
  bnd (cmp_isNaN_int64 x0) fun z1 =>
  bnd (cmp_isNaN_int64 x1) fun z3 =>
  if z1 then
    if z3 then
      some 0
    else
      some ((-1))
  else
    if z3 then
      some 1
    else
      if (decide (x0 < x1)) then
        some ((-1))
      else
        if (decide (x1 < x0)) then
          some 1
        else
          some 0
set_option maxHeartbeats 1000000 in
theorem cmp_Compare_int64_c {x0 : Int} {x1 : Int} (r : Int) (hR : cmp_Compare_int64 x0 x1 = some r)  (w0 : World) (hx0 : I64 x0) (hx1 : I64 x1) : Calls Try.prog 165 #[.int .i64 x0, .int .i64 x1] w0 (SaysI r w0) := by
  unfold cmp_Compare_int64 at hR
  refine x_enter (L := [(0, .int .i64 x0), (1, .int .i64 x1)]) Try.func165 rfl rfl rfl (sc rfl (sc rfl sn)) (fun a F => ?_)
  have hB := Below.refl w0.heap.size w0
  refine x_seq ?_
  refine x_reg ?_
  refine o_assign F rfl rfl (fun a F => ?_)
  refine x_end ?_
  refine x_tn ?_
  refine x_seq ?_
  refine x_reg ?_
  refine o_move F rfl rfl (fun a F => ?_)
  obtain ⟨z1, c2, hR⟩ := bnd_some hR
  refine o_says F rfl Try.call175 rfl (cmp_isNaN_int64_c z1 c2 _ hx0) (fun a w l F => ?_)
  replace hB := Below.through l hB
  refine o_assign F rfl rfl (fun a F => ?_)
  refine x_end ?_
  refine x_tn ?_
  refine x_seq ?_
  refine x_reg ?_
  refine o_move F rfl rfl (fun a F => ?_)
  obtain ⟨z3, c4, hR⟩ := bnd_some hR
  refine o_says F rfl Try.call175 rfl (cmp_isNaN_int64_c z3 c4 _ hx1) (fun a w l F => ?_)
  replace hB := Below.through l hB
  refine o_assign F rfl rfl (fun a F => ?_)
  refine x_end ?_
  refine x_tn ?_
  refine x_seq ?_
  refine x_seq ?_
  refine x_reg ?_
  refine o_move F rfl rfl (fun a F => ?_)
  refine x_end ?_
  refine x_tn ?_
  refine x_if F rfl (fun hb5 => ?_) (fun hb5 => ?_)
  · replace hR := ifT hb5 hR
    refine x_seq ?_
    refine x_seq ?_
    refine x_reg ?_
    refine o_move F rfl rfl (fun a F => ?_)
    refine x_end ?_
    refine x_tn ?_
    refine x_if F rfl (fun hb6 => ?_) (fun hb6 => ?_)
    · replace hR := ifT hb6 hR
      refine x_seq ?_
      refine x_reg ?_
      refine o_assign F rfl rfl (fun a F => ?_)
      refine x_end ?_
      refine x_tn ?_
      refine x_ret ?_
      refine x_tr ?_
      refine x_tr ?_
      refine x_res1 F rfl (rv_t F rfl) ?_
      obtain rfl := Option.some.inj hR
      exact ⟨⟨rfl, hB⟩, (show I64 (0) by decide)⟩
    · replace hR := ifF hb6 hR
      refine x_skip ?_
      refine x_tn ?_
      refine x_seq ?_
      refine x_reg ?_
      refine o_assign F rfl rfl (fun a F => ?_)
      refine x_end ?_
      refine x_tn ?_
      refine x_ret ?_
      refine x_tr ?_
      refine x_res1 F rfl (rv_t F rfl) ?_
      obtain rfl := Option.some.inj hR
      exact ⟨⟨rfl, hB⟩, (show I64 (-1) by decide)⟩
  · replace hR := ifF hb5 hR
    refine x_skip ?_
    refine x_tn ?_
    refine x_seq ?_
    refine x_seq ?_
    refine x_reg ?_
    refine o_move F rfl rfl (fun a F => ?_)
    refine x_end ?_
    refine x_tn ?_
    refine x_if F rfl (fun hb7 => ?_) (fun hb7 => ?_)
    · replace hR := ifT hb7 hR
      refine x_seq ?_
      refine x_reg ?_
      refine o_assign F rfl rfl (fun a F => ?_)
      refine x_end ?_
      refine x_tn ?_
      refine x_ret ?_
      refine x_tr ?_
      refine x_res1 F rfl (rv_t F rfl) ?_
      obtain rfl := Option.some.inj hR
      exact ⟨⟨rfl, hB⟩, (show I64 (1) by decide)⟩
    · replace hR := ifF hb7 hR
      refine x_skip ?_
      refine x_tn ?_
      refine x_seq ?_
      refine x_seq ?_
      refine x_reg ?_
      refine o_move F rfl rfl (fun a F => ?_)
      refine o_move F rfl rfl (fun a F => ?_)
      refine o_lss F rfl rfl rfl (fun a F => ?_)
      refine x_end ?_
      refine x_tn ?_
      refine x_if F rfl (fun hb8 => ?_) (fun hb8 => ?_)
      · replace hR := ifT hb8 hR
        refine x_seq ?_
        refine x_reg ?_
        refine o_assign F rfl rfl (fun a F => ?_)
        refine x_end ?_
        refine x_tn ?_
        refine x_ret ?_
        refine x_tr ?_
        refine x_res1 F rfl (rv_t F rfl) ?_
        obtain rfl := Option.some.inj hR
        exact ⟨⟨rfl, hB⟩, (show I64 (-1) by decide)⟩
      · replace hR := ifF hb8 hR
        refine x_skip ?_
        refine x_tn ?_
        refine x_seq ?_
        refine x_seq ?_
        refine x_reg ?_
        refine o_move F rfl rfl (fun a F => ?_)
        refine o_move F rfl rfl (fun a F => ?_)
        refine o_gtr F rfl rfl rfl (fun a F => ?_)
        refine x_end ?_
        refine x_tn ?_
        refine x_if F rfl (fun hb9 => ?_) (fun hb9 => ?_)
        · replace hR := ifT hb9 hR
          refine x_seq ?_
          refine x_reg ?_
          refine o_assign F rfl rfl (fun a F => ?_)
          refine x_end ?_
          refine x_tn ?_
          refine x_ret ?_
          refine x_tr ?_
          refine x_res1 F rfl (rv_t F rfl) ?_
          obtain rfl := Option.some.inj hR
          exact ⟨⟨rfl, hB⟩, (show I64 (1) by decide)⟩
        · replace hR := ifF hb9 hR
          refine x_skip ?_
          refine x_tn ?_
          refine x_seq ?_
          refine x_reg ?_
          refine o_assign F rfl rfl (fun a F => ?_)
          refine x_end ?_
          refine x_tn ?_
          refine x_ret ?_
          refine x_res1 F rfl (rv_t F rfl) ?_
          obtain rfl := Option.some.inj hR
          exact ⟨⟨rfl, hB⟩, (show I64 (0) by decide)⟩

def slices_Compare_s_int64_int64 (x0 : List Int) (x1 : List Int) : Option Int :=
  thn (σ := Unit) (
    forL (σ := Unit) (ρ := Int) (fun (k25 : Nat) (x27 : Int) (s : Unit) =>
      match s with
      | _ =>
        if (decide ((x1.length : Int) ≤ (k25 : Int))) then
          some (.ret 1)
        else
          bnd (ix x1 (k25 : Int)) fun z38 =>
          bnd (cmp_Compare_int64 x27 z38) fun z45 =>
          if (z45 != 0) then
            some (.ret z45)
          else
            some (.go ())) x0 0 ()) fun _ =>
  if (decide ((x0.length : Int) < (x1.length : Int))) then
    some ((-1))
  else
    some 0
set_option maxHeartbeats 1000000 in
theorem slices_Compare_s_int64_int64_c {x0 : List Int} {x1 : List Int} (r : Int) (hR : slices_Compare_s_int64_int64 x0 x1 = some r) {v0 : Value} {b0 : List Nat} {v1 : Value} {b1 : List Nat} (w0 : World) (A0 : Rd (Sl 1 RInt) w0 v0 x0 b0) (A1 : Rd (Sl 1 RInt) w0 v1 x1 b1) : Calls Try.prog 138 #[v0, v1] w0 (SaysI r w0) := by
  unfold slices_Compare_s_int64_int64 at hR
  refine x_enter (L := [(0, v0), (1, v1)]) Try.func138 rfl rfl rfl (sc rfl (sc rfl sn)) (fun a F => ?_)
  have hB := Below.refl w0.heap.size w0
  refine x_seq ?_
  refine x_reg ?_
  refine o_assign F rfl rfl (fun a F => ?_)
  refine x_end ?_
  refine x_tn ?_
  refine x_seq ?_
  refine x_seq ?_
  refine x_reg ?_
  refine o_move F rfl rfl (fun a F => ?_)
  refine o_len Try.underlying34 F rfl rfl (A0.go hB) (fun a F => ?_)
  have i1 := ((A0.go hB)).r.len64
  refine o_move F rfl rfl (fun a F => ?_)
  refine x_end ?_
  refine x_tn ?_
  obtain ⟨o19, hR, hk20⟩ := thn_some hR
  refine x_cutQ (fun a w => o19 = .nx () ∧ Sk a 36 [(0, v0), (1, v1)] ∧ Below w0.heap.size w0 w) ?_ ?_
  · refine x_blk ?_
    obtain ⟨fl23, hf24, hR⟩ := forL_gen hR
    refine x_loop (fun g a w => ∃ (k25 : Nat) (rest26 : List Int), (k25 ≤ x0.length ∧ x0.drop k25 = rest26) ∧ rest26.length = g ∧ forL fl23 rest26 k25 () = some o19 ∧ Sk a 36 [(11, .int .i64 (k25 : Int)), (0, v0), (1, v1), (9, v0), (10, .int .i64 (x0.length : Int))] ∧ Below w0.heap.size w0 w) x0.length ?_ ?_
    · exact ⟨0, x0, ⟨Nat.zero_le _, rfl⟩, rfl, hR, F.sub (sc rfl (sc rfl (sc rfl (sc rfl (sc rfl sn))))), hB⟩
    · intro g28 a w ⟨k25, rest26, hd29, hg30, hR, F, hB⟩
      cases rest26 with
      | nil =>
        replace hR := forL_nil hR
        have hkk25 := drop_nil hd29.1 hd29.2
        have hlk25 := dec_no hkk25
        refine x_seq ?_
        refine x_reg ?_
        refine o_lss F rfl rfl rfl (fun a F => ?_)
        refine x_end ?_
        refine x_tn ?_
        refine x_seq ?_
        refine x_ifF F rfl hlk25 ?_
        refine x_exit ?_
        refine x_te ?_
        refine x_te ?_
        refine x_be ?_
        refine x_tn ?_
        exact ⟨(Option.some.inj hR).symm, F.sub (sc rfl (sc rfl sn)), hB⟩
      | cons x27 rest26 =>
        subst hg30
        replace hd29 := drop_cons hd29.2
        have hxk25 := ix_nat hd29.2.1
        obtain ⟨ck25, hR, hn22⟩ := forL_cons hR
        rw [hf24] at hR
        have hlk25 := dec_yes hd29.1
        refine x_seq ?_
        refine x_reg ?_
        refine o_lss F rfl rfl rfl (fun a F => ?_)
        refine x_end ?_
        refine x_tn ?_
        refine x_seq ?_
        refine x_ifT F rfl hlk25 ?_
        refine x_skip ?_
        refine x_tn ?_
        refine x_seq ?_
        have ikk25 := k64 (Nat.le_of_lt hd29.1) i1
        have ink25 := inc64 hd29.1 i1
        refine x_blk ?_
        refine x_seq ?_
        refine x_reg ?_
        refine o_move F rfl rfl (fun a F => ?_)
        refine o_index Try.underlying34 Try.sizeOf2 F rfl rfl rfl (A0.go hB) hxk25 (fun a p31 b32 h33 s34 F => ?_)
        have i35 := (h33).i64
        refine o_loadI Try.isAgg2 F rfl rfl h33 (fun a F => ?_)
        refine o_assign F rfl rfl (fun a F => ?_)
        refine o_assign F rfl rfl (fun a F => ?_)
        refine x_end ?_
        refine x_tn ?_
        refine x_seq ?_
        refine x_seq ?_
        refine x_reg ?_
        refine o_move F rfl rfl (fun a F => ?_)
        refine o_move F rfl rfl (fun a F => ?_)
        refine o_len Try.underlying34 F rfl rfl (A1.go hB) (fun a F => ?_)
        have i36 := ((A1.go hB)).r.len64
        refine o_geq F rfl rfl rfl (fun a F => ?_)
        refine x_end ?_
        refine x_tn ?_
        refine x_if F rfl (fun hb37 => ?_) (fun hb37 => ?_)
        · replace hR := ifT hb37 hR
          refine x_seq ?_
          refine x_reg ?_
          refine o_assign F rfl rfl (fun a F => ?_)
          refine x_end ?_
          refine x_tn ?_
          refine x_ret ?_
          refine x_tr ?_
          refine x_br ?_
          refine x_tr ?_
          refine x_tr ?_
          replace hR := l_ret hR hn22
          refine x_br ?_
          refine x_tr ?_
          replace hR := j_ret hR hk20
          refine x_tr ?_
          refine x_res1 F rfl (rv_t F rfl) ?_
          obtain rfl := Option.some.inj hR
          exact ⟨⟨rfl, hB⟩, (show I64 (1) by decide)⟩
        · replace hR := ifF hb37 hR
          refine x_skip ?_
          refine x_tn ?_
          refine x_seq ?_
          refine x_reg ?_
          refine o_move F rfl rfl (fun a F => ?_)
          refine o_move F rfl rfl (fun a F => ?_)
          obtain ⟨z38, c39, hR⟩ := bnd_some hR
          refine o_index Try.underlying34 Try.sizeOf2 F rfl rfl rfl (A1.go hB) c39 (fun a p40 b41 h42 s43 F => ?_)
          have i44 := (h42).i64
          refine o_loadI Try.isAgg2 F rfl rfl h42 (fun a F => ?_)
          refine o_assign F rfl rfl (fun a F => ?_)
          refine x_end ?_
          refine x_tn ?_
          refine x_seq ?_
          refine x_reg ?_
          refine o_move F rfl rfl (fun a F => ?_)
          refine o_move F rfl rfl (fun a F => ?_)
          obtain ⟨z45, c46, hR⟩ := bnd_some hR
          refine o_saysI F rfl Try.call165 rfl (cmp_Compare_int64_c z45 c46 _ i35 i44) (fun a w l iz45 F => ?_)
          replace hB := Below.through l hB
          refine o_assign F rfl rfl (fun a F => ?_)
          refine x_end ?_
          refine x_tn ?_
          refine x_seq ?_
          refine x_reg ?_
          refine o_move F rfl rfl (fun a F => ?_)
          refine o_neq F rfl rfl rfl (fun a F => ?_)
          refine x_end ?_
          refine x_tn ?_
          refine x_if F rfl (fun hb47 => ?_) (fun hb47 => ?_)
          · replace hR := ifT hb47 hR
            refine x_seq ?_
            refine x_reg ?_
            refine o_move F rfl rfl (fun a F => ?_)
            refine o_assign F rfl rfl (fun a F => ?_)
            refine x_end ?_
            refine x_tn ?_
            refine x_ret ?_
            refine x_br ?_
            refine x_tr ?_
            refine x_tr ?_
            replace hR := l_ret hR hn22
            refine x_br ?_
            refine x_tr ?_
            replace hR := j_ret hR hk20
            refine x_tr ?_
            refine x_res1 F rfl (rv_t F rfl) ?_
            obtain rfl := Option.some.inj hR
            exact ⟨⟨rfl, hB⟩, iz45⟩
          · replace hR := ifF hb47 hR
            refine x_skip ?_
            refine x_bn ?_
            refine x_tn ?_
            refine x_reg ?_
            refine o_inc F rfl rfl rfl ink25 (fun a F => ?_)
            refine o_move F rfl rfl (fun a F => ?_)
            refine x_end ?_
            refine x_tn ?_
            replace hR := l_go hR hn22
            exact ⟨_, Nat.lt_succ_self _, k25 + 1, rest26, ⟨hd29.1, hd29.2.2⟩, rfl, hR, F.sub (sc rfl (sc rfl (sc rfl (sc rfl (sc rfl sn))))), hB⟩
  · intro a w ⟨ho21, F, hB⟩
    subst ho21
    have hR := then_nx hk20
    refine x_tn ?_
    refine x_seq ?_
    refine x_seq ?_
    refine x_reg ?_
    refine o_move F rfl rfl (fun a F => ?_)
    refine o_len Try.underlying34 F rfl rfl (A0.go hB) (fun a F => ?_)
    have i48 := ((A0.go hB)).r.len64
    refine o_move F rfl rfl (fun a F => ?_)
    refine o_len Try.underlying34 F rfl rfl (A1.go hB) (fun a F => ?_)
    have i49 := ((A1.go hB)).r.len64
    refine o_lss F rfl rfl rfl (fun a F => ?_)
    refine x_end ?_
    refine x_tn ?_
    refine x_if F rfl (fun hb50 => ?_) (fun hb50 => ?_)
    · replace hR := ifT hb50 hR
      refine x_seq ?_
      refine x_reg ?_
      refine o_assign F rfl rfl (fun a F => ?_)
      refine x_end ?_
      refine x_tn ?_
      refine x_ret ?_
      refine x_tr ?_
      refine x_res1 F rfl (rv_t F rfl) ?_
      obtain rfl := Option.some.inj hR
      exact ⟨⟨rfl, hB⟩, (show I64 (-1) by decide)⟩
    · replace hR := ifF hb50 hR
      refine x_skip ?_
      refine x_tn ?_
      refine x_seq ?_
      refine x_reg ?_
      refine o_assign F rfl rfl (fun a F => ?_)
      refine x_end ?_
      refine x_tn ?_
      refine x_ret ?_
      refine x_res1 F rfl (rv_t F rfl) ?_
      obtain rfl := Option.some.inj hR
      exact ⟨⟨rfl, hB⟩, (show I64 (0) by decide)⟩

def impl_ValidRel (x0 : Int) (x1 : Rel) : Option Bool :=
  thn (σ := Bool) (
    bnd (impl_isSize x0) fun z18 =>
    if (!z18) then   some (.nx true) else   bnd (impl_isArity x1.arity) fun z21 =>
      some (.nx (!z21))) fun s17 =>
  if s17 then
    some false
  else
    thn (σ := Unit) (
      forL (σ := Unit) (ρ := Bool) (fun (k80 : Nat) (x82 : (List Int)) (s : Unit) =>
        match s with
        | _ =>
          thn (σ := Bool) (
            bnd (impl_areValues x0 x82 x1.arity) fun z116 =>
            if (!z116) then   some (.nx true) else   if (decide (0 < (k80 : Int))) then   bnd (ck ((k80 : Int) - 1)) fun z120 =>
                bnd (ix x1.tuples z120) fun z122 =>
                bnd (slices_Compare_s_int64_int64 z122 x82) fun z132 =>
                some (.nx (decide (0 ≤ z132))) else   some (.nx false)) fun s115 =>
          if s115 then
            some (.ret false)
          else
            some (.go ())) x1.tuples 0 ()) fun _ =>
    some true
set_option maxHeartbeats 1000000 in
theorem impl_ValidRel_c {x0 : Int} {x1 : Rel} (r : Bool) (hR : impl_ValidRel x0 x1 = some r) {v1 : Value} {b1 : List Nat} (w0 : World) (hx0 : I64 x0) (A1 : Rd (Agg 2 RRel) w0 v1 x1 b1) : Calls Try.prog 82 #[.int .i64 x0, v1] w0 (Says (.bool r) w0) := by
  unfold impl_ValidRel at hR
  refine x_enter (L := [(0, .int .i64 x0), (1, v1)]) Try.func82 rfl rfl rfl (sc rfl (sc rfl sn)) (fun a F => ?_)
  have hB := Below.refl w0.heap.size w0
  refine x_seq ?_
  refine x_reg ?_
  obtain ⟨v4, b5, e7, i3, h6, _⟩ := RRel.rd (A1.go hB)
  subst e7
  refine o_box F rfl rfl rfl (fun a w b1 K2 l BK2 F => ?_)
  have d8 := (dj1 h6.m BK2).symm
  have CK2 := Nat.le_trans hB.size BK2
  replace hB := Below.through l hB
  replace h6 := h6.go l
  refine o_assign F rfl rfl (fun a F => ?_)
  refine x_end ?_
  refine x_tn ?_
  refine x_seq ?_
  refine x_seq ?_
  obtain ⟨o14, hR, hk15⟩ := thn_some hR
  refine x_cutQ (fun a w => ∃ (s17 : Bool), o14 = .nx s17 ∧ Sk a 46 [(0, .int .i64 x0), (3, .pointer (some ⟨b1, 0, none⟩)), (15, .bool s17)] ∧ Below w0.heap.size w0 w ∧ Rd (Sl 1 (RSl 1 RInt)) w v4 x1.tuples b5 ∧ Blk w b1 #[.int .i64 x1.arity, v4] 58) ?_ ?_
  · refine x_reg ?_
    refine o_move F rfl rfl (fun a F => ?_)
    obtain ⟨z18, c19, hR⟩ := bnd_some hR
    refine o_says F rfl Try.call136 rfl (impl_isSize_c z18 c19 _ hx0) (fun a w l F => ?_)
    replace hB := Below.through l hB
    replace h6 := h6.go l
    replace K2 := K2.thru l
    refine o_not F rfl rfl (fun a F => ?_)
    refine o_move F rfl rfl (fun a F => ?_)
    rcases bcases (!z18) with hb20 | hb20
    · replace hR := ifT hb20 hR
      have F := F.eq (t := 10) rfl (congrArg Value.bool hb20)
      refine o_no F rfl rfl (fun a F => ?_)
      refine o_no F rfl rfl (fun a F => ?_)
      refine o_no F rfl rfl (fun a F => ?_)
      refine o_no F rfl rfl (fun a F => ?_)
      refine o_pickt F rfl rfl rfl (fun a F => ?_)
      refine x_end ?_
      refine x_tn ?_
      exact ⟨true, (Option.some.inj hR).symm, F.sub (sc rfl (sc rfl (sc rfl sn))), hB, h6, K2⟩
    · replace hR := ifF hb20 hR
      have F := F.eq (t := 10) rfl (congrArg Value.bool hb20)
      refine o_bfield fa58_0 F rfl rfl rfl (fun a F => ?_)
      refine o_bload Try.isAgg2 F rfl rfl K2 rfl (fun a F => ?_)
      obtain ⟨z21, c22, hR⟩ := bnd_some hR
      refine o_says F rfl Try.call137 rfl (impl_isArity_c z21 c22 _ i3) (fun a w l F => ?_)
      replace hB := Below.through l hB
      replace h6 := h6.go l
      replace K2 := K2.thru l
      refine o_not F rfl rfl (fun a F => ?_)
      refine o_pickf F rfl rfl rfl (fun a F => ?_)
      refine x_end ?_
      refine x_tn ?_
      exact ⟨(!z21), (Option.some.inj hR).symm, F.sub (sc rfl (sc rfl (sc rfl sn))), hB, h6, K2⟩
  · intro a w ⟨s17, ho16, F, hB, h6, K2⟩
    subst ho16
    have hR := then_nx hk15
    refine x_tn ?_
    refine x_if F rfl (fun hb23 => ?_) (fun hb23 => ?_)
    · replace hR := ifT hb23 hR
      refine x_seq ?_
      refine x_reg ?_
      refine o_assign F rfl rfl (fun a F => ?_)
      refine x_end ?_
      refine x_tn ?_
      refine x_ret ?_
      refine x_tr ?_
      refine x_res1 F rfl (rv_t F rfl) ?_
      obtain rfl := Option.some.inj hR
      exact ⟨rfl, hB⟩
    · replace hR := ifF hb23 hR
      refine x_skip ?_
      refine x_tn ?_
      refine x_seq ?_
      refine x_seq ?_
      refine x_reg ?_
      refine o_bfield fa58_1 F rfl rfl rfl (fun a F => ?_)
      refine o_bload Try.isAgg52 F rfl rfl K2 rfl (fun a F => ?_)
      refine o_len Try.underlying52 F rfl rfl h6 (fun a F => ?_)
      have i24 := (h6).r.len64
      refine o_move F rfl rfl (fun a F => ?_)
      refine x_end ?_
      refine x_tn ?_
      obtain ⟨o74, hR, hk75⟩ := thn_some hR
      refine x_cutQ (fun a w => o74 = .nx () ∧ Sk a 46 [] ∧ Below w0.heap.size w0 w) ?_ ?_
      · refine x_blk ?_
        obtain ⟨fl78, hf79, hR⟩ := forL_gen hR
        refine x_loop (fun g a w => ∃ (k80 : Nat) (rest81 : List (List Int)), (k80 ≤ x1.tuples.length ∧ x1.tuples.drop k80 = rest81) ∧ rest81.length = g ∧ forL fl78 rest81 k80 () = some o74 ∧ Sk a 46 [(19, .int .i64 (k80 : Int)), (0, .int .i64 x0), (3, .pointer (some ⟨b1, 0, none⟩)), (17, v4), (18, .int .i64 (x1.tuples.length : Int))] ∧ Below w0.heap.size w0 w ∧ Rd (Sl 1 (RSl 1 RInt)) w v4 x1.tuples b5 ∧ Blk w b1 #[.int .i64 x1.arity, v4] 58) x1.tuples.length ?_ ?_
        · exact ⟨0, x1.tuples, ⟨Nat.zero_le _, rfl⟩, rfl, hR, F.sub (sc rfl (sc rfl (sc rfl (sc rfl (sc rfl sn))))), hB, h6, K2⟩
        · intro g83 a w ⟨k80, rest81, hd84, hg85, hR, F, hB, h6, K2⟩
          cases rest81 with
          | nil =>
            replace hR := forL_nil hR
            have hkk80 := drop_nil hd84.1 hd84.2
            have hlk80 := dec_no hkk80
            refine x_seq ?_
            refine x_reg ?_
            refine o_lss F rfl rfl rfl (fun a F => ?_)
            refine x_end ?_
            refine x_tn ?_
            refine x_seq ?_
            refine x_ifF F rfl hlk80 ?_
            refine x_exit ?_
            refine x_te ?_
            refine x_te ?_
            refine x_be ?_
            refine x_tn ?_
            exact ⟨(Option.some.inj hR).symm, F.sub sn, hB⟩
          | cons x82 rest81 =>
            subst hg85
            replace hd84 := drop_cons hd84.2
            have hxk80 := ix_nat hd84.2.1
            obtain ⟨ck80, hR, hn77⟩ := forL_cons hR
            rw [hf79] at hR
            have hlk80 := dec_yes hd84.1
            refine x_seq ?_
            refine x_reg ?_
            refine o_lss F rfl rfl rfl (fun a F => ?_)
            refine x_end ?_
            refine x_tn ?_
            refine x_seq ?_
            refine x_ifT F rfl hlk80 ?_
            refine x_skip ?_
            refine x_tn ?_
            refine x_seq ?_
            have ikk80 := k64 (Nat.le_of_lt hd84.1) i24
            have ink80 := inc64 hd84.1 i24
            refine x_blk ?_
            refine x_seq ?_
            refine x_reg ?_
            refine o_move F rfl rfl (fun a F => ?_)
            refine o_index Try.underlying52 Try.sizeOf34 F rfl rfl rfl h6 hxk80 (fun a p86 b87 h88 s89 F => ?_)
            refine o_loadS Try.isAgg34 F rfl rfl h88 (fun a v90 b91 h92 s93 F => ?_)
            refine o_assign F rfl rfl (fun a F => ?_)
            refine o_assign F rfl rfl (fun a F => ?_)
            refine x_end ?_
            refine x_tn ?_
            refine x_seq ?_
            obtain ⟨o112, hR, hk113⟩ := thn_some hR
            refine x_cutQ (fun a w => ∃ (s115 : Bool), o112 = .nx s115 ∧ Sk a 46 [(0, .int .i64 x0), (3, .pointer (some ⟨b1, 0, none⟩)), (17, v4), (18, .int .i64 (x1.tuples.length : Int)), (19, .int .i64 (k80 : Int)), (44, .bool s115)] ∧ Below w0.heap.size w0 w ∧ Rd (Sl 1 (RSl 1 RInt)) w v4 x1.tuples b5 ∧ Blk w b1 #[.int .i64 x1.arity, v4] 58) ?_ ?_
            · refine x_reg ?_
              refine o_move F rfl rfl (fun a F => ?_)
              refine o_move F rfl rfl (fun a F => ?_)
              refine o_bfield fa58_0 F rfl rfl rfl (fun a F => ?_)
              refine o_bload Try.isAgg2 F rfl rfl K2 rfl (fun a F => ?_)
              obtain ⟨z116, c117, hR⟩ := bnd_some hR
              refine o_says F rfl Try.call61 rfl (impl_areValues_c z116 c117 _ hx0 h92 i3) (fun a w l F => ?_)
              replace hB := Below.through l hB
              replace h6 := h6.go l
              replace h92 := h92.go l
              replace K2 := K2.thru l
              refine o_not F rfl rfl (fun a F => ?_)
              refine o_move F rfl rfl (fun a F => ?_)
              rcases bcases (!z116) with hb118 | hb118
              · replace hR := ifT hb118 hR
                have F := F.eq (t := 30) rfl (congrArg Value.bool hb118)
                refine o_no F rfl rfl (fun a F => ?_)
                refine o_no F rfl rfl (fun a F => ?_)
                refine o_no F rfl rfl (fun a F => ?_)
                refine o_no F rfl rfl (fun a F => ?_)
                refine o_no F rfl rfl (fun a F => ?_)
                refine o_no F rfl rfl (fun a F => ?_)
                refine o_no F rfl rfl (fun a F => ?_)
                refine o_no F rfl rfl (fun a F => ?_)
                refine o_no F rfl rfl (fun a F => ?_)
                refine o_no F rfl rfl (fun a F => ?_)
                refine o_no F rfl rfl (fun a F => ?_)
                refine o_no F rfl rfl (fun a F => ?_)
                refine o_no F rfl rfl (fun a F => ?_)
                refine o_pickt F rfl rfl rfl (fun a F => ?_)
                refine x_end ?_
                refine x_tn ?_
                exact ⟨true, (Option.some.inj hR).symm, F.sub (sc rfl (sc rfl (sc rfl (sc rfl (sc rfl (sc rfl sn)))))), hB, h6, K2⟩
              · replace hR := ifF hb118 hR
                have F := F.eq (t := 30) rfl (congrArg Value.bool hb118)
                refine o_move F rfl rfl (fun a F => ?_)
                refine o_gtr F rfl rfl rfl (fun a F => ?_)
                refine o_move F rfl rfl (fun a F => ?_)
                rcases bcases (decide (0 < (k80 : Int))) with hb119 | hb119
                · replace hR := ifT hb119 hR
                  have F := F.eq (t := 33) rfl (congrArg Value.bool hb119)
                  refine o_bfield fa58_1 F rfl rfl rfl (fun a F => ?_)
                  refine o_bload Try.isAgg52 F rfl rfl K2 rfl (fun a F => ?_)
                  refine o_move F rfl rfl (fun a F => ?_)
                  obtain ⟨z120, c121, hR⟩ := bnd_some hR
                  refine o_sub F rfl rfl rfl c121 (fun a F => ?_)
                  obtain ⟨z122, c123, hR⟩ := bnd_some hR
                  refine o_index Try.underlying52 Try.sizeOf34 F rfl rfl rfl h6 c123 (fun a p124 b125 h126 s127 F => ?_)
                  refine o_loadS Try.isAgg34 F rfl rfl h126 (fun a v128 b129 h130 s131 F => ?_)
                  refine o_move F rfl rfl (fun a F => ?_)
                  obtain ⟨z132, c133, hR⟩ := bnd_some hR
                  refine o_saysI F rfl Try.call138 rfl (slices_Compare_s_int64_int64_c z132 c133 _ h130 h92) (fun a w l iz132 F => ?_)
                  replace hB := Below.through l hB
                  replace h6 := h6.go l
                  replace K2 := K2.thru l
                  refine o_geq F rfl rfl rfl (fun a F => ?_)
                  refine o_pickt F rfl rfl rfl (fun a F => ?_)
                  refine o_pickf F rfl rfl rfl (fun a F => ?_)
                  refine x_end ?_
                  refine x_tn ?_
                  exact ⟨(decide (0 ≤ z132)), (Option.some.inj hR).symm, F.sub (sc rfl (sc rfl (sc rfl (sc rfl (sc rfl (sc rfl sn)))))), hB, h6, K2⟩
                · replace hR := ifF hb119 hR
                  have F := F.eq (t := 33) rfl (congrArg Value.bool hb119)
                  refine o_no F rfl rfl (fun a F => ?_)
                  refine o_no F rfl rfl (fun a F => ?_)
                  refine o_no F rfl rfl (fun a F => ?_)
                  refine o_no F rfl rfl (fun a F => ?_)
                  refine o_no F rfl rfl (fun a F => ?_)
                  refine o_no F rfl rfl (fun a F => ?_)
                  refine o_no F rfl rfl (fun a F => ?_)
                  refine o_no F rfl rfl (fun a F => ?_)
                  refine o_no F rfl rfl (fun a F => ?_)
                  refine o_pickf F rfl rfl rfl (fun a F => ?_)
                  refine o_pickf F rfl rfl rfl (fun a F => ?_)
                  refine x_end ?_
                  refine x_tn ?_
                  exact ⟨false, (Option.some.inj hR).symm, F.sub (sc rfl (sc rfl (sc rfl (sc rfl (sc rfl (sc rfl sn)))))), hB, h6, K2⟩
            · intro a w ⟨s115, ho114, F, hB, h6, K2⟩
              subst ho114
              have hR := then_nx hk113
              refine x_tn ?_
              refine x_if F rfl (fun hb134 => ?_) (fun hb134 => ?_)
              · replace hR := ifT hb134 hR
                refine x_seq ?_
                refine x_reg ?_
                refine o_assign F rfl rfl (fun a F => ?_)
                refine x_end ?_
                refine x_tn ?_
                refine x_ret ?_
                refine x_br ?_
                refine x_tr ?_
                refine x_tr ?_
                replace hR := l_ret hR hn77
                refine x_br ?_
                refine x_tr ?_
                replace hR := j_ret hR hk75
                refine x_tr ?_
                refine x_res1 F rfl (rv_t F rfl) ?_
                obtain rfl := Option.some.inj hR
                exact ⟨rfl, hB⟩
              · replace hR := ifF hb134 hR
                refine x_skip ?_
                refine x_bn ?_
                refine x_tn ?_
                refine x_reg ?_
                refine o_inc F rfl rfl rfl ink80 (fun a F => ?_)
                refine o_move F rfl rfl (fun a F => ?_)
                refine x_end ?_
                refine x_tn ?_
                replace hR := l_go hR hn77
                exact ⟨_, Nat.lt_succ_self _, k80 + 1, rest81, ⟨hd84.1, hd84.2.2⟩, rfl, hR, F.sub (sc rfl (sc rfl (sc rfl (sc rfl (sc rfl sn))))), hB, h6, K2⟩
      · intro a w ⟨ho76, F, hB⟩
        subst ho76
        have hR := then_nx hk75
        refine x_tn ?_
        refine x_seq ?_
        refine x_reg ?_
        refine o_assign F rfl rfl (fun a F => ?_)
        refine x_end ?_
        refine x_tn ?_
        refine x_ret ?_
        refine x_res1 F rfl (rv_t F rfl) ?_
        obtain rfl := Option.some.inj hR
        exact ⟨rfl, hB⟩

def slices_IndexFunc_s_s_int64_s_int64 (x0 : List (List Int)) (x1 : (List Int) → Option Bool) : Option Int :=
  thn (σ := Unit) (
    forL (σ := Unit) (ρ := Int) (fun (k19 : Nat) (x21 : (List Int)) (s : Unit) =>
      match s with
      | _ =>
        bnd (x1 x21) fun z33 =>
        if z33 then
          some (.ret ((k19 : Int)))
        else
          some (.go ())) x0 0 ()) fun _ =>
  some ((-1))
set_option maxHeartbeats 1000000 in
theorem slices_IndexFunc_s_s_int64_s_int64_c {x0 : List (List Int)} {x1 : (List Int) → Option Bool} (r : Int) (hR : slices_IndexFunc_s_s_int64_s_int64 x0 x1 = some r) {v0 : Value} {b0 : List Nat} {g1 : FuncId} {lb1 : List Value} (w0 : World) (A0 : Rd (Sl 1 (RSl 1 RInt)) w0 v0 x0 b0) (hg1 : ∀ args w, (callFunc g1 args).run Try.prog w = .ok (.enter g1 args) w) (hp1 : ∀ (a0 : List Int) (r : Bool), x1 a0 = some r → ∀ W, Below w0.heap.size w0 W → ∀ (u0 : Value) (c0 : List Nat), Rd (Sl 1 RInt) W u0 a0 c0 → Calls Try.prog g1 ([u0] ++ lb1 : List Value).toArray W (Says (.bool r) W)) : Calls Try.prog 166 #[v0, .func (.func g1) #[] lb1.toArray] w0 (SaysI r w0) := by
  unfold slices_IndexFunc_s_s_int64_s_int64 at hR
  refine x_enter (L := [(0, v0), (1, .func (.func g1) #[] lb1.toArray)]) Try.func166 rfl rfl rfl (sc rfl (sc rfl sn)) (fun a F => ?_)
  have hB := Below.refl w0.heap.size w0
  refine x_seq ?_
  refine x_reg ?_
  refine o_assign F rfl rfl (fun a F => ?_)
  refine x_end ?_
  refine x_tn ?_
  refine x_seq ?_
  refine x_seq ?_
  refine x_reg ?_
  refine o_move F rfl rfl (fun a F => ?_)
  refine o_len Try.underlying52 F rfl rfl (A0.go hB) (fun a F => ?_)
  have i1 := ((A0.go hB)).r.len64
  refine o_move F rfl rfl (fun a F => ?_)
  refine x_end ?_
  refine x_tn ?_
  obtain ⟨o13, hR, hk14⟩ := thn_some hR
  refine x_cutQ (fun a w => o13 = .nx () ∧ Sk a 19 [] ∧ Below w0.heap.size w0 w) ?_ ?_
  · refine x_blk ?_
    obtain ⟨fl17, hf18, hR⟩ := forL_gen hR
    refine x_loop (fun g a w => ∃ (k19 : Nat) (rest20 : List (List Int)), (k19 ≤ x0.length ∧ x0.drop k19 = rest20) ∧ rest20.length = g ∧ forL fl17 rest20 k19 () = some o13 ∧ Sk a 19 [(8, .int .i64 (k19 : Int)), (0, v0), (1, .func (.func g1) #[] lb1.toArray), (7, .int .i64 (x0.length : Int))] ∧ Below w0.heap.size w0 w) x0.length ?_ ?_
    · exact ⟨0, x0, ⟨Nat.zero_le _, rfl⟩, rfl, hR, F.sub (sc rfl (sc rfl (sc rfl (sc rfl sn)))), hB⟩
    · intro g22 a w ⟨k19, rest20, hd23, hg24, hR, F, hB⟩
      cases rest20 with
      | nil =>
        replace hR := forL_nil hR
        have hkk19 := drop_nil hd23.1 hd23.2
        have hlk19 := dec_no hkk19
        refine x_seq ?_
        refine x_reg ?_
        refine o_lss F rfl rfl rfl (fun a F => ?_)
        refine x_end ?_
        refine x_tn ?_
        refine x_seq ?_
        refine x_ifF F rfl hlk19 ?_
        refine x_exit ?_
        refine x_te ?_
        refine x_te ?_
        refine x_be ?_
        refine x_tn ?_
        exact ⟨(Option.some.inj hR).symm, F.sub sn, hB⟩
      | cons x21 rest20 =>
        subst hg24
        replace hd23 := drop_cons hd23.2
        have hxk19 := ix_nat hd23.2.1
        obtain ⟨ck19, hR, hn16⟩ := forL_cons hR
        rw [hf18] at hR
        have hlk19 := dec_yes hd23.1
        refine x_seq ?_
        refine x_reg ?_
        refine o_lss F rfl rfl rfl (fun a F => ?_)
        refine x_end ?_
        refine x_tn ?_
        refine x_seq ?_
        refine x_ifT F rfl hlk19 ?_
        refine x_skip ?_
        refine x_tn ?_
        refine x_seq ?_
        have ikk19 := k64 (Nat.le_of_lt hd23.1) i1
        have ink19 := inc64 hd23.1 i1
        refine x_blk ?_
        refine x_seq ?_
        refine x_reg ?_
        refine o_move F rfl rfl (fun a F => ?_)
        refine o_assign F rfl rfl (fun a F => ?_)
        refine x_end ?_
        refine x_tn ?_
        refine x_seq ?_
        refine x_reg ?_
        refine o_move F rfl rfl (fun a F => ?_)
        refine o_move F rfl rfl (fun a F => ?_)
        refine o_move F rfl rfl (fun a F => ?_)
        refine o_index Try.underlying52 Try.sizeOf34 F rfl rfl rfl (A0.go hB) hxk19 (fun a p25 b26 h27 s28 F => ?_)
        refine o_loadS Try.isAgg34 F rfl rfl h27 (fun a v29 b30 h31 s32 F => ?_)
        obtain ⟨z33, c34, hR⟩ := bnd_some hR
        refine o_saysV F rfl rfl hg1 rfl (hp1 _ z33 c34 _ hB _ _ h31) (fun a w l F => ?_)
        replace hB := Below.through l hB
        refine x_end ?_
        refine x_tn ?_
        refine x_if F rfl (fun hb35 => ?_) (fun hb35 => ?_)
        · replace hR := ifT hb35 hR
          refine x_seq ?_
          refine x_reg ?_
          refine o_move F rfl rfl (fun a F => ?_)
          refine o_assign F rfl rfl (fun a F => ?_)
          refine x_end ?_
          refine x_tn ?_
          refine x_ret ?_
          refine x_br ?_
          refine x_tr ?_
          refine x_tr ?_
          replace hR := l_ret hR hn16
          refine x_br ?_
          refine x_tr ?_
          replace hR := j_ret hR hk14
          refine x_tr ?_
          refine x_res1 F rfl (rv_t F rfl) ?_
          obtain rfl := Option.some.inj hR
          exact ⟨⟨rfl, hB⟩, ikk19⟩
        · replace hR := ifF hb35 hR
          refine x_skip ?_
          refine x_bn ?_
          refine x_tn ?_
          refine x_reg ?_
          refine o_inc F rfl rfl rfl ink19 (fun a F => ?_)
          refine o_move F rfl rfl (fun a F => ?_)
          refine x_end ?_
          refine x_tn ?_
          replace hR := l_go hR hn16
          exact ⟨_, Nat.lt_succ_self _, k19 + 1, rest20, ⟨hd23.1, hd23.2.2⟩, rfl, hR, F.sub (sc rfl (sc rfl (sc rfl (sc rfl sn)))), hB⟩
  · intro a w ⟨ho15, F, hB⟩
    subst ho15
    have hR := then_nx hk14
    refine x_tn ?_
    refine x_seq ?_
    refine x_reg ?_
    refine o_assign F rfl rfl (fun a F => ?_)
    refine x_end ?_
    refine x_tn ?_
    refine x_ret ?_
    refine x_res1 F rfl (rv_t F rfl) ?_
    obtain rfl := Option.some.inj hR
    exact ⟨⟨rfl, hB⟩, (show I64 (-1) by decide)⟩

def slices_ContainsFunc_s_s_int64_s_int64 (x0 : List (List Int)) (x1 : (List Int) → Option Bool) : Option Bool :=
  bnd (slices_IndexFunc_s_s_int64_s_int64 x0 x1) fun z1 =>
  some ((decide (0 ≤ z1)))
set_option maxHeartbeats 1000000 in
theorem slices_ContainsFunc_s_s_int64_s_int64_c {x0 : List (List Int)} {x1 : (List Int) → Option Bool} (r : Bool) (hR : slices_ContainsFunc_s_s_int64_s_int64 x0 x1 = some r) {v0 : Value} {b0 : List Nat} {g1 : FuncId} {lb1 : List Value} (w0 : World) (A0 : Rd (Sl 1 (RSl 1 RInt)) w0 v0 x0 b0) (hg1 : ∀ args w, (callFunc g1 args).run Try.prog w = .ok (.enter g1 args) w) (hp1 : ∀ (a0 : List Int) (r : Bool), x1 a0 = some r → ∀ W, Below w0.heap.size w0 W → ∀ (u0 : Value) (c0 : List Nat), Rd (Sl 1 RInt) W u0 a0 c0 → Calls Try.prog g1 ([u0] ++ lb1 : List Value).toArray W (Says (.bool r) W)) : Calls Try.prog 141 #[v0, .func (.func g1) #[] lb1.toArray] w0 (Says (.bool r) w0) := by
  unfold slices_ContainsFunc_s_s_int64_s_int64 at hR
  refine x_enter (L := [(0, v0), (1, .func (.func g1) #[] lb1.toArray)]) Try.func141 rfl rfl rfl (sc rfl (sc rfl sn)) (fun a F => ?_)
  have hB := Below.refl w0.heap.size w0
  refine x_seq ?_
  refine x_reg ?_
  refine o_assign F rfl rfl (fun a F => ?_)
  refine x_end ?_
  refine x_tn ?_
  refine x_seq ?_
  refine x_reg ?_
  refine o_move F rfl rfl (fun a F => ?_)
  refine o_move F rfl rfl (fun a F => ?_)
  obtain ⟨z1, c2, hR⟩ := bnd_some hR
  refine o_saysI F rfl Try.call166 rfl (slices_IndexFunc_s_s_int64_s_int64_c z1 c2 _ (A0.go hB) hg1 (fun a0 r h W l => hp1 a0 r h W (hB.through' l))) (fun a w l iz1 F => ?_)
  replace hB := Below.through l hB
  refine o_geq F rfl rfl rfl (fun a F => ?_)
  refine o_assign F rfl rfl (fun a F => ?_)
  refine x_end ?_
  refine x_tn ?_
  refine x_ret ?_
  refine x_res1 F rfl (rv_t F rfl) ?_
  obtain rfl := Option.some.inj hR
  exact ⟨rfl, hB⟩

def impl_equationsOver (N : Nat) (x0 : Rel) : Option (List (List Int)) :=
  bnd (ck (x0.arity + 1)) fun z15 =>
  bnd (impl_power 2 z15) fun z17 =>
  thn (σ := (List (List Int))) (
    forI (σ := (List (List Int))) (ρ := (List (List Int))) (fun (k179 : Nat) (s163 : (List (List Int))) =>
      bnd (impl_listOf N 2 z15 (1 + (k179 : Int))) fun z185 =>
      bnd (sl z185 0 x0.arity) fun z198 =>
      bnd (ix z185 x0.arity) fun z204 =>
      bnd (slices_ContainsFunc_s_s_int64_s_int64 x0.tuples (fun a0 => impl_equationsOver_1 a0 (Equation.mk z198 z204))) fun z223 =>
      if (!z223) then
        bnd (ap s163 ([z185])) fun z237 =>
        some (.go z237)
      else
        some (.go s163)) (z17 - 1).toNat 0 []) fun s172 =>
  some s172
set_option maxHeartbeats 1000000 in
theorem impl_equationsOver_c {N : Nat} {x0 : Rel} (r : (List (List Int))) (hR : impl_equationsOver N x0 = some r) {v0 : Value} {b0 : List Nat} (w0 : World) (A0 : Rd (Agg 2 RRel) w0 v0 x0 b0) : Calls Try.prog 83 #[v0] w0 (Gives (fun v w' => ∃ (v1' : Value) (rb2' : List Nat) (ib3' : List Nat), v = v1' ∧ Row 1 (RSl 1 RInt) 34 w0.heap.size w' v1' r rb2' ib3' ∧ Own w0.heap.size ib3' w') w0) := by
  unfold impl_equationsOver at hR
  refine x_enter (L := [(0, v0)]) Try.func83 rfl rfl rfl (sc rfl sn) (fun a F => ?_)
  have hB := Below.refl w0.heap.size w0
  refine x_seq ?_
  refine x_reg ?_
  obtain ⟨v4, b5, e7, i3, h6, _⟩ := RRel.rd (A0.go hB)
  subst e7
  refine o_box F rfl rfl rfl (fun a w b1 K2 l BK2 F => ?_)
  have d8 := (dj1 h6.m BK2).symm
  have CK2 := Nat.le_trans hB.size BK2
  replace hB := Below.through l hB
  replace h6 := h6.go l
  refine o_assign F rfl rfl (fun a F => ?_)
  refine x_end ?_
  refine x_tn ?_
  refine x_seq ?_
  refine x_reg ?_
  refine o_lit0 (R := (RSl 1 RInt)) Try.underlying52 Try.sizeOf34 F rfl (fun a w v9 rb10 h11 l F => ?_)
  have d13 := Dj.new h6.m h11.ownR (Nat.le_refl _)
  have d14 := Dj.new (inm1 K2) h11.ownR (Nat.le_refl _)
  replace h11 := h11.base hB.size
  replace hB := Below.through l hB
  replace h6 := h6.go l
  replace K2 := K2.thru l
  refine o_assign F rfl rfl (fun a F => ?_)
  refine x_end ?_
  refine x_tn ?_
  refine x_seq ?_
  refine x_seq ?_
  refine x_reg ?_
  refine o_assign F rfl rfl (fun a F => ?_)
  refine x_end ?_
  refine x_tn ?_
  obtain ⟨z15, c16, hR⟩ := bnd_some hR
  obtain ⟨z17, c18, hR⟩ := bnd_some hR
  obtain ⟨o157, hR, hk158⟩ := thn_some hR
  refine x_cutQ (fun a w => ∃ (s172 : List (List Int)) (v174 : Value) (rb175 : List Nat) (ib177 : List Nat), o157 = .nx s172 ∧ Sk a 41 [(3, v174)] ∧ Below w0.heap.size w0 w ∧ Row 1 (RSl 1 RInt) 34 w0.heap.size w v174 s172 rb175 ib177 ∧ Own w0.heap.size ib177 w) ?_ ?_
  · refine x_blk ?_
    obtain ⟨fl161, hf162, hR⟩ := forI_gen hR
    refine x_loop (fun g a w => ∃ (k179 : Nat) (s163 : List (List Int)) (v165 : Value) (rb166 : List Nat) (ib168 : List Nat), k179 + g = (z17 - 1).toNat ∧ forI fl161 g k179 s163 = some o157 ∧ Sk a 41 [(4, .int .i64 (1 + (k179 : Int))), (1, .pointer (some ⟨b1, 0, none⟩)), (3, v165)] ∧ Below w0.heap.size w0 w ∧ Row 1 (RSl 1 RInt) 34 w0.heap.size w v165 s163 rb166 ib168 ∧ Own w0.heap.size ib168 w ∧ Rd (Sl 1 (RSl 1 RInt)) w v4 x0.tuples b5 ∧ Blk w b1 #[.int .i64 x0.arity, v4] 58 ∧ Dj b5 rb166 ∧ Dj (rb166 ++ ib168) [b1]) (z17 - 1).toNat ?_ ?_
    · exact ⟨0, [], v9, rb10, [], (Nat.zero_add _), hR, F.sub (sc rfl (sc rfl (sc rfl sn))), hB, h11, (Own.nil _ _), h6, K2, d13, (Dj.app' (Dj.symm d14) (Dj.nil' _))⟩
    · intro g182 a w ⟨k179, s163, v165, rb166, ib168, hd183, hR, F, hB, h167, ow169, h6, K2, d170, d171⟩
      cases g182 with
      | zero =>
        replace hR := forI_zero hR
        have hlk179 := dec_noIO hd183
        refine x_seq ?_
        refine x_seq ?_
        refine x_reg ?_
        refine o_move F rfl rfl (fun a F => ?_)
        refine o_bfield fa58_0 F rfl rfl rfl (fun a F => ?_)
        refine o_bload Try.isAgg2 F rfl rfl K2 rfl (fun a F => ?_)
        refine o_add F rfl rfl rfl c16 (fun a F => ?_)
        refine o_saysI F rfl Try.call139 rfl (impl_power_c z17 c18 _ (show I64 (2) by decide) (ck64 c16)) (fun a w l iz17 F => ?_)
        replace hB := Below.through l hB
        replace h6 := h6.go l
        replace h167 := h167.go l
        replace ow169 := ow169.go l
        replace K2 := K2.thru l
        refine o_lss F rfl rfl rfl (fun a F => ?_)
        refine x_end ?_
        refine x_tn ?_
        refine x_ifF F rfl hlk179 ?_
        refine x_exit ?_
        refine x_te ?_
        refine x_te ?_
        refine x_be ?_
        refine x_tn ?_
        exact ⟨s163, v165, rb166, ib168, (Option.some.inj hR).symm, F.sub (sc rfl sn), hB, h167, ow169⟩
      | succ g182 =>
        obtain ⟨ck179, hR, hn160⟩ := forI_succ hR
        rw [hf162] at hR
        have hlk179 := dec_yesIO hd183
        refine x_seq ?_
        refine x_seq ?_
        refine x_reg ?_
        refine o_move F rfl rfl (fun a F => ?_)
        refine o_bfield fa58_0 F rfl rfl rfl (fun a F => ?_)
        refine o_bload Try.isAgg2 F rfl rfl K2 rfl (fun a F => ?_)
        refine o_add F rfl rfl rfl c16 (fun a F => ?_)
        refine o_saysI F rfl Try.call139 rfl (impl_power_c z17 c18 _ (show I64 (2) by decide) (ck64 c16)) (fun a w l iz17 F => ?_)
        replace hB := Below.through l hB
        replace h6 := h6.go l
        replace h167 := h167.go l
        replace ow169 := ow169.go l
        replace K2 := K2.thru l
        refine o_lss F rfl rfl rfl (fun a F => ?_)
        refine x_end ?_
        refine x_tn ?_
        refine x_ifT F rfl hlk179 ?_
        refine x_skip ?_
        refine x_tn ?_
        refine x_seq ?_
        have ikk179 := k64O hd183 (show I64 (1) by decide) iz17
        have ink179 := inc64O hd183 (show I64 (1) by decide) iz17
        refine x_blk ?_
        refine x_seq ?_
        refine x_reg ?_
        refine o_bfield fa58_0 F rfl rfl rfl (fun a F => ?_)
        refine o_bload Try.isAgg2 F rfl rfl K2 rfl (fun a F => ?_)
        refine o_add F rfl rfl rfl c16 (fun a F => ?_)
        refine o_move F rfl rfl (fun a F => ?_)
        obtain ⟨z185, c186, hR⟩ := bnd_some hR
        refine o_gives F rfl Try.call140 rfl (impl_listOf_c z185 c186 _ (show I64 (2) by decide) (ck64 c16) ikk179) (fun a vv w l ⟨v187, rb188, hv191, h190⟩ F => ?_)
        subst vv
        have d193 := Dj.new h6.m h190.ownR (Nat.le_refl _)
        have d194 := Dj.new h167.rd.m h190.ownR (Nat.le_refl _)
        have d195 := Dj.new (inm1 K2) h190.ownR (Nat.le_refl _)
        have d196 := Dj.app' (Dj.new h167.memR h190.ownR (Nat.le_refl _)).symm (Dj.nil' _)
        have d197 := Dj.app' (Dj.new h167.mem h190.ownR (Nat.le_refl _)).symm (Dj.nil' _)
        replace h190 := h190.base hB.size
        replace hB := Below.through l hB
        replace h6 := h6.go l
        replace h167 := h167.go l
        replace ow169 := ow169.go l
        replace K2 := K2.thru l
        refine o_assign F rfl rfl (fun a F => ?_)
        refine x_end ?_
        refine x_tn ?_
        refine x_seq ?_
        refine x_drawn (by kernel_rfl) (fun w l => ?_)
        replace hB := Below.through l hB
        replace h6 := h6.go l
        replace h167 := h167.go l
        replace ow169 := ow169.go l
        replace h190 := h190.go l
        replace K2 := K2.thru l
        refine b_q 0 rfl (by kernel_rfl) (by kernel_rfl) (by kernel_rfl) ?_
        refine v_val F rfl (fun w l => r_move F rfl) (fun a F => ?_)
        refine b_q 1 rfl (by kernel_rfl) (by kernel_rfl) (by kernel_rfl) ?_
        refine v_val F rfl (fun w l => r_bfield fa58_0 F rfl rfl) (fun a F => ?_)
        refine b_q 2 rfl (by kernel_rfl) (by kernel_rfl) (by kernel_rfl) ?_
        refine v_val F rfl (fun w l => r_load1 Try.isAgg2 F rfl (((K2.thru l).cell _).trans rfl)) (fun a F => ?_)
        refine b_q 3 rfl (by kernel_rfl) (by kernel_rfl) (by kernel_rfl) ?_
        obtain ⟨z198, c199, hR⟩ := bnd_some hR
        refine v_sliceh Try.underlying34 Try.sizeOf2 F rfl rfl rfl h190.rd c199 (fun a v200 b201 h202 s203 F => ?_)
        refine b_q 4 rfl (by kernel_rfl) (by kernel_rfl) (by kernel_rfl) ?_
        refine v_val F rfl (fun w l => r_move F rfl) (fun a F => ?_)
        refine b_q 5 rfl (by kernel_rfl) (by kernel_rfl) (by kernel_rfl) ?_
        refine v_val F rfl (fun w l => r_bfield fa58_0 F rfl rfl) (fun a F => ?_)
        refine b_q 6 rfl (by kernel_rfl) (by kernel_rfl) (by kernel_rfl) ?_
        refine v_val F rfl (fun w l => r_load1 Try.isAgg2 F rfl (((K2.thru l).cell _).trans rfl)) (fun a F => ?_)
        refine b_q 7 rfl (by kernel_rfl) (by kernel_rfl) (by kernel_rfl) ?_
        obtain ⟨z204, c205, hR⟩ := bnd_some hR
        refine v_index Try.underlying34 Try.sizeOf2 F rfl rfl rfl h190.rd c205 (fun a p206 b207 h208 s209 F => ?_)
        refine b_q 8 rfl (by kernel_rfl) (by kernel_rfl) (by kernel_rfl) ?_
        have i210 := (h208).i64
        refine v_val F rfl (fun w l => r_loadI Try.isAgg2 F rfl ((h208).go l)) (fun a F => ?_)
        refine b_q 9 rfl (by kernel_rfl) (by kernel_rfl) (by kernel_rfl) ?_
        refine v_val F rfl (fun w l => r_build Try.underlying181 Try.zeroValue181 (fun w => by simp [Try.sizeOf2, Try.sizeOf34]; rfl) F rfl rfl rfl rfl (oc (h202).r.one (oc rfl on)) rfl rfl) (fun a F => ?_)
        have h211 := REquation.mk2 (w := w) h202 i210
        refine b_e 10 rfl (by kernel_rfl) ?_
        refine o_alloc Try.zeroValue181 F rfl rfl (fun a w b212 K213 l BK213 F => ?_)
        have d214 := dj1 h167.memR BK213
        have d215 := dj1 h190.memR BK213
        have nb216 := Dj.bb K2 BK213
        have d217 := (dj1 h6.m BK213).symm
        have d218 := (dj1 h202.m BK213).symm
        have d219 := (dj1 h208.m BK213).symm
        have d220 := (dj1 h211.m BK213).symm
        have d221 := (dj1 h167.rd.m BK213).symm
        have d222 := (dj1 h190.rd.m BK213).symm
        have CK213 := Nat.le_trans hB.size BK213
        replace hB := Below.through l hB
        replace h6 := h6.go l
        replace h167 := h167.go l
        replace ow169 := ow169.go l
        replace h190 := h190.go l
        replace h202 := h202.go l
        replace h211 := h211.go l
        replace K2 := K2.thru l
        refine x_end ?_
        refine x_tn ?_
        refine ⟨.inl l, ?_⟩
        refine b_e 11 rfl (by kernel_rfl) ?_
        refine o_bstoreA (vs := [v200, .int .i64 z204]) Try.sizeOf181 F rfl rfl rfl K213 (oc (h202).r.one (oc rfl on)) (Nat.le_of_ble_eq_true rfl) rfl (fun w K213 l => ?_)
        replace hB := hB.o l (fun c hc => by rw [List.mem_singleton] at hc; rw [hc]; exact CK213) hB.size
        replace h6 := h6.goO l d217
        replace h167 := h167.goO l d221
        replace ow169 := ow169.goO l d221.r
        replace h190 := h190.goO l d222
        replace h202 := h202.goO l d218
        replace K2 := K2.only l (by simpa using nb216)
        refine x_end ?_
        refine x_tn ?_
        refine ⟨.inr (by kernel_rfl), ?_⟩
        refine b_end (by kernel_rfl) ?_
        refine x_tn ?_
        refine x_seq ?_
        refine x_reg ?_
        refine o_bfield fa58_1 F rfl rfl rfl (fun a F => ?_)
        refine o_bload Try.isAgg52 F rfl rfl K2 rfl (fun a F => ?_)
        refine o_func F rfl rfl rfl (fun a F => ?_)
        obtain ⟨z223, c224, hR⟩ := bnd_some hR
        refine o_says F rfl Try.call141 rfl (slices_ContainsFunc_s_s_int64_s_int64_c z223 c224 _ h6 Try.call142 (fun a0 r h W l u0 c0 f0 => impl_equationsOver_1_c r h W f0 ((REquation.blk K213 h202 i210).go l))) (fun a w l F => ?_)
        replace hB := Below.through l hB
        replace h6 := h6.go l
        replace h167 := h167.go l
        replace ow169 := ow169.go l
        replace h190 := h190.go l
        replace K2 := K2.thru l
        refine o_not F rfl rfl (fun a F => ?_)
        refine x_end ?_
        refine x_tn ?_
        refine x_if F rfl (fun hb225 => ?_) (fun hb225 => ?_)
        · replace hR := ifT hb225 hR
          refine x_reg ?_
          refine o_move F rfl rfl (fun a F => ?_)
          refine o_move F rfl rfl (fun a F => ?_)
          refine o_lit1 (R := (RSl 1 RInt)) (y := z185) Try.underlying52 Try.sizeOf34 Try.zeroValue34 rfl (by decide) (by decide) F rfl rfl (El.sl h190.rd) (fun a w v226 rb227 h228 l F => ?_)
          have ow229 := Own.go (h190.own (Own.nil _ _)) l
          have d231 := Dj.new h6.m h228.ownR (Nat.le_refl _)
          have d232 := Dj.new h167.rd.m h228.ownR (Nat.le_refl _)
          have d233 := Dj.new (inm1 K2) h228.ownR (Nat.le_refl _)
          have d234 := Dj.app' (Dj.new h167.memR h228.ownR (Nat.le_refl _)).symm d196
          have d235 := Dj.app' (Dj.new h167.mem h228.ownR (Nat.le_refl _)).symm d197
          have d236 := Dj.app' (Dj.symm d233) (Dj.app' (Dj.symm d195) (Dj.nil' _))
          replace h228 := h228.base hB.size
          replace hB := Below.through l hB
          replace h6 := h6.go l
          replace h167 := h167.go l
          replace ow169 := ow169.go l
          replace K2 := K2.thru l
          obtain ⟨z237, c238, hR⟩ := bnd_some hR
          refine o_append (sz := 1) (R := (RSl 1 RInt)) (z := ((.slice none 0 0))) (bytes := 24) Try.underlying52 (by kernel_rfl) rfl (by decide) (by decide) (by decide) F rfl rfl rfl h167 h228.src hB.size (Dj.symm d234.r) c238 (fun a w v239 rb240 h241 l keep F => ?_)
          have ow242 := Own.append (Own.goO ow169 l h167.dj.symm) (Own.goO ow229 l (Dj.symm (Dj.symm d234.r))) (Dj.symm d235.r)
          have d244 := keep _ h6.m d170
          have d245 := keep _ (inm1 K2) (Dj.symm (Dj.l d171))
          replace hB := hB.o l h167.lo hB.size
          replace h6 := h6.goO l d170
          replace K2 := K2.only l (Dj.symm (Dj.l d171)).not
          have d246 := Dj.app' (Dj.symm d245) (Dj.app' (Dj.r d171) (Dj.r d236))
          refine o_assign F rfl rfl (fun a F => ?_)
          refine x_end ?_
          refine x_bn ?_
          refine x_tn ?_
          refine x_reg ?_
          refine o_move F rfl rfl (fun a F => ?_)
          refine o_incO F rfl rfl rfl ink179 (fun a F => ?_)
          refine o_assign F rfl rfl (fun a F => ?_)
          refine x_end ?_
          refine x_tn ?_
          replace hR := l_go hR hn160
          exact ⟨_, Nat.lt_succ_self _, k179 + 1, z237, v239, rb240, (ib168 ++ (rb188 ++ [])), (by omega), hR, F.sub (sc rfl (sc rfl (sc rfl sn))), hB, h241, ow242, h6, K2, d244, d246⟩
        · replace hR := ifF hb225 hR
          refine x_skip ?_
          refine x_bn ?_
          refine x_tn ?_
          refine x_reg ?_
          refine o_move F rfl rfl (fun a F => ?_)
          refine o_incO F rfl rfl rfl ink179 (fun a F => ?_)
          refine o_assign F rfl rfl (fun a F => ?_)
          refine x_end ?_
          refine x_tn ?_
          replace hR := l_go hR hn160
          exact ⟨_, Nat.lt_succ_self _, k179 + 1, s163, v165, rb166, ib168, (by omega), hR, F.sub (sc rfl (sc rfl (sc rfl sn))), hB, h167, ow169, h6, K2, d170, d171⟩
  · intro a w ⟨s172, v174, rb175, ib177, ho159, F, hB, h176, ow178⟩
    subst ho159
    have hR := then_nx hk158
    refine x_tn ?_
    refine x_seq ?_
    refine x_reg ?_
    refine o_move F rfl rfl (fun a F => ?_)
    refine o_assign F rfl rfl (fun a F => ?_)
    refine x_end ?_
    refine x_tn ?_
    refine x_ret ?_
    refine x_res1 F rfl (rv_t F rfl) ?_
    obtain rfl := Option.some.inj hR
    exact ⟨_, rfl, hB, v174, rb175, ib177, rfl, h176, ow178⟩

def impl_EquationsOver (N : Nat) (x0 : Rel) : Option ((List (List Int)) × Int) :=
  bnd (impl_ValidRel 2 (Rel.mk x0.arity x0.tuples)) fun z10 =>
  if (!z10) then
    some ([], 1)
  else
    bnd (impl_equationsOver N (Rel.mk x0.arity x0.tuples)) fun z14 =>
    some (z14, 0)
set_option maxHeartbeats 1000000 in
theorem impl_EquationsOver_c {N : Nat} {x0 : Rel} (r : (List (List Int)) × Int) (hR : impl_EquationsOver N x0 = some r) {v0 : Value} {b0 : List Nat} (w0 : World) (A0 : Rd (Agg 2 RRel) w0 v0 x0 b0) : Calls Try.prog 31 #[v0] w0 (Gives (fun v w' => ∃ (v1' : Value) (rb2' : List Nat) (ib3' : List Nat), v = .tuple #[v1', .int .i64 r.2] ∧ Row 1 (RSl 1 RInt) 34 w0.heap.size w' v1' r.1 rb2' ib3' ∧ Own w0.heap.size ib3' w' ∧ I64 r.2) w0) := by
  unfold impl_EquationsOver at hR
  refine x_enter (L := [(0, v0)]) Try.func31 rfl rfl rfl (sc rfl sn) (fun a F => ?_)
  have hB := Below.refl w0.heap.size w0
  refine x_seq ?_
  refine x_reg ?_
  obtain ⟨v4, b5, e7, i3, h6, _⟩ := RRel.rd (A0.go hB)
  subst e7
  refine o_box F rfl rfl rfl (fun a w b1 K2 l BK2 F => ?_)
  have d8 := (dj1 h6.m BK2).symm
  have CK2 := Nat.le_trans hB.size BK2
  replace hB := Below.through l hB
  replace h6 := h6.go l
  refine o_assign F rfl rfl (fun a F => ?_)
  refine o_assign F rfl rfl (fun a F => ?_)
  refine x_end ?_
  refine x_tn ?_
  refine x_seq ?_
  refine x_seq ?_
  refine x_reg ?_
  refine o_bloadA (cs := [.int .i64 x0.arity, v4]) Try.isAgg58 Try.sizeOf58 F rfl rfl K2 rfl (fun j hj => by match j, hj with | 0, _ => rfl | 1, _ => rfl) (fun a F => ?_)
  have h9 := RRel.mk2 (w := w) i3 h6
  obtain ⟨z10, c11, hR⟩ := bnd_some hR
  refine o_says F rfl Try.call82 rfl (impl_ValidRel_c z10 c11 _ (show I64 (2) by decide) h9) (fun a w l F => ?_)
  replace hB := Below.through l hB
  replace h6 := h6.go l
  replace K2 := K2.thru l
  refine o_not F rfl rfl (fun a F => ?_)
  refine x_end ?_
  refine x_tn ?_
  refine x_if F rfl (fun hb12 => ?_) (fun hb12 => ?_)
  · replace hR := ifT hb12 hR
    refine x_seq ?_
    refine x_reg ?_
    refine o_assign F rfl rfl (fun a F => ?_)
    refine o_assign F rfl rfl (fun a F => ?_)
    refine x_end ?_
    refine x_tn ?_
    refine x_ret ?_
    refine x_tr ?_
    refine x_res2 F rfl (rv_t F rfl) (rv_t F rfl) ?_
    obtain rfl := Option.some.inj hR
    exact ⟨_, rfl, hB, (.slice none 0 0), [], [], rfl, Row.nil 1 (RSl 1 RInt) 34 _ _, Own.nil _ _, (show I64 (1) by decide)⟩
  · replace hR := ifF hb12 hR
    refine x_skip ?_
    refine x_tn ?_
    refine x_seq ?_
    refine x_reg ?_
    refine o_bloadA (cs := [.int .i64 x0.arity, v4]) Try.isAgg58 Try.sizeOf58 F rfl rfl K2 rfl (fun j hj => by match j, hj with | 0, _ => rfl | 1, _ => rfl) (fun a F => ?_)
    have h13 := RRel.mk2 (w := w) i3 h6
    obtain ⟨z14, c15, hR⟩ := bnd_some hR
    refine o_gives F rfl Try.call83 rfl (impl_equationsOver_c z14 c15 _ h13) (fun a vv w l ⟨v16, rb17, ib18, hv21, h19, ow20⟩ F => ?_)
    subst vv
    have o22 := h19.own ow20
    have d23 := (Dj.new (inm1 K2) o22 (Nat.le_refl _)).symm
    replace h19 := h19.base hB.size
    replace ow20 := ow20.mono hB.size
    replace hB := Below.through l hB
    refine o_assign F rfl rfl (fun a F => ?_)
    refine o_assign F rfl rfl (fun a F => ?_)
    refine x_end ?_
    refine x_tn ?_
    refine x_ret ?_
    refine x_res2 F rfl (rv_t F rfl) (rv_t F rfl) ?_
    obtain rfl := Option.some.inj hR
    exact ⟨_, rfl, hB, v16, rb17, ib18, rfl, h19, ow20, (show I64 (0) by decide)⟩

def impl_ValidTemplate_1 (x0 : Rel) (y0 : Template) : Option Bool :=
  bnd (impl_ValidRel y0.size (Rel.mk x0.arity x0.tuples)) fun z15 =>
  some ((!z15))
set_option maxHeartbeats 1000000 in
theorem impl_ValidTemplate_1_c {x0 : Rel} {y0 : Template} (r : Bool) (hR : impl_ValidTemplate_1 x0 y0 = some r) {v0 : Value} {b0 : List Nat} {v1 : Value} {b1 : List Nat} (w0 : World) (A0 : Rd (Agg 2 RRel) w0 v0 x0 b0) (A1 : Rd (Pt 2 RTemplate) w0 v1 y0 b1) : Calls Try.prog 154 #[v0, v1] w0 (Says (.bool r) w0) := by
  unfold impl_ValidTemplate_1 at hR
  refine x_enter (L := [(0, v0), (1, v1)]) Try.func154 rfl rfl rfl (sc rfl (sc rfl sn)) (fun a F => ?_)
  have hB := Below.refl w0.heap.size w0
  refine x_seq ?_
  refine x_reg ?_
  obtain ⟨v4, b5, e7, i3, h6, _⟩ := RRel.rd (A0.go hB)
  subst e7
  refine o_box F rfl rfl rfl (fun a w b1 K2 l BK2 F => ?_)
  have d8 := (dj1 h6.m BK2).symm
  have CK2 := Nat.le_trans hB.size BK2
  replace hB := Below.through l hB
  replace h6 := h6.go l
  refine o_assign F rfl rfl (fun a F => ?_)
  refine x_end ?_
  refine x_tn ?_
  refine x_seq ?_
  refine x_reg ?_
  refine o_field (s' := 1) fa87_0 F rfl rfl (A1.go hB) RTemplate.f0 (fun a p9 b10 h11 s12 F => ?_)
  have i13 := (h11).i64
  refine o_loadI Try.isAgg2 F rfl rfl h11 (fun a F => ?_)
  refine o_bloadA (cs := [.int .i64 x0.arity, v4]) Try.isAgg58 Try.sizeOf58 F rfl rfl K2 rfl (fun j hj => by match j, hj with | 0, _ => rfl | 1, _ => rfl) (fun a F => ?_)
  have h14 := RRel.mk2 (w := w) i3 h6
  obtain ⟨z15, c16, hR⟩ := bnd_some hR
  refine o_says F rfl Try.call82 rfl (impl_ValidRel_c z15 c16 _ i13 h14) (fun a w l F => ?_)
  replace hB := Below.through l hB
  refine o_not F rfl rfl (fun a F => ?_)
  refine o_assign F rfl rfl (fun a F => ?_)
  refine x_end ?_
  refine x_tn ?_
  refine x_ret ?_
  refine x_res1 F rfl (rv_t F rfl) ?_
  obtain rfl := Option.some.inj hR
  exact ⟨rfl, hB⟩

def slices_IndexFunc_s_Rel_Rel (x0 : List Rel) (x1 : Rel → Option Bool) : Option Int :=
  thn (σ := Unit) (
    forL (σ := Unit) (ρ := Int) (fun (k19 : Nat) (x21 : Rel) (s : Unit) =>
      match s with
      | _ =>
        bnd (x1 x21) fun z33 =>
        if z33 then
          some (.ret ((k19 : Int)))
        else
          some (.go ())) x0 0 ()) fun _ =>
  some ((-1))
set_option maxHeartbeats 1000000 in
theorem slices_IndexFunc_s_Rel_Rel_c {x0 : List Rel} {x1 : Rel → Option Bool} (r : Int) (hR : slices_IndexFunc_s_Rel_Rel x0 x1 = some r) {v0 : Value} {b0 : List Nat} {g1 : FuncId} {lb1 : List Value} (w0 : World) (A0 : Rd (Sl 2 RRel) w0 v0 x0 b0) (hg1 : ∀ args w, (callFunc g1 args).run Try.prog w = .ok (.enter g1 args) w) (hp1 : ∀ (a0 : Rel) (r : Bool), x1 a0 = some r → ∀ W, Below w0.heap.size w0 W → ∀ (u0 : Value) (c0 : List Nat), Rd (Agg 2 RRel) W u0 a0 c0 → Calls Try.prog g1 ([u0] ++ lb1 : List Value).toArray W (Says (.bool r) W)) : Calls Try.prog 167 #[v0, .func (.func g1) #[] lb1.toArray] w0 (SaysI r w0) := by
  unfold slices_IndexFunc_s_Rel_Rel at hR
  refine x_enter (L := [(0, v0), (1, .func (.func g1) #[] lb1.toArray)]) Try.func167 rfl rfl rfl (sc rfl (sc rfl sn)) (fun a F => ?_)
  have hB := Below.refl w0.heap.size w0
  refine x_seq ?_
  refine x_reg ?_
  refine o_assign F rfl rfl (fun a F => ?_)
  refine x_end ?_
  refine x_tn ?_
  refine x_seq ?_
  refine x_seq ?_
  refine x_reg ?_
  refine o_move F rfl rfl (fun a F => ?_)
  refine o_len Try.underlying85 F rfl rfl (A0.go hB) (fun a F => ?_)
  have i1 := ((A0.go hB)).r.len64
  refine o_move F rfl rfl (fun a F => ?_)
  refine x_end ?_
  refine x_tn ?_
  obtain ⟨o13, hR, hk14⟩ := thn_some hR
  refine x_cutQ (fun a w => o13 = .nx () ∧ Sk a 19 [] ∧ Below w0.heap.size w0 w) ?_ ?_
  · refine x_blk ?_
    obtain ⟨fl17, hf18, hR⟩ := forL_gen hR
    refine x_loop (fun g a w => ∃ (k19 : Nat) (rest20 : List Rel), (k19 ≤ x0.length ∧ x0.drop k19 = rest20) ∧ rest20.length = g ∧ forL fl17 rest20 k19 () = some o13 ∧ Sk a 19 [(8, .int .i64 (k19 : Int)), (0, v0), (1, .func (.func g1) #[] lb1.toArray), (7, .int .i64 (x0.length : Int))] ∧ Below w0.heap.size w0 w) x0.length ?_ ?_
    · exact ⟨0, x0, ⟨Nat.zero_le _, rfl⟩, rfl, hR, F.sub (sc rfl (sc rfl (sc rfl (sc rfl sn)))), hB⟩
    · intro g22 a w ⟨k19, rest20, hd23, hg24, hR, F, hB⟩
      cases rest20 with
      | nil =>
        replace hR := forL_nil hR
        have hkk19 := drop_nil hd23.1 hd23.2
        have hlk19 := dec_no hkk19
        refine x_seq ?_
        refine x_reg ?_
        refine o_lss F rfl rfl rfl (fun a F => ?_)
        refine x_end ?_
        refine x_tn ?_
        refine x_seq ?_
        refine x_ifF F rfl hlk19 ?_
        refine x_exit ?_
        refine x_te ?_
        refine x_te ?_
        refine x_be ?_
        refine x_tn ?_
        exact ⟨(Option.some.inj hR).symm, F.sub sn, hB⟩
      | cons x21 rest20 =>
        subst hg24
        replace hd23 := drop_cons hd23.2
        have hxk19 := ix_nat hd23.2.1
        obtain ⟨ck19, hR, hn16⟩ := forL_cons hR
        rw [hf18] at hR
        have hlk19 := dec_yes hd23.1
        refine x_seq ?_
        refine x_reg ?_
        refine o_lss F rfl rfl rfl (fun a F => ?_)
        refine x_end ?_
        refine x_tn ?_
        refine x_seq ?_
        refine x_ifT F rfl hlk19 ?_
        refine x_skip ?_
        refine x_tn ?_
        refine x_seq ?_
        have ikk19 := k64 (Nat.le_of_lt hd23.1) i1
        have ink19 := inc64 hd23.1 i1
        refine x_blk ?_
        refine x_seq ?_
        refine x_reg ?_
        refine o_move F rfl rfl (fun a F => ?_)
        refine o_assign F rfl rfl (fun a F => ?_)
        refine x_end ?_
        refine x_tn ?_
        refine x_seq ?_
        refine x_reg ?_
        refine o_move F rfl rfl (fun a F => ?_)
        refine o_move F rfl rfl (fun a F => ?_)
        refine o_move F rfl rfl (fun a F => ?_)
        refine o_index Try.underlying85 Try.sizeOf58 F rfl rfl rfl (A0.go hB) hxk19 (fun a p25 b26 h27 s28 F => ?_)
        refine o_loadA Try.isAgg58 Try.sizeOf58 F rfl rfl h27 (fun a v29 b30 h31 s32 F => ?_)
        obtain ⟨z33, c34, hR⟩ := bnd_some hR
        refine o_saysV F rfl rfl hg1 rfl (hp1 _ z33 c34 _ hB _ _ h31) (fun a w l F => ?_)
        replace hB := Below.through l hB
        refine x_end ?_
        refine x_tn ?_
        refine x_if F rfl (fun hb35 => ?_) (fun hb35 => ?_)
        · replace hR := ifT hb35 hR
          refine x_seq ?_
          refine x_reg ?_
          refine o_move F rfl rfl (fun a F => ?_)
          refine o_assign F rfl rfl (fun a F => ?_)
          refine x_end ?_
          refine x_tn ?_
          refine x_ret ?_
          refine x_br ?_
          refine x_tr ?_
          refine x_tr ?_
          replace hR := l_ret hR hn16
          refine x_br ?_
          refine x_tr ?_
          replace hR := j_ret hR hk14
          refine x_tr ?_
          refine x_res1 F rfl (rv_t F rfl) ?_
          obtain rfl := Option.some.inj hR
          exact ⟨⟨rfl, hB⟩, ikk19⟩
        · replace hR := ifF hb35 hR
          refine x_skip ?_
          refine x_bn ?_
          refine x_tn ?_
          refine x_reg ?_
          refine o_inc F rfl rfl rfl ink19 (fun a F => ?_)
          refine o_move F rfl rfl (fun a F => ?_)
          refine x_end ?_
          refine x_tn ?_
          replace hR := l_go hR hn16
          exact ⟨_, Nat.lt_succ_self _, k19 + 1, rest20, ⟨hd23.1, hd23.2.2⟩, rfl, hR, F.sub (sc rfl (sc rfl (sc rfl (sc rfl sn)))), hB⟩
  · intro a w ⟨ho15, F, hB⟩
    subst ho15
    have hR := then_nx hk14
    refine x_tn ?_
    refine x_seq ?_
    refine x_reg ?_
    refine o_assign F rfl rfl (fun a F => ?_)
    refine x_end ?_
    refine x_tn ?_
    refine x_ret ?_
    refine x_res1 F rfl (rv_t F rfl) ?_
    obtain rfl := Option.some.inj hR
    exact ⟨⟨rfl, hB⟩, (show I64 (-1) by decide)⟩

def slices_ContainsFunc_s_Rel_Rel (x0 : List Rel) (x1 : Rel → Option Bool) : Option Bool :=
  bnd (slices_IndexFunc_s_Rel_Rel x0 x1) fun z1 =>
  some ((decide (0 ≤ z1)))
set_option maxHeartbeats 1000000 in
theorem slices_ContainsFunc_s_Rel_Rel_c {x0 : List Rel} {x1 : Rel → Option Bool} (r : Bool) (hR : slices_ContainsFunc_s_Rel_Rel x0 x1 = some r) {v0 : Value} {b0 : List Nat} {g1 : FuncId} {lb1 : List Value} (w0 : World) (A0 : Rd (Sl 2 RRel) w0 v0 x0 b0) (hg1 : ∀ args w, (callFunc g1 args).run Try.prog w = .ok (.enter g1 args) w) (hp1 : ∀ (a0 : Rel) (r : Bool), x1 a0 = some r → ∀ W, Below w0.heap.size w0 W → ∀ (u0 : Value) (c0 : List Nat), Rd (Agg 2 RRel) W u0 a0 c0 → Calls Try.prog g1 ([u0] ++ lb1 : List Value).toArray W (Says (.bool r) W)) : Calls Try.prog 153 #[v0, .func (.func g1) #[] lb1.toArray] w0 (Says (.bool r) w0) := by
  unfold slices_ContainsFunc_s_Rel_Rel at hR
  refine x_enter (L := [(0, v0), (1, .func (.func g1) #[] lb1.toArray)]) Try.func153 rfl rfl rfl (sc rfl (sc rfl sn)) (fun a F => ?_)
  have hB := Below.refl w0.heap.size w0
  refine x_seq ?_
  refine x_reg ?_
  refine o_assign F rfl rfl (fun a F => ?_)
  refine x_end ?_
  refine x_tn ?_
  refine x_seq ?_
  refine x_reg ?_
  refine o_move F rfl rfl (fun a F => ?_)
  refine o_move F rfl rfl (fun a F => ?_)
  obtain ⟨z1, c2, hR⟩ := bnd_some hR
  refine o_saysI F rfl Try.call167 rfl (slices_IndexFunc_s_Rel_Rel_c z1 c2 _ (A0.go hB) hg1 (fun a0 r h W l => hp1 a0 r h W (hB.through' l))) (fun a w l iz1 F => ?_)
  replace hB := Below.through l hB
  refine o_geq F rfl rfl rfl (fun a F => ?_)
  refine o_assign F rfl rfl (fun a F => ?_)
  refine x_end ?_
  refine x_tn ?_
  refine x_ret ?_
  refine x_res1 F rfl (rv_t F rfl) ?_
  obtain rfl := Option.some.inj hR
  exact ⟨rfl, hB⟩

def impl_ValidTemplate (x0 : Template) : Option Bool :=
  thn (σ := Bool) (
    bnd (impl_isSize x0.size) fun z20 =>
    if z20 then   if (decide ((x0.rels.length : Int) ≤ 6)) then   bnd (slices_ContainsFunc_s_Rel_Rel x0.rels (fun a0 => impl_ValidTemplate_1 a0 (Template.mk x0.size x0.rels))) fun z25 =>
        some (.nx (!z25)) else   some (.nx false) else   some (.nx false)) fun s19 =>
  some s19
set_option maxHeartbeats 1000000 in
theorem impl_ValidTemplate_c {x0 : Template} (r : Bool) (hR : impl_ValidTemplate x0 = some r) {v0 : Value} {b0 : List Nat} (w0 : World) (A0 : Rd (Agg 2 RTemplate) w0 v0 x0 b0) : Calls Try.prog 106 #[v0] w0 (Says (.bool r) w0) := by
  unfold impl_ValidTemplate at hR
  refine x_enter (L := [(0, v0)]) Try.func106 rfl rfl rfl (sc rfl sn) (fun a F => ?_)
  have hB := Below.refl w0.heap.size w0
  refine x_seq ?_
  refine x_reg ?_
  obtain ⟨v4, b5, e7, i3, h6, _⟩ := RTemplate.rd (A0.go hB)
  subst e7
  refine o_box F rfl rfl rfl (fun a w b1 K2 l BK2 F => ?_)
  have d8 := (dj1 h6.m BK2).symm
  have CK2 := Nat.le_trans hB.size BK2
  replace hB := Below.through l hB
  replace h6 := h6.go l
  refine o_assign F rfl rfl (fun a F => ?_)
  refine x_end ?_
  refine x_tn ?_
  refine x_seq ?_
  obtain ⟨o16, hR, hk17⟩ := thn_some hR
  refine x_cutQ (fun a w => ∃ (s19 : Bool), o16 = .nx s19 ∧ Sk a 19 [(2, .bool s19)] ∧ Below w0.heap.size w0 w) ?_ ?_
  · refine x_reg ?_
    refine o_bfield fa87_0 F rfl rfl rfl (fun a F => ?_)
    refine o_bload Try.isAgg2 F rfl rfl K2 rfl (fun a F => ?_)
    obtain ⟨z20, c21, hR⟩ := bnd_some hR
    refine o_says F rfl Try.call136 rfl (impl_isSize_c z20 c21 _ i3) (fun a w l F => ?_)
    replace hB := Below.through l hB
    replace h6 := h6.go l
    replace K2 := K2.thru l
    refine o_move F rfl rfl (fun a F => ?_)
    rcases bcases z20 with hb22 | hb22
    · replace hR := ifT hb22 hR
      have F := F.eq (t := 6) rfl (congrArg Value.bool hb22)
      refine o_bfield fa87_1 F rfl rfl rfl (fun a F => ?_)
      refine o_bload Try.isAgg85 F rfl rfl K2 rfl (fun a F => ?_)
      refine o_len Try.underlying85 F rfl rfl h6 (fun a F => ?_)
      have i23 := (h6).r.len64
      refine o_leq F rfl rfl rfl (fun a F => ?_)
      refine o_pickt F rfl rfl rfl (fun a F => ?_)
      refine o_move F rfl rfl (fun a F => ?_)
      rcases bcases (decide ((x0.rels.length : Int) ≤ 6)) with hb24 | hb24
      · replace hR := ifT hb24 hR
        have F := F.eq (t := 12) rfl (congrArg Value.bool hb24)
        refine o_bfield fa87_1 F rfl rfl rfl (fun a F => ?_)
        refine o_bload Try.isAgg85 F rfl rfl K2 rfl (fun a F => ?_)
        refine o_func F rfl rfl rfl (fun a F => ?_)
        obtain ⟨z25, c26, hR⟩ := bnd_some hR
        refine o_says F rfl Try.call153 rfl (slices_ContainsFunc_s_Rel_Rel_c z25 c26 _ h6 Try.call154 (fun a0 r h W l u0 c0 f0 => impl_ValidTemplate_1_c r h W f0 ((RTemplate.blk K2 i3 h6).go l))) (fun a w l F => ?_)
        replace hB := Below.through l hB
        refine o_not F rfl rfl (fun a F => ?_)
        refine o_pickt F rfl rfl rfl (fun a F => ?_)
        refine o_assign F rfl rfl (fun a F => ?_)
        refine x_end ?_
        refine x_tn ?_
        exact ⟨(!z25), (Option.some.inj hR).symm, F.sub (sc rfl sn), hB⟩
      · replace hR := ifF hb24 hR
        have F := F.eq (t := 12) rfl (congrArg Value.bool hb24)
        refine o_no F rfl rfl (fun a F => ?_)
        refine o_no F rfl rfl (fun a F => ?_)
        refine o_no F rfl rfl (fun a F => ?_)
        refine o_no F rfl rfl (fun a F => ?_)
        refine o_no F rfl rfl (fun a F => ?_)
        refine o_pickf F rfl rfl rfl (fun a F => ?_)
        refine o_assign F rfl rfl (fun a F => ?_)
        refine x_end ?_
        refine x_tn ?_
        exact ⟨false, (Option.some.inj hR).symm, F.sub (sc rfl sn), hB⟩
    · replace hR := ifF hb22 hR
      have F := F.eq (t := 6) rfl (congrArg Value.bool hb22)
      refine o_no F rfl rfl (fun a F => ?_)
      refine o_no F rfl rfl (fun a F => ?_)
      refine o_no F rfl rfl (fun a F => ?_)
      refine o_no F rfl rfl (fun a F => ?_)
      refine o_pickf F rfl rfl rfl (fun a F => ?_)
      refine o_move F rfl rfl (fun a F => ?_)
      refine o_no F rfl rfl (fun a F => ?_)
      refine o_no F rfl rfl (fun a F => ?_)
      refine o_no F rfl rfl (fun a F => ?_)
      refine o_no F rfl rfl (fun a F => ?_)
      refine o_no F rfl rfl (fun a F => ?_)
      refine o_pickf F rfl rfl rfl (fun a F => ?_)
      refine o_assign F rfl rfl (fun a F => ?_)
      refine x_end ?_
      refine x_tn ?_
      exact ⟨false, (Option.some.inj hR).symm, F.sub (sc rfl sn), hB⟩
  · intro a w ⟨s19, ho18, F, hB⟩
    subst ho18
    have hR := then_nx hk17
    refine x_tn ?_
    refine x_ret ?_
    refine x_res1 F rfl (rv_t F rfl) ?_
    obtain rfl := Option.some.inj hR
    exact ⟨rfl, hB⟩

def impl_AtomFormula (x0 : Template) (x1 : Int) : Option (Formula × Int) :=
  bnd (impl_ValidTemplate (Template.mk x0.size x0.rels)) fun z14 =>
  if (!z14) then
    some ((Formula.mk 0 0 ([])), 1)
  else
    bnd (ck ((x0.rels.length : Int) - 1)) fun z19 =>
    bnd (impl_within x1 0 z19) fun z21 =>
    if (!z21) then
      some ((Formula.mk 0 0 ([])), 2)
    else
      bnd (ix x0.rels x1) fun z25 =>
      bnd (impl_upTo 0 z25.arity) fun z36 =>
      some ((Formula.mk z25.arity z25.arity ([(Atom.mk x1 z36)])), 0)
set_option maxHeartbeats 1000000 in
theorem impl_AtomFormula_c {x0 : Template} {x1 : Int} (r : Formula × Int) (hR : impl_AtomFormula x0 x1 = some r) {v0 : Value} {b0 : List Nat} (w0 : World) (A0 : Rd (Agg 2 RTemplate) w0 v0 x0 b0) (hx1 : I64 x1) : Calls Try.prog 107 #[v0, .int .i64 x1] w0 (Gives (fun v w' => ∃ (v1' : Value) (rb2' : List Nat) (ib3' : List Nat), v = .tuple #[.agg #[.int .i64 r.1.free, .int .i64 r.1.vars, v1'], .int .i64 r.2] ∧ I64 r.1.free ∧ I64 r.1.vars ∧ Row 2 RAtom 174 w0.heap.size w' v1' r.1.atoms rb2' ib3' ∧ Own w0.heap.size ib3' w' ∧ I64 r.2) w0) := by
  unfold impl_AtomFormula at hR
  refine x_enter (L := [(0, v0), (1, .int .i64 x1)]) Try.func107 rfl rfl rfl (sc rfl (sc rfl sn)) (fun a F => ?_)
  have hB := Below.refl w0.heap.size w0
  refine x_seq ?_
  refine x_reg ?_
  obtain ⟨v4, b5, e7, i3, h6, _⟩ := RTemplate.rd (A0.go hB)
  subst e7
  refine o_box F rfl rfl rfl (fun a w b1 K2 l BK2 F => ?_)
  have d8 := (dj1 h6.m BK2).symm
  have CK2 := Nat.le_trans hB.size BK2
  replace hB := Below.through l hB
  replace h6 := h6.go l
  refine o_alloc Try.zeroValue114 F rfl rfl (fun a w b9 K10 l BK10 F => ?_)
  have nb11 := Dj.bb K2 BK10
  have d12 := (dj1 h6.m BK10).symm
  have CK10 := Nat.le_trans hB.size BK10
  replace hB := Below.through l hB
  replace h6 := h6.go l
  replace K2 := K2.thru l
  refine o_assign F rfl rfl (fun a F => ?_)
  refine x_end ?_
  refine x_tn ?_
  refine x_seq ?_
  refine x_blk ?_
  refine x_seq ?_
  refine x_reg ?_
  refine o_bloadA (cs := [.int .i64 x0.size, v4]) Try.isAgg87 Try.sizeOf87 F rfl rfl K2 rfl (fun j hj => by match j, hj with | 0, _ => rfl | 1, _ => rfl) (fun a F => ?_)
  have h13 := RTemplate.mk2 (w := w) i3 h6
  obtain ⟨z14, c15, hR⟩ := bnd_some hR
  refine o_says F rfl Try.call106 rfl (impl_ValidTemplate_c z14 c15 _ h13) (fun a w l F => ?_)
  replace hB := Below.through l hB
  replace h6 := h6.go l
  replace K2 := K2.thru l
  replace K10 := K10.thru l
  refine o_not F rfl rfl (fun a F => ?_)
  refine o_assign F rfl rfl (fun a F => ?_)
  refine x_end ?_
  refine x_tn ?_
  refine x_if F rfl (fun hb16 => ?_) (fun hb16 => ?_)
  · replace hR := ifT hb16 hR
    refine x_seq ?_
    refine x_reg ?_
    refine o_build Try.underlying114 Try.zeroValue114 (fun w => by simp [Try.sizeOf112, Try.sizeOf2]; rfl) F rfl rfl rfl rfl rfl on rfl rfl (fun a F => ?_)
    have h17 := RFormula.mk2 (w := w) (show I64 0 by decide) (show I64 0 by decide) (Rd.nil 2 RAtom _)
    refine o_bstoreA (vs := [.int .i64 0, .int .i64 0, (.slice none 0 0)]) Try.sizeOf114 F rfl rfl rfl K10 (oc rfl (oc rfl (oc rfl on))) (Nat.le_of_ble_eq_true rfl) rfl (fun w K10 l => ?_)
    replace hB := hB.o l (fun c hc => by rw [List.mem_singleton] at hc; rw [hc]; exact CK10) hB.size
    refine o_assign F rfl rfl (fun a F => ?_)
    refine x_end ?_
    refine x_tn ?_
    refine x_ret ?_
    refine x_br ?_
    refine x_tr ?_
    refine x_res2 F rfl (rv_cA (arr := #[.int .i64 0, .int .i64 0, (.slice none 0 0)]) F Try.isAgg114 Try.sizeOf114 rfl K10) (rv_t F rfl) ?_
    obtain rfl := Option.some.inj hR
    exact ⟨_, rfl, hB, (.slice none 0 0), [], [], rfl, (show I64 0 by decide), (show I64 0 by decide), Row.nil 2 RAtom 174 _ _, Own.nil _ _, (show I64 (1) by decide)⟩
  · replace hR := ifF hb16 hR
    refine x_seq ?_
    refine x_reg ?_
    refine o_move F rfl rfl (fun a F => ?_)
    refine o_bfield fa87_1 F rfl rfl rfl (fun a F => ?_)
    refine o_bload Try.isAgg85 F rfl rfl K2 rfl (fun a F => ?_)
    refine o_len Try.underlying85 F rfl rfl h6 (fun a F => ?_)
    have i18 := (h6).r.len64
    obtain ⟨z19, c20, hR⟩ := bnd_some hR
    refine o_sub F rfl rfl rfl c20 (fun a F => ?_)
    obtain ⟨z21, c22, hR⟩ := bnd_some hR
    refine o_says F rfl Try.call60 rfl (impl_within_c z21 c22 _ hx1 (show I64 (0) by decide) (ck64 c20)) (fun a w l F => ?_)
    replace hB := Below.through l hB
    replace h6 := h6.go l
    replace K2 := K2.thru l
    replace K10 := K10.thru l
    refine o_not F rfl rfl (fun a F => ?_)
    refine o_assign F rfl rfl (fun a F => ?_)
    refine x_end ?_
    refine x_tn ?_
    refine x_if F rfl (fun hb23 => ?_) (fun hb23 => ?_)
    · replace hR := ifT hb23 hR
      refine x_seq ?_
      refine x_reg ?_
      refine o_build Try.underlying114 Try.zeroValue114 (fun w => by simp [Try.sizeOf112, Try.sizeOf2]; rfl) F rfl rfl rfl rfl rfl on rfl rfl (fun a F => ?_)
      have h24 := RFormula.mk2 (w := w) (show I64 0 by decide) (show I64 0 by decide) (Rd.nil 2 RAtom _)
      refine o_bstoreA (vs := [.int .i64 0, .int .i64 0, (.slice none 0 0)]) Try.sizeOf114 F rfl rfl rfl K10 (oc rfl (oc rfl (oc rfl on))) (Nat.le_of_ble_eq_true rfl) rfl (fun w K10 l => ?_)
      replace hB := hB.o l (fun c hc => by rw [List.mem_singleton] at hc; rw [hc]; exact CK10) hB.size
      refine o_assign F rfl rfl (fun a F => ?_)
      refine x_end ?_
      refine x_tn ?_
      refine x_ret ?_
      refine x_br ?_
      refine x_tr ?_
      refine x_res2 F rfl (rv_cA (arr := #[.int .i64 0, .int .i64 0, (.slice none 0 0)]) F Try.isAgg114 Try.sizeOf114 rfl K10) (rv_t F rfl) ?_
      obtain rfl := Option.some.inj hR
      exact ⟨_, rfl, hB, (.slice none 0 0), [], [], rfl, (show I64 0 by decide), (show I64 0 by decide), Row.nil 2 RAtom 174 _ _, Own.nil _ _, (show I64 (2) by decide)⟩
    · replace hR := ifF hb23 hR
      refine x_skip ?_
      refine x_bn ?_
      refine x_tn ?_
      refine x_seq ?_
      refine x_reg ?_
      refine o_bfield fa87_1 F rfl rfl rfl (fun a F => ?_)
      refine o_bload Try.isAgg85 F rfl rfl K2 rfl (fun a F => ?_)
      refine o_move F rfl rfl (fun a F => ?_)
      obtain ⟨z25, c26, hR⟩ := bnd_some hR
      refine o_index Try.underlying85 Try.sizeOf58 F rfl rfl rfl h6 c26 (fun a p27 b28 h29 s30 F => ?_)
      refine o_field (s' := 1) fa58_0 F rfl rfl h29 RRel.f0 (fun a p31 b32 h33 s34 F => ?_)
      have i35 := (h33).i64
      refine o_loadI Try.isAgg2 F rfl rfl h33 (fun a F => ?_)
      refine o_assign F rfl rfl (fun a F => ?_)
      refine x_end ?_
      refine x_tn ?_
      refine x_seq ?_
      refine x_reg ?_
      refine o_move F rfl rfl (fun a F => ?_)
      refine o_move F rfl rfl (fun a F => ?_)
      refine o_move F rfl rfl (fun a F => ?_)
      refine o_move F rfl rfl (fun a F => ?_)
      obtain ⟨z36, c37, hR⟩ := bnd_some hR
      refine o_gives F rfl Try.call155 rfl (impl_upTo_c z36 c37 _ (show I64 (0) by decide) i35) (fun a vv w l ⟨v38, rb39, hv42, h41⟩ F => ?_)
      subst vv
      have d44 := Dj.new (inm1 K10) h41.ownR (Nat.le_refl _)
      replace h41 := h41.base hB.size
      replace hB := Below.through l hB
      replace K10 := K10.thru l
      refine o_build Try.underlying174 Try.zeroValue174 (fun w => by simp [Try.sizeOf2, Try.sizeOf34]; rfl) F rfl rfl rfl rfl rfl (oc rfl (oc (h41.rd).r.one on)) rfl rfl (fun a F => ?_)
      have h45 := RAtom.mk2 (w := w) hx1 h41.rd
      refine o_lit1 (R := RAtom) (y := (Atom.mk x1 z36)) Try.underlying112 Try.sizeOf174 Try.zeroValue174 rfl (by decide) (by decide) F rfl rfl (El.agg h45) (fun a w v46 rb47 h48 l F => ?_)
      have ow49 := Own.go (h41.own (Own.nil _ _)) l
      have d51 := Dj.new (inm1 K10) h48.ownR (Nat.le_refl _)
      have d52 := Dj.app' (Dj.symm d51) (Dj.app' (Dj.symm d44) (Dj.nil' _))
      replace h48 := h48.base hB.size
      replace hB := Below.through l hB
      replace K10 := K10.thru l
      refine o_build Try.underlying114 Try.zeroValue114 (fun w => by simp [Try.sizeOf112, Try.sizeOf2]; rfl) F rfl rfl rfl rfl rfl (oc rfl (oc rfl (oc (h48.rd).r.one on))) rfl rfl (fun a F => ?_)
      have h53 := RFormula.mk2 (w := w) i35 i35 h48.rd
      refine o_bstoreA (vs := [.int .i64 z25.arity, .int .i64 z25.arity, v46]) Try.sizeOf114 F rfl rfl rfl K10 (oc rfl (oc rfl (oc (h48.rd).r.one on))) (Nat.le_of_ble_eq_true rfl) rfl (fun w K10 l => ?_)
      replace hB := hB.o l (fun c hc => by rw [List.mem_singleton] at hc; rw [hc]; exact CK10) hB.size
      replace h48 := h48.goO l d52
      replace ow49 := ow49.goO l d52.r
      refine o_assign F rfl rfl (fun a F => ?_)
      refine x_end ?_
      refine x_tn ?_
      refine x_ret ?_
      refine x_res2 F rfl (rv_cA (arr := #[.int .i64 z25.arity, .int .i64 z25.arity, v46]) F Try.isAgg114 Try.sizeOf114 rfl K10) (rv_t F rfl) ?_
      obtain rfl := Option.some.inj hR
      exact ⟨_, rfl, hB, v46, rb47, ((rb39 ++ [])), rfl, i35, i35, h48, ow49, (show I64 (0) by decide)⟩

def impl_classFault (x0 : Template) (x1 : Int) : Option Int :=
  bnd (impl_ValidTemplate (Template.mk x0.size x0.rels)) fun z10 =>
  if (!z10) then
    some 1
  else
    if (x0.size != 2) then
      some 4
    else
      bnd (impl_isClass x1) fun z14 =>
      if (!z14) then
        some 2
      else
        some 0
set_option maxHeartbeats 1000000 in
theorem impl_classFault_c {x0 : Template} {x1 : Int} (r : Int) (hR : impl_classFault x0 x1 = some r) {v0 : Value} {b0 : List Nat} (w0 : World) (A0 : Rd (Agg 2 RTemplate) w0 v0 x0 b0) (hx1 : I64 x1) : Calls Try.prog 114 #[v0, .int .i64 x1] w0 (SaysI r w0) := by
  unfold impl_classFault at hR
  refine x_enter (L := [(0, v0), (1, .int .i64 x1)]) Try.func114 rfl rfl rfl (sc rfl (sc rfl sn)) (fun a F => ?_)
  have hB := Below.refl w0.heap.size w0
  refine x_seq ?_
  refine x_reg ?_
  obtain ⟨v4, b5, e7, i3, h6, _⟩ := RTemplate.rd (A0.go hB)
  subst e7
  refine o_box F rfl rfl rfl (fun a w b1 K2 l BK2 F => ?_)
  have d8 := (dj1 h6.m BK2).symm
  have CK2 := Nat.le_trans hB.size BK2
  replace hB := Below.through l hB
  replace h6 := h6.go l
  refine o_assign F rfl rfl (fun a F => ?_)
  refine x_end ?_
  refine x_tn ?_
  refine x_seq ?_
  refine x_blk ?_
  refine x_seq ?_
  refine x_reg ?_
  refine o_bloadA (cs := [.int .i64 x0.size, v4]) Try.isAgg87 Try.sizeOf87 F rfl rfl K2 rfl (fun j hj => by match j, hj with | 0, _ => rfl | 1, _ => rfl) (fun a F => ?_)
  have h9 := RTemplate.mk2 (w := w) i3 h6
  obtain ⟨z10, c11, hR⟩ := bnd_some hR
  refine o_says F rfl Try.call106 rfl (impl_ValidTemplate_c z10 c11 _ h9) (fun a w l F => ?_)
  replace hB := Below.through l hB
  replace h6 := h6.go l
  replace K2 := K2.thru l
  refine o_not F rfl rfl (fun a F => ?_)
  refine o_assign F rfl rfl (fun a F => ?_)
  refine x_end ?_
  refine x_tn ?_
  refine x_if F rfl (fun hb12 => ?_) (fun hb12 => ?_)
  · replace hR := ifT hb12 hR
    refine x_seq ?_
    refine x_reg ?_
    refine o_assign F rfl rfl (fun a F => ?_)
    refine x_end ?_
    refine x_tn ?_
    refine x_ret ?_
    refine x_br ?_
    refine x_tr ?_
    refine x_res1 F rfl (rv_t F rfl) ?_
    obtain rfl := Option.some.inj hR
    exact ⟨⟨rfl, hB⟩, (show I64 (1) by decide)⟩
  · replace hR := ifF hb12 hR
    refine x_seq ?_
    refine x_reg ?_
    refine o_bfield fa87_0 F rfl rfl rfl (fun a F => ?_)
    refine o_bload Try.isAgg2 F rfl rfl K2 rfl (fun a F => ?_)
    refine o_neq F rfl rfl rfl (fun a F => ?_)
    refine o_assign F rfl rfl (fun a F => ?_)
    refine x_end ?_
    refine x_tn ?_
    refine x_if F rfl (fun hb13 => ?_) (fun hb13 => ?_)
    · replace hR := ifT hb13 hR
      refine x_seq ?_
      refine x_reg ?_
      refine o_assign F rfl rfl (fun a F => ?_)
      refine x_end ?_
      refine x_tn ?_
      refine x_ret ?_
      refine x_br ?_
      refine x_tr ?_
      refine x_res1 F rfl (rv_t F rfl) ?_
      obtain rfl := Option.some.inj hR
      exact ⟨⟨rfl, hB⟩, (show I64 (4) by decide)⟩
    · replace hR := ifF hb13 hR
      refine x_seq ?_
      refine x_reg ?_
      refine o_move F rfl rfl (fun a F => ?_)
      obtain ⟨z14, c15, hR⟩ := bnd_some hR
      refine o_says F rfl Try.call70 rfl (impl_isClass_c z14 c15 _ hx1) (fun a w l F => ?_)
      replace hB := Below.through l hB
      refine o_not F rfl rfl (fun a F => ?_)
      refine o_assign F rfl rfl (fun a F => ?_)
      refine x_end ?_
      refine x_tn ?_
      refine x_if F rfl (fun hb16 => ?_) (fun hb16 => ?_)
      · replace hR := ifT hb16 hR
        refine x_seq ?_
        refine x_reg ?_
        refine o_assign F rfl rfl (fun a F => ?_)
        refine x_end ?_
        refine x_tn ?_
        refine x_ret ?_
        refine x_br ?_
        refine x_tr ?_
        refine x_res1 F rfl (rv_t F rfl) ?_
        obtain rfl := Option.some.inj hR
        exact ⟨⟨rfl, hB⟩, (show I64 (2) by decide)⟩
      · replace hR := ifF hb16 hR
        refine x_skip ?_
        refine x_bn ?_
        refine x_tn ?_
        refine x_seq ?_
        refine x_reg ?_
        refine o_assign F rfl rfl (fun a F => ?_)
        refine x_end ?_
        refine x_tn ?_
        refine x_ret ?_
        refine x_res1 F rfl (rv_t F rfl) ?_
        obtain rfl := Option.some.inj hR
        exact ⟨⟨rfl, hB⟩, (show I64 (0) by decide)⟩
end Go.Proofs.Ytmfichdcomaaeaa
