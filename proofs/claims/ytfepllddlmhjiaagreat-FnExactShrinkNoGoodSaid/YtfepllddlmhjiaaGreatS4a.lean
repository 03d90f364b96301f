/-
  Functions of the program as plain functions, and that they compute them. Printed by fxio.py.
-/
import Derived.Test.YtfepllddlmhjiaaGreatS3
namespace Go.Proofs.YtfepllddlmhjiaaGreat
set_option linter.unusedVariables false
set_option linter.unusedSimpArgs false
set_option maxRecDepth 100000
open Go.RowKit
def spec_l08Literals (x0 : Template) (x1 : Instance) (x2 : List Literal) : Option Bool :=
 thn (σ := Unit) (
  forL (σ := Unit) (ρ := Bool) (fun (k98 : Nat) (x100 : Literal) (s : Unit) =>
    match s with
    | _ =>
    thn (σ := Bool) (
     bnd (ck (x1.vars - 1)) fun z160 =>
     bnd (spec_l00In x100.var 0 z160) fun z162 =>
     if (!z162) then  some (.nx true) else  bnd (ck (x0.size - 1)) fun z179 =>
      bnd (spec_l00In x100.value 0 z179) fun z181 =>
      some (.nx (!z181))) fun s145 =>
    if s145 then
     some (.ret false)
    else
     some (.go ())) x2 0 ()) fun _ =>
 some true
set_option maxHeartbeats 1000000 in
theorem spec_l08Literals_c {x0 : Template} {x1 : Instance} {x2 : List Literal} (r : Bool) (hR : spec_l08Literals x0 x1 x2 = some r) {v0 : Value} {b0 : List Nat} {v1 : Value} {b1 : List Nat} {v2 : Value} {b2 : List Nat} (w0 : World) (A0 : Rd (Pt 2 RTemplate) w0 v0 x0 b0) (A1 : Rd (Pt 2 RInstance) w0 v1 x1 b1) (A2 : Rd (Sl 2 RLiteral) w0 v2 x2 b2) : Calls Tryz.prog 124 #[v0, v1, v2] w0 (Says (.bool r) w0) := by
 unfold spec_l08Literals at hR
 refine x_enter (L := [(0, v0), (1, v1), (2, v2)]) Tryz.func124 rfl rfl rfl (sc rfl (sc rfl (sc rfl sn))) (fun a F => ?_)
 have hB := Below.refl w0.heap.size w0
 refine x_seq ?_
 refine x_reg ?_
 refine o_assign F rfl rfl (fun a F => ?_)
 refine x_end ?_
 refine x_tn ?_
 refine x_seq ?_
 refine x_seq ?_
 refine x_reg ?_
 refine o_assign F rfl rfl (fun a F => ?_)
 refine x_end ?_
 refine x_tn ?_
 obtain ⟨o92, hR, hk93⟩ := thn_some hR
 refine x_cutQ (fun a w => o92 = .nx () ∧ Sk a 40 [] ∧ Below w0.heap.size w0 w) ?_ ?_
 ·
  refine x_blk ?_
  obtain ⟨fl96, hf97, hR⟩ := forL_gen hR
  refine x_loop (fun g a w => ∃ (k98 : Nat) (rest99 : List Literal), (k98 ≤ x2.length ∧ x2.drop k98 = rest99) ∧ rest99.length = g ∧ forL fl96 rest99 k98 () = some o92 ∧ Sk a 40 [(7, .int .i64 (k98 : Int)), (0, v0), (1, v1), (2, v2)] ∧ Below w0.heap.size w0 w) x2.length ?_ ?_
  ·
   exact ⟨0, x2, ⟨Nat.zero_le _, rfl⟩, rfl, hR, F.sub (sc rfl (sc rfl (sc rfl (sc rfl sn)))), hB⟩
  ·
   intro g101 a w ⟨k98, rest99, hd102, hg103, hR, F, hB⟩
   cases rest99 with
   | nil =>
    replace hR := forL_nil hR
    have hkk98 := drop_nil hd102.1 hd102.2
    have hlk98 := dec_no hkk98
    refine x_seq ?_
    refine x_seq ?_
    refine x_reg ?_
    refine o_move F rfl rfl (fun a F => ?_)
    refine o_move F rfl rfl (fun a F => ?_)
    refine o_len Tryz.underlying63 F rfl rfl (A2.go hB) (fun a F => ?_)
    have i184 := ((A2.go hB)).r.len64
    refine o_lss F rfl rfl rfl (fun a F => ?_)
    refine x_end ?_
    refine x_tn ?_
    refine x_ifF F rfl hlk98 ?_
    refine x_exit ?_
    refine x_te ?_
    refine x_te ?_
    refine x_be ?_
    refine x_tn ?_
    exact ⟨(Option.some.inj hR).symm, F.sub sn, hB⟩
   | cons x100 rest99 =>
    subst hg103
    replace hd102 := drop_cons hd102.2
    have hxk98 := ix_nat hd102.2.1
    obtain ⟨ck98, hR, hn95⟩ := forL_cons hR
    rw [hf97] at hR
    have hlk98 := dec_yes hd102.1
    refine x_seq ?_
    refine x_seq ?_
    refine x_reg ?_
    refine o_move F rfl rfl (fun a F => ?_)
    refine o_move F rfl rfl (fun a F => ?_)
    refine o_len Tryz.underlying63 F rfl rfl (A2.go hB) (fun a F => ?_)
    have i104 := ((A2.go hB)).r.len64
    refine o_lss F rfl rfl rfl (fun a F => ?_)
    refine x_end ?_
    refine x_tn ?_
    refine x_ifT F rfl hlk98 ?_
    refine x_skip ?_
    refine x_tn ?_
    refine x_seq ?_
    have ikk98 := k64 (Nat.le_of_lt hd102.1) i104
    have ink98 := inc64 hd102.1 i104
    refine x_blk ?_
    refine x_seq ?_
    obtain ⟨o142, hR, hk143⟩ := thn_some hR
    refine x_cutQ (fun a w => ∃ (s145 : Bool), o142 = .nx s145 ∧ Sk a 40 [(0, v0), (1, v1), (2, v2), (7, .int .i64 (k98 : Int)), (39, .bool s145)] ∧ Below w0.heap.size w0 w) ?_ ?_
    ·
     refine x_draw (by kernel_rfl) (by kernel_rfl) ?_
     refine q_val F rfl (fun w l => r_move F rfl) (fun a F => ?_)
     refine q_val F rfl (fun w l => r_move F rfl) (fun a F => ?_)
     refine q_index Tryz.underlying63 Tryz.sizeOf136 F rfl rfl rfl (A2.go hB) hxk98 (fun a p146 b147 h148 s149 F => ?_)
     refine q_field (s' := 1) fa136_0 F rfl rfl h148 RLiteral.f0 (fun a p150 b151 h152 s153 F => ?_)
     have i154 := (h152).i64
     refine q_val F rfl (fun w l => r_loadI Tryz.isAgg2 F rfl ((h152).go l)) (fun a F => ?_)
     refine q_val F rfl (fun w l => r_move F rfl) (fun a F => ?_)
     refine q_val F rfl (fun w l => r_nilCheckP F rfl (A1.go hB)) (fun a F => ?_)
     refine q_field (s' := 1) fa51_0 F rfl rfl (A1.go hB) RInstance.f0 (fun a p155 b156 h157 s158 F => ?_)
     have i159 := (h157).i64
     refine q_val F rfl (fun w l => r_loadI Tryz.isAgg2 F rfl ((h157).go l)) (fun a F => ?_)
     obtain ⟨z160, c161, hR⟩ := bnd_some hR
     refine q_val F rfl (fun w l => r_sub F rfl rfl c161) (fun a F => ?_)
     obtain ⟨z162, c163, hR⟩ := bnd_some hR
     refine q_says F rfl Tryz.call152 rfl (fun w w' h l => l.through h) (fun w l => spec_l00In_c z162 c163 w i154 (show I64 (0) by decide) (ck64 c161)) (fun a F => ?_)
     refine q_val F rfl (fun w l => r_not F rfl) (fun a F => ?_)
     refine q_val F rfl (fun w l => r_move F rfl) (fun a F => ?_)
     rcases bcases (!z162) with hb164 | hb164
     ·
      replace hR := ifT hb164 hR
      have F := F.eq (t := 26) rfl (congrArg Value.bool hb164)
      refine q_no F rfl rfl (fun a F => ?_)
      refine q_no F rfl rfl (fun a F => ?_)
      refine q_no F rfl rfl (fun a F => ?_)
      refine q_no F rfl rfl (fun a F => ?_)
      refine q_no F rfl rfl (fun a F => ?_)
      refine q_no F rfl rfl (fun a F => ?_)
      refine q_no F rfl rfl (fun a F => ?_)
      refine q_no F rfl rfl (fun a F => ?_)
      refine q_no F rfl rfl (fun a F => ?_)
      refine q_no F rfl rfl (fun a F => ?_)
      refine q_no F rfl rfl (fun a F => ?_)
      refine q_no F rfl rfl (fun a F => ?_)
      refine q_val F rfl (fun w l => r_pickt F rfl rfl) (fun a F => ?_)
      refine q_end (fun w l => ?_)
      replace hB := Below.through l hB
      refine x_tn ?_
      exact ⟨true, (Option.some.inj hR).symm, F.sub (sc rfl (sc rfl (sc rfl (sc rfl (sc rfl sn))))), hB⟩
     ·
      replace hR := ifF hb164 hR
      have F := F.eq (t := 26) rfl (congrArg Value.bool hb164)
      refine q_val F rfl (fun w l => r_move F rfl) (fun a F => ?_)
      refine q_val F rfl (fun w l => r_move F rfl) (fun a F => ?_)
      refine q_index Tryz.underlying63 Tryz.sizeOf136 F rfl rfl rfl (A2.go hB) hxk98 (fun a p165 b166 h167 s168 F => ?_)
      refine q_field (s' := 1) fa136_1 F rfl rfl h167 RLiteral.f1 (fun a p169 b170 h171 s172 F => ?_)
      have i173 := (h171).i64
      refine q_val F rfl (fun w l => r_loadI Tryz.isAgg2 F rfl ((h171).go l)) (fun a F => ?_)
      refine q_val F rfl (fun w l => r_move F rfl) (fun a F => ?_)
      refine q_val F rfl (fun w l => r_nilCheckP F rfl (A0.go hB)) (fun a F => ?_)
      refine q_field (s' := 1) fa33_0 F rfl rfl (A0.go hB) RTemplate.f0 (fun a p174 b175 h176 s177 F => ?_)
      have i178 := (h176).i64
      refine q_val F rfl (fun w l => r_loadI Tryz.isAgg2 F rfl ((h176).go l)) (fun a F => ?_)
      obtain ⟨z179, c180, hR⟩ := bnd_some hR
      refine q_val F rfl (fun w l => r_sub F rfl rfl c180) (fun a F => ?_)
      obtain ⟨z181, c182, hR⟩ := bnd_some hR
      refine q_says F rfl Tryz.call152 rfl (fun w w' h l => l.through h) (fun w l => spec_l00In_c z181 c182 w i173 (show I64 (0) by decide) (ck64 c180)) (fun a F => ?_)
      refine q_val F rfl (fun w l => r_not F rfl) (fun a F => ?_)
      refine q_val F rfl (fun w l => r_pickf F rfl rfl) (fun a F => ?_)
      refine q_end (fun w l => ?_)
      replace hB := Below.through l hB
      refine x_tn ?_
      exact ⟨(!z181), (Option.some.inj hR).symm, F.sub (sc rfl (sc rfl (sc rfl (sc rfl (sc rfl sn))))), hB⟩
    ·
     intro a w ⟨s145, ho144, F, hB⟩
     subst ho144
     have hR := then_nx hk143
     refine x_tn ?_
     refine x_if F rfl (fun hb183 => ?_) (fun hb183 => ?_)
     ·
      replace hR := ifT hb183 hR
      refine x_seq ?_
      refine x_reg ?_
      refine o_assign F rfl rfl (fun a F => ?_)
      refine x_end ?_
      refine x_tn ?_
      refine x_ret ?_
      refine x_br ?_
      refine x_tr ?_
      refine x_tr ?_
      replace hR := l_ret hR hn95
      refine x_br ?_
      refine x_tr ?_
      replace hR := j_ret hR hk93
      refine x_tr ?_
      refine x_res1 F rfl (rv_t F rfl) ?_
      obtain rfl := Option.some.inj hR
      exact ⟨rfl, hB⟩
     ·
      replace hR := ifF hb183 hR
      refine x_skip ?_
      refine x_bn ?_
      refine x_tn ?_
      refine x_reg ?_
      refine o_move F rfl rfl (fun a F => ?_)
      refine o_inc F rfl rfl rfl ink98 (fun a F => ?_)
      refine o_assign F rfl rfl (fun a F => ?_)
      refine x_end ?_
      refine x_tn ?_
      replace hR := l_go hR hn95
      exact ⟨_, Nat.lt_succ_self _, k98 + 1, rest99, ⟨hd102.1, hd102.2.2⟩, rfl, hR, F.sub (sc rfl (sc rfl (sc rfl (sc rfl sn)))), hB⟩
 ·
  intro a w ⟨ho94, F, hB⟩
  subst ho94
  have hR := then_nx hk93
  refine x_tn ?_
  refine x_seq ?_
  refine x_reg ?_
  refine o_assign F rfl rfl (fun a F => ?_)
  refine x_end ?_
  refine x_tn ?_
  refine x_ret ?_
  refine x_res1 F rfl (rv_t F rfl) ?_
  obtain rfl := Option.some.inj hR
  exact ⟨rfl, hB⟩

def spec_l08Listed (x0 : Template) (x1 : Instance) (x2 : List Literal) (x3 : Int) : Option Int :=
 bnd (spec_l08Budget x0 x1 x3) fun z11 =>
 thn (σ := Bool) (
  if (z11 == 0) then  bnd (spec_l08Literals x0 x1 x2) fun z21 =>
   some (.nx (!z21)) else  some (.nx false)) fun s19 =>
 if s19 then
  some 2
 else
  some z11
set_option maxHeartbeats 1000000 in
theorem spec_l08Listed_c {x0 : Template} {x1 : Instance} {x2 : List Literal} {x3 : Int} (r : Int) (hR : spec_l08Listed x0 x1 x2 x3 = some r) {v0 : Value} {b0 : List Nat} {v1 : Value} {b1 : List Nat} {v2 : Value} {b2 : List Nat} (w0 : World) (A0 : Rd (Pt 2 RTemplate) w0 v0 x0 b0) (A1 : Rd (Pt 2 RInstance) w0 v1 x1 b1) (A2 : Rd (Sl 2 RLiteral) w0 v2 x2 b2) (hx3 : I64 x3) : Calls Tryz.prog 92 #[v0, v1, v2, .int .i64 x3] w0 (SaysI r w0) := by
 unfold spec_l08Listed at hR
 refine x_enter (L := [(0, v0), (1, v1), (2, v2), (3, .int .i64 x3)]) Tryz.func92 rfl rfl rfl (sc rfl (sc rfl (sc rfl (sc rfl sn)))) (fun a F => ?_)
 have hB := Below.refl w0.heap.size w0
 refine x_seq ?_
 refine x_reg ?_
 refine o_assign F rfl rfl (fun a F => ?_)
 refine x_end ?_
 refine x_tn ?_
 refine x_seq ?_
 refine x_reg ?_
 refine o_move F rfl rfl (fun a F => ?_)
 refine o_move F rfl rfl (fun a F => ?_)
 refine o_move F rfl rfl (fun a F => ?_)
 obtain ⟨z11, c12, hR⟩ := bnd_some hR
 refine o_saysI F rfl Tryz.call82 rfl (spec_l08Budget_c z11 c12 _ (A0.go hB) (A1.go hB) hx3) (fun a w l iz11 F => ?_)
 replace hB := Below.through l hB
 refine o_assign F rfl rfl (fun a F => ?_)
 refine x_end ?_
 refine x_tn ?_
 refine x_seq ?_
 refine x_seq ?_
 obtain ⟨o16, hR, hk17⟩ := thn_some hR
 refine x_cutQ (fun a w => ∃ (s19 : Bool), o16 = .nx s19 ∧ Sk a 24 [(9, .int .i64 z11), (22, .bool s19)] ∧ Below w0.heap.size w0 w) ?_ ?_
 ·
  refine x_reg ?_
  refine o_move F rfl rfl (fun a F => ?_)
  refine o_eql F rfl rfl rfl (fun a F => ?_)
  refine o_move F rfl rfl (fun a F => ?_)
  rcases bcases (z11 == 0) with hb20 | hb20
  ·
   replace hR := ifT hb20 hR
   have F := F.eq (t := 16) rfl (congrArg Value.bool hb20)
   refine o_move F rfl rfl (fun a F => ?_)
   refine o_move F rfl rfl (fun a F => ?_)
   refine o_move F rfl rfl (fun a F => ?_)
   obtain ⟨z21, c22, hR⟩ := bnd_some hR
   refine o_says F rfl Tryz.call124 rfl (spec_l08Literals_c z21 c22 _ (A0.go hB) (A1.go hB) (A2.go hB)) (fun a w l F => ?_)
   replace hB := Below.through l hB
   refine o_not F rfl rfl (fun a F => ?_)
   refine o_pickt F rfl rfl rfl (fun a F => ?_)
   refine x_end ?_
   refine x_tn ?_
   exact ⟨(!z21), (Option.some.inj hR).symm, F.sub (sc rfl (sc rfl sn)), hB⟩
  ·
   replace hR := ifF hb20 hR
   have F := F.eq (t := 16) rfl (congrArg Value.bool hb20)
   refine o_no F rfl rfl (fun a F => ?_)
   refine o_no F rfl rfl (fun a F => ?_)
   refine o_no F rfl rfl (fun a F => ?_)
   refine o_no F rfl rfl (fun a F => ?_)
   refine o_no F rfl rfl (fun a F => ?_)
   refine o_pickf F rfl rfl rfl (fun a F => ?_)
   refine x_end ?_
   refine x_tn ?_
   exact ⟨false, (Option.some.inj hR).symm, F.sub (sc rfl (sc rfl sn)), hB⟩
 ·
  intro a w ⟨s19, ho18, F, hB⟩
  subst ho18
  have hR := then_nx hk17
  refine x_tn ?_
  refine x_if F rfl (fun hb23 => ?_) (fun hb23 => ?_)
  ·
   replace hR := ifT hb23 hR
   refine x_reg ?_
   refine o_assign F rfl rfl (fun a F => ?_)
   refine x_end ?_
   refine x_tn ?_
   refine x_seq ?_
   refine x_reg ?_
   refine o_move F rfl rfl (fun a F => ?_)
   refine o_assign F rfl rfl (fun a F => ?_)
   refine x_end ?_
   refine x_tn ?_
   refine x_ret ?_
   refine x_res1 F rfl (rv_t F rfl) ?_
   obtain rfl := Option.some.inj hR
   exact ⟨⟨rfl, hB⟩, (show I64 (2) by decide)⟩
  ·
   replace hR := ifF hb23 hR
   refine x_skip ?_
   refine x_tn ?_
   refine x_seq ?_
   refine x_reg ?_
   refine o_move F rfl rfl (fun a F => ?_)
   refine o_assign F rfl rfl (fun a F => ?_)
   refine x_end ?_
   refine x_tn ?_
   refine x_ret ?_
   refine x_res1 F rfl (rv_t F rfl) ?_
   obtain rfl := Option.some.inj hR
   exact ⟨⟨rfl, hB⟩, iz11⟩

def spec_l08Bad (N : Nat) (x0 : Template) (x1 : Instance) (x2 : List Literal) (x3 : Int) : Option (Bool × Int) :=
 bnd (spec_l05Full x0 x1) fun z11 =>
 thn (σ := (List (List Int))) (
  forL (σ := (List (List Int))) (ρ := Bool × Int) (fun (k272 : Nat) (x274 : Literal) (s260 : (List (List Int))) =>
   bnd (ix s260 x274.var) fun z288 =>
   bnd (spec_l00Has z288 x274.value) fun z307 =>
   if z307 then
    some (.go (s260.set (x274.var).toNat ([x274.value])))
   else
    some (.go (s260.set (x274.var).toNat ([])))) x2 0 z11) fun s266 =>
 bnd (spec_l08Run N x0 x1 s266 x3) fun z352 =>
 if (z352.2.1 == 7) then
  some (false, z352.2.1)
 else
  some ((z352.2.1 == 6), 0)
set_option maxHeartbeats 1000000 in
theorem spec_l08Bad_c {N : Nat} {x0 : Template} {x1 : Instance} {x2 : List Literal} {x3 : Int} (r : Bool × Int) (hR : spec_l08Bad N x0 x1 x2 x3 = some r) {v0 : Value} {b0 : List Nat} {v1 : Value} {b1 : List Nat} {v2 : Value} {b2 : List Nat} (w0 : World) (A0 : Rd (Pt 2 RTemplate) w0 v0 x0 b0) (A1 : Rd (Pt 2 RInstance) w0 v1 x1 b1) (A2 : Rd (Sl 2 RLiteral) w0 v2 x2 b2) (hx3 : I64 x3) : Calls Tryz.prog 93 #[v0, v1, v2, .int .i64 x3] w0 (Gives (fun v w' => v = .tuple #[.bool r.1, .int .i64 r.2] ∧ I64 r.2) w0) := by
 unfold spec_l08Bad at hR
 refine x_enter (L := [(0, v0), (1, v1), (2, v2), (3, .int .i64 x3)]) Tryz.func93 rfl rfl rfl (sc rfl (sc rfl (sc rfl (sc rfl sn)))) (fun a F => ?_)
 have hB := Below.refl w0.heap.size w0
 refine x_seq ?_
 refine x_reg ?_
 refine o_assign F rfl rfl (fun a F => ?_)
 refine o_assign F rfl rfl (fun a F => ?_)
 refine x_end ?_
 refine x_tn ?_
 refine x_seq ?_
 refine x_reg ?_
 refine o_move F rfl rfl (fun a F => ?_)
 refine o_move F rfl rfl (fun a F => ?_)
 obtain ⟨z11, c12, hR⟩ := bnd_some hR
 refine o_gives F rfl Tryz.call84 rfl (spec_l05Full_c z11 c12 _ (A0.go hB) (A1.go hB)) (fun a vv w l ⟨v13, rb14, ib15, hv18, h16, ow17⟩ F => ?_)
 subst vv
 have o19 := h16.own ow17
 replace h16 := h16.base hB.size
 replace ow17 := ow17.mono hB.size
 replace hB := Below.through l hB
 refine o_assign F rfl rfl (fun a F => ?_)
 refine x_end ?_
 refine x_tn ?_
 refine x_seq ?_
 refine x_seq ?_
 refine x_reg ?_
 refine o_assign F rfl rfl (fun a F => ?_)
 refine x_end ?_
 refine x_tn ?_
 obtain ⟨o254, hR, hk255⟩ := thn_some hR
 refine x_cutQ (fun a w => ∃ (s266 : List (List Int)) (v269 : Value) (rb270 : List Nat) (ib271 : List Nat), o254 = .nx s266 ∧ Sk a 65 [(0, v0), (1, v1), (3, .int .i64 x3), (10, v269)] ∧ Below w0.heap.size w0 w ∧ Row 1 (RSl 1 RInt) 46 w0.heap.size w v269 s266 rb270 ib271) ?_ ?_
 ·
  refine x_blk ?_
  obtain ⟨fl258, hf259, hR⟩ := forL_gen hR
  refine x_loop (fun g a w => ∃ (k272 : Nat) (rest273 : List Literal) (s260 : List (List Int)) (v263 : Value) (rb264 : List Nat) (ib265 : List Nat), (k272 ≤ x2.length ∧ x2.drop k272 = rest273) ∧ rest273.length = g ∧ forL fl258 rest273 k272 s260 = some o254 ∧ Sk a 65 [(11, .int .i64 (k272 : Int)), (0, v0), (1, v1), (2, v2), (3, .int .i64 x3), (10, v263)] ∧ Below w0.heap.size w0 w ∧ Row 1 (RSl 1 RInt) 46 w0.heap.size w v263 s260 rb264 ib265) x2.length ?_ ?_
  ·
   exact ⟨0, x2, z11, v13, rb14, ib15, ⟨Nat.zero_le _, rfl⟩, rfl, hR, F.sub (sc rfl (sc rfl (sc rfl (sc rfl (sc rfl (sc rfl sn)))))), hB, h16⟩
  ·
   intro g275 a w ⟨k272, rest273, s260, v263, rb264, ib265, hd276, hg277, hR, F, hB, h262⟩
   cases rest273 with
   | nil =>
    replace hR := forL_nil hR
    have hkk272 := drop_nil hd276.1 hd276.2
    have hlk272 := dec_no hkk272
    refine x_seq ?_
    refine x_seq ?_
    refine x_reg ?_
    refine o_move F rfl rfl (fun a F => ?_)
    refine o_move F rfl rfl (fun a F => ?_)
    refine o_len Tryz.underlying63 F rfl rfl (A2.go hB) (fun a F => ?_)
    have i351 := ((A2.go hB)).r.len64
    refine o_lss F rfl rfl rfl (fun a F => ?_)
    refine x_end ?_
    refine x_tn ?_
    refine x_ifF F rfl hlk272 ?_
    refine x_exit ?_
    refine x_te ?_
    refine x_te ?_
    refine x_be ?_
    refine x_tn ?_
    exact ⟨s260, v263, rb264, ib265, (Option.some.inj hR).symm, F.sub (sc rfl (sc rfl (sc rfl (sc rfl sn)))), hB, h262⟩
   | cons x274 rest273 =>
    subst hg277
    replace hd276 := drop_cons hd276.2
    have hxk272 := ix_nat hd276.2.1
    obtain ⟨ck272, hR, hn257⟩ := forL_cons hR
    rw [hf259] at hR
    have hlk272 := dec_yes hd276.1
    refine x_seq ?_
    refine x_seq ?_
    refine x_reg ?_
    refine o_move F rfl rfl (fun a F => ?_)
    refine o_move F rfl rfl (fun a F => ?_)
    refine o_len Tryz.underlying63 F rfl rfl (A2.go hB) (fun a F => ?_)
    have i278 := ((A2.go hB)).r.len64
    refine o_lss F rfl rfl rfl (fun a F => ?_)
    refine x_end ?_
    refine x_tn ?_
    refine x_ifT F rfl hlk272 ?_
    refine x_skip ?_
    refine x_tn ?_
    refine x_seq ?_
    have ikk272 := k64 (Nat.le_of_lt hd276.1) i278
    have ink272 := inc64 hd276.1 i278
    refine x_blk ?_
    refine x_seq ?_
    refine x_reg ?_
    refine o_move F rfl rfl (fun a F => ?_)
    refine o_move F rfl rfl (fun a F => ?_)
    refine o_index Tryz.underlying63 Tryz.sizeOf136 F rfl rfl rfl (A2.go hB) hxk272 (fun a p279 b280 h281 s282 F => ?_)
    refine o_field (s' := 1) fa136_0 F rfl rfl h281 RLiteral.f0 (fun a p283 b284 h285 s286 F => ?_)
    have i287 := (h285).i64
    refine o_loadI Tryz.isAgg2 F rfl rfl h285 (fun a F => ?_)
    refine o_assign F rfl rfl (fun a F => ?_)
    refine x_end ?_
    refine x_tn ?_
    refine x_seq ?_
    refine x_draw (by kernel_rfl) (by kernel_rfl) ?_
    refine q_val F rfl (fun w l => r_move F rfl) (fun a F => ?_)
    refine q_val F rfl (fun w l => r_move F rfl) (fun a F => ?_)
    obtain ⟨z288, c289, hR⟩ := bnd_some hR
    refine q_index Tryz.underlying72 Tryz.sizeOf46 F rfl rfl rfl h262.rd c289 (fun a p290 b291 h292 s293 F => ?_)
    refine q_loadS (fun _ l => l) Tryz.isAgg46 F rfl rfl h292 (fun a v294 b295 h296 s297 F => ?_)
    refine q_val F rfl (fun w l => r_move F rfl) (fun a F => ?_)
    refine q_val F rfl (fun w l => r_move F rfl) (fun a F => ?_)
    refine q_index Tryz.underlying63 Tryz.sizeOf136 F rfl rfl rfl (A2.go hB) hxk272 (fun a p298 b299 h300 s301 F => ?_)
    refine q_field (s' := 1) fa136_1 F rfl rfl h300 RLiteral.f1 (fun a p302 b303 h304 s305 F => ?_)
    have i306 := (h304).i64
    refine q_val F rfl (fun w l => r_loadI Tryz.isAgg2 F rfl ((h304).go l)) (fun a F => ?_)
    obtain ⟨z307, c308, hR⟩ := bnd_some hR
    refine q_says F rfl Tryz.call158 rfl (fun w w' h l => l.through h) (fun w l => spec_l00Has_c z307 c308 w (h296.go l) i306) (fun a F => ?_)
    refine q_end (fun w l => ?_)
    replace hB := Below.through l hB
    replace h262 := h262.go l
    refine x_tn ?_
    refine x_if F rfl (fun hb309 => ?_) (fun hb309 => ?_)
    ·
     replace hR := ifT hb309 hR
     refine x_reg ?_
     refine o_move F rfl rfl (fun a F => ?_)
     refine o_move F rfl rfl (fun a F => ?_)
     refine o_move F rfl rfl (fun a F => ?_)
     refine o_move F rfl rfl (fun a F => ?_)
     refine o_index Tryz.underlying63 Tryz.sizeOf136 F rfl rfl rfl (A2.go hB) hxk272 (fun a p310 b311 h312 s313 F => ?_)
     refine o_field (s' := 1) fa136_1 F rfl rfl h312 RLiteral.f1 (fun a p314 b315 h316 s317 F => ?_)
     have i318 := (h316).i64
     refine o_loadI Tryz.isAgg2 F rfl rfl h316 (fun a F => ?_)
     refine o_lit1 (R := RInt) (y := x274.value) Tryz.underlying46 Tryz.sizeOf2 Tryz.zeroValue2 rfl (by decide) (by decide) F rfl rfl (El.int i318) (fun a w v319 rb320 h321 l F => ?_)
     have d323 := Dj.new h262.rd.m h321.ownR (Nat.le_refl _)
     have d324 := Dj.app' (Dj.new h262.memR h321.ownR (Nat.le_refl _)).symm (Dj.nil' _)
     have d325 := Dj.app' (Dj.new h262.mem h321.ownR (Nat.le_refl _)).symm (Dj.nil' _)
     replace h321 := h321.base hB.size
     replace hB := Below.through l hB
     replace h262 := h262.go l
     refine o_rindex Tryz.underlying72 Tryz.sizeOf46 F rfl rfl rfl h262 c289 (fun a p326 b327 h328 s329 rp330 F => ?_)
     refine o_rstore Tryz.sizeOf46 F rfl rfl rfl h262 rp330 (ix_lt c289) (El.sl h321.rd) (h321.rd).r.one (Dj.symm d324) (fun w ib332 h331 l s333 keep => ?_)
     replace hB := hB.o l h262.lo hB.size
     refine x_end ?_
     refine x_bn ?_
     refine x_tn ?_
     refine x_reg ?_
     refine o_move F rfl rfl (fun a F => ?_)
     refine o_inc F rfl rfl rfl ink272 (fun a F => ?_)
     refine o_assign F rfl rfl (fun a F => ?_)
     refine x_end ?_
     refine x_tn ?_
     replace hR := l_go hR hn257
     exact ⟨_, Nat.lt_succ_self _, k272 + 1, rest273, (s260.set (x274.var).toNat ([x274.value])), v263, rb264, ib332, ⟨hd276.1, hd276.2.2⟩, rfl, hR, F.sub (sc rfl (sc rfl (sc rfl (sc rfl (sc rfl (sc rfl sn)))))), hB, h331⟩
    ·
     replace hR := ifF hb309 hR
     refine x_reg ?_
     refine o_move F rfl rfl (fun a F => ?_)
     refine o_move F rfl rfl (fun a F => ?_)
     refine o_lit0 (R := RInt) Tryz.underlying46 Tryz.sizeOf2 F rfl (fun a w v335 rb336 h337 l F => ?_)
     have d339 := Dj.new h262.rd.m h337.ownR (Nat.le_refl _)
     have d340 := Dj.app' (Dj.new h262.memR h337.ownR (Nat.le_refl _)).symm (Dj.nil' _)
     have d341 := Dj.app' (Dj.new h262.mem h337.ownR (Nat.le_refl _)).symm (Dj.nil' _)
     replace h337 := h337.base hB.size
     replace hB := Below.through l hB
     replace h262 := h262.go l
     refine o_rindex Tryz.underlying72 Tryz.sizeOf46 F rfl rfl rfl h262 c289 (fun a p342 b343 h344 s345 rp346 F => ?_)
     refine o_rstore Tryz.sizeOf46 F rfl rfl rfl h262 rp346 (ix_lt c289) (El.sl h337.rd) (h337.rd).r.one (Dj.symm d340) (fun w ib348 h347 l s349 keep => ?_)
     replace hB := hB.o l h262.lo hB.size
     refine x_end ?_
     refine x_bn ?_
     refine x_tn ?_
     refine x_reg ?_
     refine o_move F rfl rfl (fun a F => ?_)
     refine o_inc F rfl rfl rfl ink272 (fun a F => ?_)
     refine o_assign F rfl rfl (fun a F => ?_)
     refine x_end ?_
     refine x_tn ?_
     replace hR := l_go hR hn257
     exact ⟨_, Nat.lt_succ_self _, k272 + 1, rest273, (s260.set (x274.var).toNat ([])), v263, rb264, ib348, ⟨hd276.1, hd276.2.2⟩, rfl, hR, F.sub (sc rfl (sc rfl (sc rfl (sc rfl (sc rfl (sc rfl sn)))))), hB, h347⟩
 ·
  intro a w ⟨s266, v269, rb270, ib271, ho256, F, hB, h268⟩
  subst ho256
  have hR := then_nx hk255
  refine x_tn ?_
  refine x_seq ?_
  refine x_reg ?_
  refine o_move F rfl rfl (fun a F => ?_)
  refine o_move F rfl rfl (fun a F => ?_)
  refine o_move F rfl rfl (fun a F => ?_)
  refine o_move F rfl rfl (fun a F => ?_)
  obtain ⟨z352, c353, hR⟩ := bnd_some hR
  refine o_givesX F rfl Tryz.call83 rfl (spec_l08Run_c z352 c353 _ (A0.go hB) (A1.go hB) (h268.base (Nat.zero_le _)) hx3 (Dj.new A0.m h268.ownR (Nat.le_refl _)) (Dj.new A1.m h268.ownR (Nat.le_refl _))) (fun a vv w l ⟨b354, v356, v357, v360, rb361, v365, rb366, ib374, hv381, K355, BK355, i358, i359, h363, fr364, h368, fr369, d370, d371, i372, dj376, d377, d378, d379, d380, h373, fi375⟩ F => ?_)
  subst vv
  replace h373 := Row.rebase0 h373 h268.lo
  have d382 := dj1 h268.memR BK355
  have d383 := (dj1 h268.rd.m BK355).symm
  have CK355 := Nat.le_trans hB.size BK355
  replace h363 := Row.rebase h363 (Frs.trans0 fr364 h268.lo hB.size)
  replace h368 := Row.rebase h368 (Frs.trans0 fr369 h268.lo hB.size)
  replace hB := hB.o l h268.lo hB.size
  refine o_move F rfl rfl (fun a F => ?_)
  refine o_extract F rfl rfl rfl (fun a F => ?_)
  refine o_extract F rfl rfl rfl (fun a F => ?_)
  refine o_assign F rfl rfl (fun a F => ?_)
  refine o_assign F rfl rfl (fun a F => ?_)
  refine x_end ?_
  refine x_tn ?_
  refine x_seq ?_
  refine x_seq ?_
  refine x_reg ?_
  refine o_move F rfl rfl (fun a F => ?_)
  refine o_eql F rfl rfl rfl (fun a F => ?_)
  refine x_end ?_
  refine x_tn ?_
  refine x_if F rfl (fun hb387 => ?_) (fun hb387 => ?_)
  ·
   replace hR := ifT hb387 hR
   refine x_seq ?_
   refine x_reg ?_
   refine o_move F rfl rfl (fun a F => ?_)
   refine o_assign F rfl rfl (fun a F => ?_)
   refine o_assign F rfl rfl (fun a F => ?_)
   refine x_end ?_
   refine x_tn ?_
   refine x_ret ?_
   refine x_tr ?_
   refine x_res2 F rfl (rv_t F rfl) (rv_t F rfl) ?_
   obtain rfl := Option.some.inj hR
   exact ⟨_, rfl, hB, rfl, i372⟩
  ·
   replace hR := ifF hb387 hR
   refine x_skip ?_
   refine x_tn ?_
   refine x_seq ?_
   refine x_reg ?_
   refine o_move F rfl rfl (fun a F => ?_)
   refine o_eql F rfl rfl rfl (fun a F => ?_)
   refine o_assign F rfl rfl (fun a F => ?_)
   refine o_assign F rfl rfl (fun a F => ?_)
   refine x_end ?_
   refine x_tn ?_
   refine x_ret ?_
   refine x_res2 F rfl (rv_t F rfl) (rv_t F rfl) ?_
   obtain rfl := Option.some.inj hR
   exact ⟨_, rfl, hB, rfl, (show I64 (0) by decide)⟩

def spec_IsNoGood (N : Nat) (x0 : Template) (x1 : Instance) (x2 : List Literal) (x3 : Int) : Option (Bool × Int) :=
 bnd (spec_l08Listed (Template.mk x0.size x0.rels) (Instance.mk x1.vars x1.cons) x2 x3) fun z31 =>
 if (z31 != 0) then
  some (false, z31)
 else
  bnd (spec_l08Bad N (Template.mk x0.size x0.rels) (Instance.mk x1.vars x1.cons) x2 x3) fun z34 =>
  some (z34.1, z34.2)
set_option maxHeartbeats 1000000 in
theorem spec_IsNoGood_c {N : Nat} {x0 : Template} {x1 : Instance} {x2 : List Literal} {x3 : Int} (r : Bool × Int) (hR : spec_IsNoGood N x0 x1 x2 x3 = some r) {v0 : Value} {b0 : List Nat} {v1 : Value} {b1 : List Nat} {v2 : Value} {b2 : List Nat} (w0 : World) (A0 : Rd (Agg 2 RTemplate) w0 v0 x0 b0) (A1 : Rd (Agg 2 RInstance) w0 v1 x1 b1) (A2 : Rd (Sl 2 RLiteral) w0 v2 x2 b2) (hx3 : I64 x3) : Calls Tryz.prog 33 #[v0, v1, v2, .int .i64 x3] w0 (Gives (fun v w' => v = .tuple #[.bool r.1, .int .i64 r.2] ∧ I64 r.2) w0) := by
 unfold spec_IsNoGood at hR
 refine x_enter (L := [(0, v0), (1, v1), (2, v2), (3, .int .i64 x3)]) Tryz.func33 rfl rfl rfl (sc rfl (sc rfl (sc rfl (sc rfl sn)))) (fun a F => ?_)
 have hB := Below.refl w0.heap.size w0
 refine x_seq ?_
 refine x_reg ?_
 obtain ⟨v15, b16, e18, i14, h17, eb13⟩ := RTemplate.rd (A0.go hB)
 subst e18
 refine o_box F rfl rfl rfl (fun a w b11 K12 l BK12 F => ?_)
 have d19 := (dj1 h17.m BK12).symm
 have CK12 := Nat.le_trans hB.size BK12
 replace hB := Below.through l hB
 replace h17 := h17.go l
 obtain ⟨v24, b25, e27, i23, h26, eb22⟩ := RInstance.rd (A1.go hB)
 subst e27
 refine o_box F rfl rfl rfl (fun a w b20 K21 l BK21 F => ?_)
 have nb28 := Dj.bb K12 BK21
 have d29 := (dj1 h17.m BK21).symm
 have d30 := (dj1 h26.m BK21).symm
 have CK21 := Nat.le_trans hB.size BK21
 replace hB := Below.through l hB
 replace h17 := h17.go l
 replace h26 := h26.go l
 replace K12 := K12.thru l
 refine o_assign F rfl rfl (fun a F => ?_)
 refine o_assign F rfl rfl (fun a F => ?_)
 refine x_end ?_
 refine x_tn ?_
 refine x_seq ?_
 refine x_seq ?_
 refine x_reg ?_
 refine o_move F rfl rfl (fun a F => ?_)
 refine o_move F rfl rfl (fun a F => ?_)
 obtain ⟨z31, c32, hR⟩ := bnd_some hR
 refine o_saysI F rfl Tryz.call92 rfl (spec_l08Listed_c z31 c32 _ (RTemplate.blk K12 i14 h17) (RInstance.blk K21 i23 h26) (A2.go hB) hx3) (fun a w l iz31 F => ?_)
 replace hB := Below.through l hB
 replace h17 := h17.go l
 replace h26 := h26.go l
 replace K12 := K12.thru l
 replace K21 := K21.thru l
 refine o_assign F rfl rfl (fun a F => ?_)
 refine x_end ?_
 refine x_tn ?_
 refine x_seq ?_
 refine x_reg ?_
 refine o_move F rfl rfl (fun a F => ?_)
 refine o_neq F rfl rfl rfl (fun a F => ?_)
 refine x_end ?_
 refine x_tn ?_
 refine x_if F rfl (fun hb33 => ?_) (fun hb33 => ?_)
 ·
  replace hR := ifT hb33 hR
  refine x_seq ?_
  refine x_reg ?_
  refine o_move F rfl rfl (fun a F => ?_)
  refine o_assign F rfl rfl (fun a F => ?_)
  refine o_assign F rfl rfl (fun a F => ?_)
  refine x_end ?_
  refine x_tn ?_
  refine x_ret ?_
  refine x_tr ?_
  refine x_res2 F rfl (rv_t F rfl) (rv_t F rfl) ?_
  obtain rfl := Option.some.inj hR
  exact ⟨_, rfl, hB, rfl, iz31⟩
 ·
  replace hR := ifF hb33 hR
  refine x_skip ?_
  refine x_tn ?_
  refine x_seq ?_
  refine x_reg ?_
  refine o_move F rfl rfl (fun a F => ?_)
  refine o_move F rfl rfl (fun a F => ?_)
  obtain ⟨z34, c35, hR⟩ := bnd_some hR
  refine o_gives F rfl Tryz.call93 rfl (spec_l08Bad_c z34 c35 _ (RTemplate.blk K12 i14 h17) (RInstance.blk K21 i23 h26) (A2.go hB) hx3) (fun a vv w l ⟨hv37, i36⟩ F => ?_)
  subst vv
  replace hB := Below.through l hB
  refine o_extract F rfl rfl rfl (fun a F => ?_)
  refine o_extract F rfl rfl rfl (fun a F => ?_)
  refine o_assign F rfl rfl (fun a F => ?_)
  refine o_assign F rfl rfl (fun a F => ?_)
  refine x_end ?_
  refine x_tn ?_
  refine x_ret ?_
  refine x_res2 F rfl (rv_t F rfl) (rv_t F rfl) ?_
  obtain rfl := Option.some.inj hR
  exact ⟨_, rfl, hB, rfl, i36⟩

def impl_areLiterals_1 (x0 : Literal) (y0 : Instance) (y1 : Template) : Option Bool :=
 thn (σ := Bool) (
  bnd (ck (y0.vars - 1)) fun z43 =>
  bnd (impl_within x0.var 0 z43) fun z45 =>
  if (!z45) then  some (.nx true) else  bnd (impl_isValue y1.size x0.value) fun z53 =>
   some (.nx (!z53))) fun s37 =>
 some s37
set_option maxHeartbeats 1000000 in
theorem impl_areLiterals_1_c {x0 : Literal} {y0 : Instance} {y1 : Template} (r : Bool) (hR : impl_areLiterals_1 x0 y0 y1 = some r) {v0 : Value} {b0 : List Nat} {v1 : Value} {b1 : List Nat} {v2 : Value} {b2 : List Nat} (w0 : World) (A0 : Rd (Agg 2 RLiteral) w0 v0 x0 b0) (A1 : Rd (Pt 2 RInstance) w0 v1 y0 b1) (A2 : Rd (Pt 2 RTemplate) w0 v2 y1 b2) : Calls Tryz.prog 160 #[v0, v1, v2] w0 (Says (.bool r) w0) := by
 unfold impl_areLiterals_1 at hR
 refine x_enter (L := [(0, v0), (1, v1), (2, v2)]) Tryz.func160 rfl rfl rfl (sc rfl (sc rfl (sc rfl sn))) (fun a F => ?_)
 have hB := Below.refl w0.heap.size w0
 refine x_seq ?_
 refine x_reg ?_
 obtain ⟨e16, i14, i15, eb13⟩ := RLiteral.rd (A0.go hB)
 subst e16
 refine o_box F rfl rfl rfl (fun a w b11 K12 l BK12 F => ?_)
 have CK12 := Nat.le_trans hB.size BK12
 replace hB := Below.through l hB
 refine o_assign F rfl rfl (fun a F => ?_)
 refine x_end ?_
 refine x_tn ?_
 refine x_seq ?_
 obtain ⟨o34, hR, hk35⟩ := thn_some hR
 refine x_cutQ (fun a w => ∃ (s37 : Bool), o34 = .nx s37 ∧ Sk a 20 [(4, .bool s37)] ∧ Below w0.heap.size w0 w) ?_ ?_
 ·
  refine x_reg ?_
  refine o_bfield fa136_0 F rfl rfl rfl (fun a F => ?_)
  refine o_bload Tryz.isAgg2 F rfl rfl K12 rfl (fun a F => ?_)
  refine o_field (s' := 1) fa51_0 F rfl rfl (A1.go hB) RInstance.f0 (fun a p38 b39 h40 s41 F => ?_)
  have i42 := (h40).i64
  refine o_loadI Tryz.isAgg2 F rfl rfl h40 (fun a F => ?_)
  obtain ⟨z43, c44, hR⟩ := bnd_some hR
  refine o_sub F rfl rfl rfl c44 (fun a F => ?_)
  obtain ⟨z45, c46, hR⟩ := bnd_some hR
  refine o_says F rfl Tryz.call155 rfl (impl_within_c z45 c46 _ i14 (show I64 (0) by decide) (ck64 c44)) (fun a w l F => ?_)
  replace hB := Below.through l hB
  replace K12 := K12.thru l
  refine o_not F rfl rfl (fun a F => ?_)
  refine o_move F rfl rfl (fun a F => ?_)
  rcases bcases (!z45) with hb47 | hb47
  ·
   replace hR := ifT hb47 hR
   have F := F.eq (t := 12) rfl (congrArg Value.bool hb47)
   refine o_no F rfl rfl (fun a F => ?_)
   refine o_no F rfl rfl (fun a F => ?_)
   refine o_no F rfl rfl (fun a F => ?_)
   refine o_no F rfl rfl (fun a F => ?_)
   refine o_no F rfl rfl (fun a F => ?_)
   refine o_no F rfl rfl (fun a F => ?_)
   refine o_pickt F rfl rfl rfl (fun a F => ?_)
   refine o_assign F rfl rfl (fun a F => ?_)
   refine x_end ?_
   refine x_tn ?_
   exact ⟨true, (Option.some.inj hR).symm, F.sub (sc rfl sn), hB⟩
  ·
   replace hR := ifF hb47 hR
   have F := F.eq (t := 12) rfl (congrArg Value.bool hb47)
   refine o_field (s' := 1) fa33_0 F rfl rfl (A2.go hB) RTemplate.f0 (fun a p48 b49 h50 s51 F => ?_)
   have i52 := (h50).i64
   refine o_loadI Tryz.isAgg2 F rfl rfl h50 (fun a F => ?_)
   refine o_bfield fa136_1 F rfl rfl rfl (fun a F => ?_)
   refine o_bload Tryz.isAgg2 F rfl rfl K12 rfl (fun a F => ?_)
   obtain ⟨z53, c54, hR⟩ := bnd_some hR
   refine o_says F rfl Tryz.call161 rfl (impl_isValue_c z53 c54 _ i52 i15) (fun a w l F => ?_)
   replace hB := Below.through l hB
   refine o_not F rfl rfl (fun a F => ?_)
   refine o_pickf F rfl rfl rfl (fun a F => ?_)
   refine o_assign F rfl rfl (fun a F => ?_)
   refine x_end ?_
   refine x_tn ?_
   exact ⟨(!z53), (Option.some.inj hR).symm, F.sub (sc rfl sn), hB⟩
 ·
  intro a w ⟨s37, ho36, F, hB⟩
  subst ho36
  have hR := then_nx hk35
  refine x_tn ?_
  refine x_ret ?_
  refine x_res1 F rfl (rv_t F rfl) ?_
  obtain rfl := Option.some.inj hR
  exact ⟨rfl, hB⟩

def slices_IndexFunc_s_Literal_Literal (x0 : List Literal) (x1 : Literal → Option Bool) : Option Int :=
 thn (σ := Unit) (
  forL (σ := Unit) (ρ := Int) (fun (k29 : Nat) (x31 : Literal) (s : Unit) =>
    match s with
    | _ =>
    bnd (x1 x31) fun z43 =>
    if z43 then
     some (.ret ((k29 : Int)))
    else
     some (.go ())) x0 0 ()) fun _ =>
 some ((-1))
set_option maxHeartbeats 1000000 in
theorem slices_IndexFunc_s_Literal_Literal_c {x0 : List Literal} {x1 : Literal → Option Bool} (r : Int) (hR : slices_IndexFunc_s_Literal_Literal x0 x1 = some r) {v0 : Value} {b0 : List Nat} {g1 : FuncId} {lb1 : List Value} (w0 : World) (A0 : Rd (Sl 2 RLiteral) w0 v0 x0 b0) (hg1 : ∀ args w, (callFunc g1 args).run Tryz.prog w = .ok (.enter g1 args) w) (hp1 : ∀ (a0 : Literal) (r : Bool), x1 a0 = some r → ∀ W, Below w0.heap.size w0 W → ∀ (u0 : Value) (c0 : List Nat), Rd (Agg 2 RLiteral) W u0 a0 c0 → Calls Tryz.prog g1 ([u0] ++ lb1 : List Value).toArray W (Says (.bool r) W)) : Calls Tryz.prog 224 #[v0, .func (.func g1) #[] lb1.toArray] w0 (SaysI r w0) := by
 unfold slices_IndexFunc_s_Literal_Literal at hR
 refine x_enter (L := [(0, v0), (1, .func (.func g1) #[] lb1.toArray)]) Tryz.func224 rfl rfl rfl (sc rfl (sc rfl sn)) (fun a F => ?_)
 have hB := Below.refl w0.heap.size w0
 refine x_seq ?_
 refine x_reg ?_
 refine o_assign F rfl rfl (fun a F => ?_)
 refine x_end ?_
 refine x_tn ?_
 refine x_seq ?_
 refine x_seq ?_
 refine x_reg ?_
 refine o_move F rfl rfl (fun a F => ?_)
 refine o_len Tryz.underlying63 F rfl rfl (A0.go hB) (fun a F => ?_)
 have i11 := ((A0.go hB)).r.len64
 refine o_move F rfl rfl (fun a F => ?_)
 refine x_end ?_
 refine x_tn ?_
 obtain ⟨o23, hR, hk24⟩ := thn_some hR
 refine x_cutQ (fun a w => o23 = .nx () ∧ Sk a 19 [] ∧ Below w0.heap.size w0 w) ?_ ?_
 ·
  refine x_blk ?_
  obtain ⟨fl27, hf28, hR⟩ := forL_gen hR
  refine x_loop (fun g a w => ∃ (k29 : Nat) (rest30 : List Literal), (k29 ≤ x0.length ∧ x0.drop k29 = rest30) ∧ rest30.length = g ∧ forL fl27 rest30 k29 () = some o23 ∧ Sk a 19 [(8, .int .i64 (k29 : Int)), (0, v0), (1, .func (.func g1) #[] lb1.toArray), (7, .int .i64 (x0.length : Int))] ∧ Below w0.heap.size w0 w) x0.length ?_ ?_
  ·
   exact ⟨0, x0, ⟨Nat.zero_le _, rfl⟩, rfl, hR, F.sub (sc rfl (sc rfl (sc rfl (sc rfl sn)))), hB⟩
  ·
   intro g32 a w ⟨k29, rest30, hd33, hg34, hR, F, hB⟩
   cases rest30 with
   | nil =>
    replace hR := forL_nil hR
    have hkk29 := drop_nil hd33.1 hd33.2
    have hlk29 := dec_no hkk29
    refine x_seq ?_
    refine x_reg ?_
    refine o_lss F rfl rfl rfl (fun a F => ?_)
    refine x_end ?_
    refine x_tn ?_
    refine x_seq ?_
    refine x_ifF F rfl hlk29 ?_
    refine x_exit ?_
    refine x_te ?_
    refine x_te ?_
    refine x_be ?_
    refine x_tn ?_
    exact ⟨(Option.some.inj hR).symm, F.sub sn, hB⟩
   | cons x31 rest30 =>
    subst hg34
    replace hd33 := drop_cons hd33.2
    have hxk29 := ix_nat hd33.2.1
    obtain ⟨ck29, hR, hn26⟩ := forL_cons hR
    rw [hf28] at hR
    have hlk29 := dec_yes hd33.1
    refine x_seq ?_
    refine x_reg ?_
    refine o_lss F rfl rfl rfl (fun a F => ?_)
    refine x_end ?_
    refine x_tn ?_
    refine x_seq ?_
    refine x_ifT F rfl hlk29 ?_
    refine x_skip ?_
    refine x_tn ?_
    refine x_seq ?_
    have ikk29 := k64 (Nat.le_of_lt hd33.1) i11
    have ink29 := inc64 hd33.1 i11
    refine x_blk ?_
    refine x_seq ?_
    refine x_reg ?_
    refine o_move F rfl rfl (fun a F => ?_)
    refine o_assign F rfl rfl (fun a F => ?_)
    refine x_end ?_
    refine x_tn ?_
    refine x_seq ?_
    refine x_reg ?_
    refine o_move F rfl rfl (fun a F => ?_)
    refine o_move F rfl rfl (fun a F => ?_)
    refine o_move F rfl rfl (fun a F => ?_)
    refine o_index Tryz.underlying63 Tryz.sizeOf136 F rfl rfl rfl (A0.go hB) hxk29 (fun a p35 b36 h37 s38 F => ?_)
    refine o_loadA Tryz.isAgg136 Tryz.sizeOf136 F rfl rfl h37 (fun a v39 b40 h41 s42 F => ?_)
    obtain ⟨z43, c44, hR⟩ := bnd_some hR
    refine o_saysV F rfl rfl hg1 rfl (hp1 _ z43 c44 _ hB _ _ h41) (fun a w l F => ?_)
    replace hB := Below.through l hB
    refine x_end ?_
    refine x_tn ?_
    refine x_if F rfl (fun hb45 => ?_) (fun hb45 => ?_)
    ·
     replace hR := ifT hb45 hR
     refine x_seq ?_
     refine x_reg ?_
     refine o_move F rfl rfl (fun a F => ?_)
     refine o_assign F rfl rfl (fun a F => ?_)
     refine x_end ?_
     refine x_tn ?_
     refine x_ret ?_
     refine x_br ?_
     refine x_tr ?_
     refine x_tr ?_
     replace hR := l_ret hR hn26
     refine x_br ?_
     refine x_tr ?_
     replace hR := j_ret hR hk24
     refine x_tr ?_
     refine x_res1 F rfl (rv_t F rfl) ?_
     obtain rfl := Option.some.inj hR
     exact ⟨⟨rfl, hB⟩, ikk29⟩
    ·
     replace hR := ifF hb45 hR
     refine x_skip ?_
     refine x_bn ?_
     refine x_tn ?_
     refine x_reg ?_
     refine o_inc F rfl rfl rfl ink29 (fun a F => ?_)
     refine o_move F rfl rfl (fun a F => ?_)
     refine x_end ?_
     refine x_tn ?_
     replace hR := l_go hR hn26
     exact ⟨_, Nat.lt_succ_self _, k29 + 1, rest30, ⟨hd33.1, hd33.2.2⟩, rfl, hR, F.sub (sc rfl (sc rfl (sc rfl (sc rfl sn)))), hB⟩
 ·
  intro a w ⟨ho25, F, hB⟩
  subst ho25
  have hR := then_nx hk24
  refine x_tn ?_
  refine x_seq ?_
  refine x_reg ?_
  refine o_assign F rfl rfl (fun a F => ?_)
  refine x_end ?_
  refine x_tn ?_
  refine x_ret ?_
  refine x_res1 F rfl (rv_t F rfl) ?_
  obtain rfl := Option.some.inj hR
  exact ⟨⟨rfl, hB⟩, (show I64 (-1) by decide)⟩

def slices_ContainsFunc_s_Literal_Literal (x0 : List Literal) (x1 : Literal → Option Bool) : Option Bool :=
 bnd (slices_IndexFunc_s_Literal_Literal x0 x1) fun z11 =>
 some ((decide (0 ≤ z11)))
set_option maxHeartbeats 1000000 in
theorem slices_ContainsFunc_s_Literal_Literal_c {x0 : List Literal} {x1 : Literal → Option Bool} (r : Bool) (hR : slices_ContainsFunc_s_Literal_Literal x0 x1 = some r) {v0 : Value} {b0 : List Nat} {g1 : FuncId} {lb1 : List Value} (w0 : World) (A0 : Rd (Sl 2 RLiteral) w0 v0 x0 b0) (hg1 : ∀ args w, (callFunc g1 args).run Tryz.prog w = .ok (.enter g1 args) w) (hp1 : ∀ (a0 : Literal) (r : Bool), x1 a0 = some r → ∀ W, Below w0.heap.size w0 W → ∀ (u0 : Value) (c0 : List Nat), Rd (Agg 2 RLiteral) W u0 a0 c0 → Calls Tryz.prog g1 ([u0] ++ lb1 : List Value).toArray W (Says (.bool r) W)) : Calls Tryz.prog 159 #[v0, .func (.func g1) #[] lb1.toArray] w0 (Says (.bool r) w0) := by
 unfold slices_ContainsFunc_s_Literal_Literal at hR
 refine x_enter (L := [(0, v0), (1, .func (.func g1) #[] lb1.toArray)]) Tryz.func159 rfl rfl rfl (sc rfl (sc rfl sn)) (fun a F => ?_)
 have hB := Below.refl w0.heap.size w0
 refine x_seq ?_
 refine x_reg ?_
 refine o_assign F rfl rfl (fun a F => ?_)
 refine x_end ?_
 refine x_tn ?_
 refine x_seq ?_
 refine x_reg ?_
 refine o_move F rfl rfl (fun a F => ?_)
 refine o_move F rfl rfl (fun a F => ?_)
 obtain ⟨z11, c12, hR⟩ := bnd_some hR
 refine o_saysI F rfl Tryz.call224 rfl (slices_IndexFunc_s_Literal_Literal_c z11 c12 _ (A0.go hB) hg1 (fun a0 r h W l => hp1 a0 r h W (hB.through' l))) (fun a w l iz11 F => ?_)
 replace hB := Below.through l hB
 refine o_geq F rfl rfl rfl (fun a F => ?_)
 refine o_assign F rfl rfl (fun a F => ?_)
 refine x_end ?_
 refine x_tn ?_
 refine x_ret ?_
 refine x_res1 F rfl (rv_t F rfl) ?_
 obtain rfl := Option.some.inj hR
 exact ⟨rfl, hB⟩

def impl_areLiterals (x0 : Template) (x1 : Instance) (x2 : List Literal) : Option Bool :=
 bnd (slices_ContainsFunc_s_Literal_Literal x2 (fun a0 => impl_areLiterals_1 a0 (Instance.mk x1.vars x1.cons) (Template.mk x0.size x0.rels))) fun z31 =>
 some ((!z31))
set_option maxHeartbeats 1000000 in
theorem impl_areLiterals_c {x0 : Template} {x1 : Instance} {x2 : List Literal} (r : Bool) (hR : impl_areLiterals x0 x1 x2 = some r) {v0 : Value} {b0 : List Nat} {v1 : Value} {b1 : List Nat} {v2 : Value} {b2 : List Nat} (w0 : World) (A0 : Rd (Agg 2 RTemplate) w0 v0 x0 b0) (A1 : Rd (Agg 2 RInstance) w0 v1 x1 b1) (A2 : Rd (Sl 2 RLiteral) w0 v2 x2 b2) : Calls Tryz.prog 95 #[v0, v1, v2] w0 (Says (.bool r) w0) := by
 unfold impl_areLiterals at hR
 refine x_enter (L := [(0, v0), (1, v1), (2, v2)]) Tryz.func95 rfl rfl rfl (sc rfl (sc rfl (sc rfl sn))) (fun a F => ?_)
 have hB := Below.refl w0.heap.size w0
 refine x_seq ?_
 refine x_reg ?_
 obtain ⟨v15, b16, e18, i14, h17, eb13⟩ := RTemplate.rd (A0.go hB)
 subst e18
 refine o_box F rfl rfl rfl (fun a w b11 K12 l BK12 F => ?_)
 have d19 := (dj1 h17.m BK12).symm
 have CK12 := Nat.le_trans hB.size BK12
 replace hB := Below.through l hB
 replace h17 := h17.go l
 obtain ⟨v24, b25, e27, i23, h26, eb22⟩ := RInstance.rd (A1.go hB)
 subst e27
 refine o_box F rfl rfl rfl (fun a w b20 K21 l BK21 F => ?_)
 have nb28 := Dj.bb K12 BK21
 have d29 := (dj1 h17.m BK21).symm
 have d30 := (dj1 h26.m BK21).symm
 have CK21 := Nat.le_trans hB.size BK21
 replace hB := Below.through l hB
 replace h17 := h17.go l
 replace h26 := h26.go l
 replace K12 := K12.thru l
 refine o_assign F rfl rfl (fun a F => ?_)
 refine x_end ?_
 refine x_tn ?_
 refine x_seq ?_
 refine x_reg ?_
 refine o_move F rfl rfl (fun a F => ?_)
 refine o_func F rfl rfl rfl (fun a F => ?_)
 obtain ⟨z31, c32, hR⟩ := bnd_some hR
 refine o_says F rfl Tryz.call159 rfl (slices_ContainsFunc_s_Literal_Literal_c z31 c32 _ (A2.go hB) Tryz.call160 (fun a0 r h W l u0 c0 f0 => impl_areLiterals_1_c r h W f0 ((RInstance.blk K21 i23 h26).go l) ((RTemplate.blk K12 i14 h17).go l))) (fun a w l F => ?_)
 replace hB := Below.through l hB
 refine o_not F rfl rfl (fun a F => ?_)
 refine o_assign F rfl rfl (fun a F => ?_)
 refine x_end ?_
 refine x_tn ?_
 refine x_ret ?_
 refine x_res1 F rfl (rv_t F rfl) ?_
 obtain rfl := Option.some.inj hR
 exact ⟨rfl, hB⟩

def impl_isNoGood (N : Nat) (x0 : Template) (x1 : Instance) (x2 : List Literal) (x3 : Int) : Option (Bool × Int) :=
 bnd (impl_fullDomains (Template.mk x0.size x0.rels) (Instance.mk x1.vars x1.cons)) fun z33 =>
 thn (σ := (List (List Int))) (
  forL (σ := (List (List Int))) (ρ := Bool × Int) (fun (k328 : Nat) (x330 : Literal) (s308 : (List (List Int))) =>
   bnd (ix s308 x330.var) fun z356 =>
   bnd (slices_Contains_s_int64_int64 z356 x330.value) fun z366 =>
   if z366 then
    some (.go (s308.set (x330.var).toNat ([x330.value])))
   else
    some (.go (s308.set (x330.var).toNat ([])))) x2 0 z33) fun s318 =>
 bnd (impl_searched N (Template.mk x0.size x0.rels) (Instance.mk x1.vars x1.cons) s318 x3) fun z413 =>
 if (z413.1.2.2.2.2.2.2 == 7) then
  some (false, 7)
 else
  some ((z413.1.2.2.2.2.2.2 == 6), 0)
set_option maxHeartbeats 1000000 in
theorem impl_isNoGood_c {N : Nat} {x0 : Template} {x1 : Instance} {x2 : List Literal} {x3 : Int} (r : Bool × Int) (hR : impl_isNoGood N x0 x1 x2 x3 = some r) {v0 : Value} {b0 : List Nat} {v1 : Value} {b1 : List Nat} {v2 : Value} {b2 : List Nat} (w0 : World) (A0 : Rd (Agg 2 RTemplate) w0 v0 x0 b0) (A1 : Rd (Agg 2 RInstance) w0 v1 x1 b1) (A2 : Rd (Sl 2 RLiteral) w0 v2 x2 b2) (hx3 : I64 x3) : Calls Tryz.prog 96 #[v0, v1, v2, .int .i64 x3] w0 (Gives (fun v w' => v = .tuple #[.bool r.1, .int .i64 r.2] ∧ I64 r.2) w0) := by
 unfold impl_isNoGood at hR
 refine x_enter (L := [(0, v0), (1, v1), (2, v2), (3, .int .i64 x3)]) Tryz.func96 rfl rfl rfl (sc rfl (sc rfl (sc rfl (sc rfl sn)))) (fun a F => ?_)
 have hB := Below.refl w0.heap.size w0
 refine x_seq ?_
 refine x_reg ?_
 obtain ⟨v15, b16, e18, i14, h17, eb13⟩ := RTemplate.rd (A0.go hB)
 subst e18
 refine o_box F rfl rfl rfl (fun a w b11 K12 l BK12 F => ?_)
 have d19 := (dj1 h17.m BK12).symm
 have CK12 := Nat.le_trans hB.size BK12
 replace hB := Below.through l hB
 replace h17 := h17.go l
 obtain ⟨v24, b25, e27, i23, h26, eb22⟩ := RInstance.rd (A1.go hB)
 subst e27
 refine o_box F rfl rfl rfl (fun a w b20 K21 l BK21 F => ?_)
 have nb28 := Dj.bb K12 BK21
 have d29 := (dj1 h17.m BK21).symm
 have d30 := (dj1 h26.m BK21).symm
 have CK21 := Nat.le_trans hB.size BK21
 replace hB := Below.through l hB
 replace h17 := h17.go l
 replace h26 := h26.go l
 replace K12 := K12.thru l
 refine o_assign F rfl rfl (fun a F => ?_)
 refine o_assign F rfl rfl (fun a F => ?_)
 refine x_end ?_
 refine x_tn ?_
 refine x_seq ?_
 refine x_reg ?_
 refine o_bloadA (cs := [.int .i64 x0.size, v15]) Tryz.isAgg33 Tryz.sizeOf33 F rfl rfl K12 rfl (fun j hj => by match j, hj with | 0, _ => rfl | 1, _ => rfl) (fun a F => ?_)
 have h31 := RTemplate.mk2 (w := w) i14 h17
 refine o_bloadA (cs := [.int .i64 x1.vars, v24]) Tryz.isAgg51 Tryz.sizeOf51 F rfl rfl K21 rfl (fun j hj => by match j, hj with | 0, _ => rfl | 1, _ => rfl) (fun a F => ?_)
 have h32 := RInstance.mk2 (w := w) i23 h26
 obtain ⟨z33, c34, hR⟩ := bnd_some hR
 refine o_gives F rfl Tryz.call88 rfl (impl_fullDomains_c z33 c34 _ h31 h32) (fun a vv w l ⟨v35, rb36, ib37, hv40, h38, ow39⟩ F => ?_)
 subst vv
 have o41 := h38.own ow39
 have d42 := (Dj.new (inm1 K12) o41 (Nat.le_refl _)).symm
 have d43 := (Dj.new (inm1 K21) o41 (Nat.le_refl _)).symm
 have d45 := Dj.new h17.m h38.ownR (Nat.le_refl _)
 have d46 := Dj.new h26.m h38.ownR (Nat.le_refl _)
 have d47 := Dj.new (inm1 K12) h38.ownR (Nat.le_refl _)
 have d48 := Dj.new (inm1 K21) h38.ownR (Nat.le_refl _)
 replace h38 := h38.base hB.size
 replace ow39 := ow39.mono hB.size
 replace hB := Below.through l hB
 replace h17 := h17.go l
 replace h26 := h26.go l
 replace K12 := K12.thru l
 replace K21 := K21.thru l
 refine o_assign F rfl rfl (fun a F => ?_)
 refine x_end ?_
 refine x_tn ?_
 refine x_seq ?_
 refine x_seq ?_
 refine x_reg ?_
 refine o_move F rfl rfl (fun a F => ?_)
 refine o_len Tryz.underlying63 F rfl rfl (A2.go hB) (fun a F => ?_)
 have i49 := ((A2.go hB)).r.len64
 refine o_move F rfl rfl (fun a F => ?_)
 refine x_end ?_
 refine x_tn ?_
 obtain ⟨o302, hR, hk303⟩ := thn_some hR
 refine x_cutQ (fun a w => ∃ (s318 : List (List Int)) (v321 : Value) (rb322 : List Nat) (ib323 : List Nat), o302 = .nx s318 ∧ Sk a 58 [(3, .int .i64 x3), (4, .pointer (some ⟨b11, 0, none⟩)), (5, .pointer (some ⟨b20, 0, none⟩)), (10, v321)] ∧ Below w0.heap.size w0 w ∧ Row 1 (RSl 1 RInt) 46 w0.heap.size w v321 s318 rb322 ib323 ∧ Rd (Sl 2 RRel) w v15 x0.rels b16 ∧ Rd (Sl 2 RCon) w v24 x1.cons b25 ∧ Blk w b11 #[.int .i64 x0.size, v15] 33 ∧ Blk w b20 #[.int .i64 x1.vars, v24] 51 ∧ Dj b16 rb322 ∧ Dj b25 rb322 ∧ Dj (rb322 ++ ib323) [b11] ∧ Dj (rb322 ++ ib323) [b20]) ?_ ?_
 ·
  refine x_blk ?_
  obtain ⟨fl306, hf307, hR⟩ := forL_gen hR
  refine x_loop (fun g a w => ∃ (k328 : Nat) (rest329 : List Literal) (s308 : List (List Int)) (v311 : Value) (rb312 : List Nat) (ib313 : List Nat), (k328 ≤ x2.length ∧ x2.drop k328 = rest329) ∧ rest329.length = g ∧ forL fl306 rest329 k328 s308 = some o302 ∧ Sk a 58 [(19, .int .i64 (k328 : Int)), (3, .int .i64 x3), (4, .pointer (some ⟨b11, 0, none⟩)), (5, .pointer (some ⟨b20, 0, none⟩)), (10, v311), (17, v2), (18, .int .i64 (x2.length : Int))] ∧ Below w0.heap.size w0 w ∧ Row 1 (RSl 1 RInt) 46 w0.heap.size w v311 s308 rb312 ib313 ∧ Rd (Sl 2 RRel) w v15 x0.rels b16 ∧ Rd (Sl 2 RCon) w v24 x1.cons b25 ∧ Blk w b11 #[.int .i64 x0.size, v15] 33 ∧ Blk w b20 #[.int .i64 x1.vars, v24] 51 ∧ Dj b16 rb312 ∧ Dj b25 rb312 ∧ Dj (rb312 ++ ib313) [b11] ∧ Dj (rb312 ++ ib313) [b20]) x2.length ?_ ?_
  ·
   exact ⟨0, x2, z33, v35, rb36, ib37, ⟨Nat.zero_le _, rfl⟩, rfl, hR, F.sub (sc rfl (sc rfl (sc rfl (sc rfl (sc rfl (sc rfl (sc rfl sn))))))), hB, h38, h17, h26, K12, K21, d45, d46, d42, d43⟩
  ·
   intro g331 a w ⟨k328, rest329, s308, v311, rb312, ib313, hd332, hg333, hR, F, hB, h310, h17, h26, K12, K21, d314, d315, d316, d317⟩
   cases rest329 with
   | nil =>
    replace hR := forL_nil hR
    have hkk328 := drop_nil hd332.1 hd332.2
    have hlk328 := dec_no hkk328
    refine x_seq ?_
    refine x_reg ?_
    refine o_lss F rfl rfl rfl (fun a F => ?_)
    refine x_end ?_
    refine x_tn ?_
    refine x_seq ?_
    refine x_ifF F rfl hlk328 ?_
    refine x_exit ?_
    refine x_te ?_
    refine x_te ?_
    refine x_be ?_
    refine x_tn ?_
    exact ⟨s308, v311, rb312, ib313, (Option.some.inj hR).symm, F.sub (sc rfl (sc rfl (sc rfl (sc rfl sn)))), hB, h310, h17, h26, K12, K21, d314, d315, d316, d317⟩
   | cons x330 rest329 =>
    subst hg333
    replace hd332 := drop_cons hd332.2
    have hxk328 := ix_nat hd332.2.1
    obtain ⟨ck328, hR, hn305⟩ := forL_cons hR
    rw [hf307] at hR
    have hlk328 := dec_yes hd332.1
    refine x_seq ?_
    refine x_reg ?_
    refine o_lss F rfl rfl rfl (fun a F => ?_)
    refine x_end ?_
    refine x_tn ?_
    refine x_seq ?_
    refine x_ifT F rfl hlk328 ?_
    refine x_skip ?_
    refine x_tn ?_
    refine x_seq ?_
    have ikk328 := k64 (Nat.le_of_lt hd332.1) i49
    have ink328 := inc64 hd332.1 i49
    refine x_blk ?_
    refine x_seq ?_
    refine x_reg ?_
    refine o_index Tryz.underlying63 Tryz.sizeOf136 F rfl rfl rfl (A2.go hB) hxk328 (fun a p334 b335 h336 s337 F => ?_)
    refine o_loadA Tryz.isAgg136 Tryz.sizeOf136 F rfl rfl h336 (fun a v338 b339 h340 s341 F => ?_)
    refine o_alloc Tryz.zeroValue136 F rfl rfl (fun a w b342 K343 l BK343 F => ?_)
    have d344 := dj1 h310.memR BK343
    have nb345 := Dj.bb K12 BK343
    have nb346 := Dj.bb K21 BK343
    have d347 := (dj1 h17.m BK343).symm
    have d348 := (dj1 h26.m BK343).symm
    have d349 := (dj1 h336.m BK343).symm
    have d350 := (dj1 h340.m BK343).symm
    have d351 := (dj1 h310.rd.m BK343).symm
    have CK343 := Nat.le_trans hB.size BK343
    replace hB := Below.through l hB
    replace h17 := h17.go l
    replace h26 := h26.go l
    replace h310 := h310.go l
    replace h340 := h340.go l
    replace K12 := K12.thru l
    replace K21 := K21.thru l
    obtain ⟨e355, i353, i354, eb352⟩ := RLiteral.rd h340
    subst e355
    refine o_bstoreA (vs := [.int .i64 x330.var, .int .i64 x330.value]) Tryz.sizeOf136 F rfl rfl rfl K343 (oc rfl (oc rfl on)) (Nat.le_of_ble_eq_true rfl) rfl (fun w K343 l => ?_)
    replace hB := hB.o l (fun c hc => by rw [List.mem_singleton] at hc; rw [hc]; exact CK343) hB.size
    replace h17 := h17.goO l d347
    replace h26 := h26.goO l d348
    replace h310 := h310.goO l d351
    replace K12 := K12.only l (by simpa using nb345)
    replace K21 := K21.only l (by simpa using nb346)
    refine x_end ?_
    refine x_tn ?_
    refine x_seq ?_
    refine x_draw (by kernel_rfl) (by kernel_rfl) ?_
    refine q_val F rfl (fun w l => r_move F rfl) (fun a F => ?_)
    refine q_val F rfl (fun w l => r_bfield fa136_0 F rfl rfl) (fun a F => ?_)
    refine q_val F rfl (fun w l => r_load1 Tryz.isAgg2 F rfl (((K343.thru l).cell _).trans rfl)) (fun a F => ?_)
    obtain ⟨z356, c357, hR⟩ := bnd_some hR
    refine q_index Tryz.underlying72 Tryz.sizeOf46 F rfl rfl rfl h310.rd c357 (fun a p358 b359 h360 s361 F => ?_)
    refine q_loadS (fun _ l => l) Tryz.isAgg46 F rfl rfl h360 (fun a v362 b363 h364 s365 F => ?_)
    refine q_val F rfl (fun w l => r_bfield fa136_1 F rfl rfl) (fun a F => ?_)
    refine q_val F rfl (fun w l => r_load1 Tryz.isAgg2 F rfl (((K343.thru l).cell _).trans rfl)) (fun a F => ?_)
    obtain ⟨z366, c367, hR⟩ := bnd_some hR
    refine q_says F rfl Tryz.call162 rfl (fun w w' h l => l.through h) (fun w l => slices_Contains_s_int64_int64_c z366 c367 w (h364.go l) i354) (fun a F => ?_)
    refine q_end (fun w l => ?_)
    replace hB := Below.through l hB
    replace h17 := h17.go l
    replace h26 := h26.go l
    replace h310 := h310.go l
    replace K12 := K12.thru l
    replace K21 := K21.thru l
    replace K343 := K343.thru l
    refine x_tn ?_
    refine x_if F rfl (fun hb368 => ?_) (fun hb368 => ?_)
    ·
     replace hR := ifT hb368 hR
     refine x_reg ?_
     refine o_move F rfl rfl (fun a F => ?_)
     refine o_bfield fa136_0 F rfl rfl rfl (fun a F => ?_)
     refine o_bload Tryz.isAgg2 F rfl rfl K343 rfl (fun a F => ?_)
     refine o_bfield fa136_1 F rfl rfl rfl (fun a F => ?_)
     refine o_bload Tryz.isAgg2 F rfl rfl K343 rfl (fun a F => ?_)
     refine o_lit1 (R := RInt) (y := x330.value) Tryz.underlying46 Tryz.sizeOf2 Tryz.zeroValue2 rfl (by decide) (by decide) F rfl rfl (El.int i354) (fun a w v369 rb370 h371 l F => ?_)
     have d373 := Dj.new h17.m h371.ownR (Nat.le_refl _)
     have d374 := Dj.new h26.m h371.ownR (Nat.le_refl _)
     have d375 := Dj.new h310.rd.m h371.ownR (Nat.le_refl _)
     have d376 := Dj.new (inm1 K12) h371.ownR (Nat.le_refl _)
     have d377 := Dj.new (inm1 K21) h371.ownR (Nat.le_refl _)
     have d378 := Dj.app' (Dj.new h310.memR h371.ownR (Nat.le_refl _)).symm (Dj.nil' _)
     have d379 := Dj.app' (Dj.new h310.mem h371.ownR (Nat.le_refl _)).symm (Dj.nil' _)
     replace h371 := h371.base hB.size
     replace hB := Below.through l hB
     replace h17 := h17.go l
     replace h26 := h26.go l
     replace h310 := h310.go l
     replace K12 := K12.thru l
     replace K21 := K21.thru l
     refine o_rindex Tryz.underlying72 Tryz.sizeOf46 F rfl rfl rfl h310 c357 (fun a p380 b381 h382 s383 rp384 F => ?_)
     refine o_rstore Tryz.sizeOf46 F rfl rfl rfl h310 rp384 (ix_lt c357) (El.sl h371.rd) (h371.rd).r.one (Dj.symm d378) (fun w ib386 h385 l s387 keep => ?_)
     have d389 := keep _ h17.m d314
     have d390 := keep _ h26.m d315
     have d391 := keep _ (inm1 K12) (Dj.symm (Dj.l d316))
     have d392 := keep _ (inm1 K21) (Dj.symm (Dj.l d317))
     replace hB := hB.o l h310.lo hB.size
     replace h17 := h17.goO l d314
     replace h26 := h26.goO l d315
     replace K12 := K12.only l (Dj.symm (Dj.l d316)).not
     replace K21 := K21.only l (Dj.symm (Dj.l d317)).not
     have d393 := Dj.stor d316 (Dj.app' (Dj.symm d376) (Dj.nil' _)) s387
     have d394 := Dj.stor d317 (Dj.app' (Dj.symm d377) (Dj.nil' _)) s387
     refine x_end ?_
     refine x_bn ?_
     refine x_tn ?_
     refine x_reg ?_
     refine o_inc F rfl rfl rfl ink328 (fun a F => ?_)
     refine o_move F rfl rfl (fun a F => ?_)
     refine x_end ?_
     refine x_tn ?_
     replace hR := l_go hR hn305
     exact ⟨_, Nat.lt_succ_self _, k328 + 1, rest329, (s308.set (x330.var).toNat ([x330.value])), v311, rb312, ib386, ⟨hd332.1, hd332.2.2⟩, rfl, hR, F.sub (sc rfl (sc rfl (sc rfl (sc rfl (sc rfl (sc rfl (sc rfl sn))))))), hB, h385, h17, h26, K12, K21, d389, d390, d393, d394⟩
    ·
     replace hR := ifF hb368 hR
     refine x_reg ?_
     refine o_move F rfl rfl (fun a F => ?_)
     refine o_bfield fa136_0 F rfl rfl rfl (fun a F => ?_)
     refine o_bload Tryz.isAgg2 F rfl rfl K343 rfl (fun a F => ?_)
     refine o_rindex Tryz.underlying72 Tryz.sizeOf46 F rfl rfl rfl h310 c357 (fun a p395 b396 h397 s398 rp399 F => ?_)
     refine o_rstore Tryz.sizeOf46 F rfl rfl rfl h310 rp399 (ix_lt c357) (El.sl (Rd.nil 1 RInt _)) rfl (Dj.nil _) (fun w ib401 h400 l s402 keep => ?_)
     have d404 := keep _ h17.m d314
     have d405 := keep _ h26.m d315
     have d406 := keep _ (inm1 K12) (Dj.symm (Dj.l d316))
     have d407 := keep _ (inm1 K21) (Dj.symm (Dj.l d317))
     have d408 := keep _ (inm1 K343) d344
     replace hB := hB.o l h310.lo hB.size
     replace h17 := h17.goO l d314
     replace h26 := h26.goO l d315
     replace K12 := K12.only l (Dj.symm (Dj.l d316)).not
     replace K21 := K21.only l (Dj.symm (Dj.l d317)).not
     have d409 := Dj.stor d316 (Dj.nil' _) s402
     have d410 := Dj.stor d317 (Dj.nil' _) s402
     refine x_end ?_
     refine x_bn ?_
     refine x_tn ?_
     refine x_reg ?_
     refine o_inc F rfl rfl rfl ink328 (fun a F => ?_)
     refine o_move F rfl rfl (fun a F => ?_)
     refine x_end ?_
     refine x_tn ?_
     replace hR := l_go hR hn305
     exact ⟨_, Nat.lt_succ_self _, k328 + 1, rest329, (s308.set (x330.var).toNat ([])), v311, rb312, ib401, ⟨hd332.1, hd332.2.2⟩, rfl, hR, F.sub (sc rfl (sc rfl (sc rfl (sc rfl (sc rfl (sc rfl (sc rfl sn))))))), hB, h400, h17, h26, K12, K21, d404, d405, d409, d410⟩
 ·
  intro a w ⟨s318, v321, rb322, ib323, ho304, F, hB, h320, h17, h26, K12, K21, d324, d325, d326, d327⟩
  subst ho304
  have hR := then_nx hk303
  refine x_tn ?_
  refine x_seq ?_
  refine x_reg ?_
  refine o_bloadA (cs := [.int .i64 x0.size, v15]) Tryz.isAgg33 Tryz.sizeOf33 F rfl rfl K12 rfl (fun j hj => by match j, hj with | 0, _ => rfl | 1, _ => rfl) (fun a F => ?_)
  have h411 := RTemplate.mk2 (w := w) i14 h17
  refine o_bloadA (cs := [.int .i64 x1.vars, v24]) Tryz.isAgg51 Tryz.sizeOf51 F rfl rfl K21 rfl (fun j hj => by match j, hj with | 0, _ => rfl | 1, _ => rfl) (fun a F => ?_)
  have h412 := RInstance.mk2 (w := w) i23 h26
  refine o_move F rfl rfl (fun a F => ?_)
  refine o_move F rfl rfl (fun a F => ?_)
  obtain ⟨z413, c414, hR⟩ := bnd_some hR
  refine o_givesX F rfl Tryz.call87 rfl (impl_searched_c z413 c414 _ h411 h412 (h320.base (Nat.zero_le _)) hx3 d324 d325) (fun a vv w l ⟨b415, v418, v420, v423, rb424, v428, rb429, ib437, hv444, K416, BK416, i417, i419, i421, i422, h426, fr427, h431, fr432, i433, d434, d435, dj439, d440, d441, d442, d443, h436, fi438⟩ F => ?_)
  subst vv
  replace h436 := Row.rebase0 h436 h320.lo
  have d445 := dj1 h320.memR BK416
  have d446 := (dj1 h320.rd.m BK416).symm
  have CK416 := Nat.le_trans hB.size BK416
  replace h426 := Row.rebase h426 (Frs.trans0 fr427 h320.lo hB.size)
  replace h431 := Row.rebase h431 (Frs.trans0 fr432 h320.lo hB.size)
  replace hB := hB.o l h320.lo hB.size
  refine o_assign F rfl rfl (fun a F => ?_)
  refine x_end ?_
  refine x_tn ?_
  refine x_seq ?_
  refine x_seq ?_
  refine x_reg ?_
  refine o_move F rfl rfl (fun a F => ?_)
  refine o_nilCheck F rfl rfl (fun a F => ?_)
  refine o_bfield fa129_6 F rfl rfl rfl (fun a F => ?_)
  refine o_bload Tryz.isAgg2 F rfl rfl K416 rfl (fun a F => ?_)
  refine o_eql F rfl rfl rfl (fun a F => ?_)
  refine x_end ?_
  refine x_tn ?_
  refine x_if F rfl (fun hb450 => ?_) (fun hb450 => ?_)
  ·
   replace hR := ifT hb450 hR
   refine x_seq ?_
   refine x_reg ?_
   refine o_assign F rfl rfl (fun a F => ?_)
   refine o_assign F rfl rfl (fun a F => ?_)
   refine x_end ?_
   refine x_tn ?_
   refine x_ret ?_
   refine x_tr ?_
   refine x_res2 F rfl (rv_t F rfl) (rv_t F rfl) ?_
   obtain rfl := Option.some.inj hR
   exact ⟨_, rfl, hB, rfl, (show I64 (7) by decide)⟩
  ·
   replace hR := ifF hb450 hR
   refine x_skip ?_
   refine x_tn ?_
   refine x_seq ?_
   refine x_reg ?_
   refine o_move F rfl rfl (fun a F => ?_)
   refine o_nilCheck F rfl rfl (fun a F => ?_)
   refine o_bfield fa129_6 F rfl rfl rfl (fun a F => ?_)
   refine o_bload Tryz.isAgg2 F rfl rfl K416 rfl (fun a F => ?_)
   refine o_eql F rfl rfl rfl (fun a F => ?_)
   refine o_assign F rfl rfl (fun a F => ?_)
   refine o_assign F rfl rfl (fun a F => ?_)
   refine x_end ?_
   refine x_tn ?_
   refine x_ret ?_
   refine x_res2 F rfl (rv_t F rfl) (rv_t F rfl) ?_
   obtain rfl := Option.some.inj hR
   exact ⟨_, rfl, hB, rfl, (show I64 (0) by decide)⟩

def impl_IsNoGood (N : Nat) (x0 : Template) (x1 : Instance) (x2 : List Literal) (x3 : Int) : Option (Bool × Int) :=
 bnd (impl_budgetFault (Template.mk x0.size x0.rels) (Instance.mk x1.vars x1.cons) x3) fun z33 =>
 if (z33 != 0) then
  some (false, z33)
 else
  bnd (impl_areLiterals (Template.mk x0.size x0.rels) (Instance.mk x1.vars x1.cons) x2) fun z38 =>
  if (!z38) then
   some (false, 2)
  else
   bnd (impl_isNoGood N (Template.mk x0.size x0.rels) (Instance.mk x1.vars x1.cons) x2 x3) fun z43 =>
   some (z43.1, z43.2)
set_option maxHeartbeats 1000000 in
theorem impl_IsNoGood_c {N : Nat} {x0 : Template} {x1 : Instance} {x2 : List Literal} {x3 : Int} (r : Bool × Int) (hR : impl_IsNoGood N x0 x1 x2 x3 = some r) {v0 : Value} {b0 : List Nat} {v1 : Value} {b1 : List Nat} {v2 : Value} {b2 : List Nat} (w0 : World) (A0 : Rd (Agg 2 RTemplate) w0 v0 x0 b0) (A1 : Rd (Agg 2 RInstance) w0 v1 x1 b1) (A2 : Rd (Sl 2 RLiteral) w0 v2 x2 b2) (hx3 : I64 x3) : Calls Tryz.prog 35 #[v0, v1, v2, .int .i64 x3] w0 (Gives (fun v w' => v = .tuple #[.bool r.1, .int .i64 r.2] ∧ I64 r.2) w0) := by
 unfold impl_IsNoGood at hR
 refine x_enter (L := [(0, v0), (1, v1), (2, v2), (3, .int .i64 x3)]) Tryz.func35 rfl rfl rfl (sc rfl (sc rfl (sc rfl (sc rfl sn)))) (fun a F => ?_)
 have hB := Below.refl w0.heap.size w0
 refine x_seq ?_
 refine x_reg ?_
 obtain ⟨v15, b16, e18, i14, h17, eb13⟩ := RTemplate.rd (A0.go hB)
 subst e18
 refine o_box F rfl rfl rfl (fun a w b11 K12 l BK12 F => ?_)
 have d19 := (dj1 h17.m BK12).symm
 have CK12 := Nat.le_trans hB.size BK12
 replace hB := Below.through l hB
 replace h17 := h17.go l
 obtain ⟨v24, b25, e27, i23, h26, eb22⟩ := RInstance.rd (A1.go hB)
 subst e27
 refine o_box F rfl rfl rfl (fun a w b20 K21 l BK21 F => ?_)
 have nb28 := Dj.bb K12 BK21
 have d29 := (dj1 h17.m BK21).symm
 have d30 := (dj1 h26.m BK21).symm
 have CK21 := Nat.le_trans hB.size BK21
 replace hB := Below.through l hB
 replace h17 := h17.go l
 replace h26 := h26.go l
 replace K12 := K12.thru l
 refine o_assign F rfl rfl (fun a F => ?_)
 refine o_assign F rfl rfl (fun a F => ?_)
 refine x_end ?_
 refine x_tn ?_
 refine x_seq ?_
 refine x_seq ?_
 refine x_reg ?_
 refine o_bloadA (cs := [.int .i64 x0.size, v15]) Tryz.isAgg33 Tryz.sizeOf33 F rfl rfl K12 rfl (fun j hj => by match j, hj with | 0, _ => rfl | 1, _ => rfl) (fun a F => ?_)
 have h31 := RTemplate.mk2 (w := w) i14 h17
 refine o_bloadA (cs := [.int .i64 x1.vars, v24]) Tryz.isAgg51 Tryz.sizeOf51 F rfl rfl K21 rfl (fun j hj => by match j, hj with | 0, _ => rfl | 1, _ => rfl) (fun a F => ?_)
 have h32 := RInstance.mk2 (w := w) i23 h26
 refine o_move F rfl rfl (fun a F => ?_)
 obtain ⟨z33, c34, hR⟩ := bnd_some hR
 refine o_saysI F rfl Tryz.call86 rfl (impl_budgetFault_c z33 c34 _ h31 h32 hx3) (fun a w l iz33 F => ?_)
 replace hB := Below.through l hB
 replace h17 := h17.go l
 replace h26 := h26.go l
 replace K12 := K12.thru l
 replace K21 := K21.thru l
 refine o_assign F rfl rfl (fun a F => ?_)
 refine x_end ?_
 refine x_tn ?_
 refine x_seq ?_
 refine x_reg ?_
 refine o_move F rfl rfl (fun a F => ?_)
 refine o_neq F rfl rfl rfl (fun a F => ?_)
 refine x_end ?_
 refine x_tn ?_
 refine x_if F rfl (fun hb35 => ?_) (fun hb35 => ?_)
 ·
  replace hR := ifT hb35 hR
  refine x_seq ?_
  refine x_reg ?_
  refine o_move F rfl rfl (fun a F => ?_)
  refine o_assign F rfl rfl (fun a F => ?_)
  refine o_assign F rfl rfl (fun a F => ?_)
  refine x_end ?_
  refine x_tn ?_
  refine x_ret ?_
  refine x_tr ?_
  refine x_res2 F rfl (rv_t F rfl) (rv_t F rfl) ?_
  obtain rfl := Option.some.inj hR
  exact ⟨_, rfl, hB, rfl, iz33⟩
 ·
  replace hR := ifF hb35 hR
  refine x_skip ?_
  refine x_tn ?_
  refine x_seq ?_
  refine x_seq ?_
  refine x_reg ?_
  refine o_bloadA (cs := [.int .i64 x0.size, v15]) Tryz.isAgg33 Tryz.sizeOf33 F rfl rfl K12 rfl (fun j hj => by match j, hj with | 0, _ => rfl | 1, _ => rfl) (fun a F => ?_)
  have h36 := RTemplate.mk2 (w := w) i14 h17
  refine o_bloadA (cs := [.int .i64 x1.vars, v24]) Tryz.isAgg51 Tryz.sizeOf51 F rfl rfl K21 rfl (fun j hj => by match j, hj with | 0, _ => rfl | 1, _ => rfl) (fun a F => ?_)
  have h37 := RInstance.mk2 (w := w) i23 h26
  refine o_move F rfl rfl (fun a F => ?_)
  obtain ⟨z38, c39, hR⟩ := bnd_some hR
  refine o_says F rfl Tryz.call95 rfl (impl_areLiterals_c z38 c39 _ h36 h37 (A2.go hB)) (fun a w l F => ?_)
  replace hB := Below.through l hB
  replace h17 := h17.go l
  replace h26 := h26.go l
  replace K12 := K12.thru l
  replace K21 := K21.thru l
  refine o_not F rfl rfl (fun a F => ?_)
  refine x_end ?_
  refine x_tn ?_
  refine x_if F rfl (fun hb40 => ?_) (fun hb40 => ?_)
  ·
   replace hR := ifT hb40 hR
   refine x_seq ?_
   refine x_reg ?_
   refine o_assign F rfl rfl (fun a F => ?_)
   refine o_assign F rfl rfl (fun a F => ?_)
   refine x_end ?_
   refine x_tn ?_
   refine x_ret ?_
   refine x_tr ?_
   refine x_res2 F rfl (rv_t F rfl) (rv_t F rfl) ?_
   obtain rfl := Option.some.inj hR
   exact ⟨_, rfl, hB, rfl, (show I64 (2) by decide)⟩
  ·
   replace hR := ifF hb40 hR
   refine x_skip ?_
   refine x_tn ?_
   refine x_seq ?_
   refine x_reg ?_
   refine o_bloadA (cs := [.int .i64 x0.size, v15]) Tryz.isAgg33 Tryz.sizeOf33 F rfl rfl K12 rfl (fun j hj => by match j, hj with | 0, _ => rfl | 1, _ => rfl) (fun a F => ?_)
   have h41 := RTemplate.mk2 (w := w) i14 h17
   refine o_bloadA (cs := [.int .i64 x1.vars, v24]) Tryz.isAgg51 Tryz.sizeOf51 F rfl rfl K21 rfl (fun j hj => by match j, hj with | 0, _ => rfl | 1, _ => rfl) (fun a F => ?_)
   have h42 := RInstance.mk2 (w := w) i23 h26
   refine o_move F rfl rfl (fun a F => ?_)
   refine o_move F rfl rfl (fun a F => ?_)
   obtain ⟨z43, c44, hR⟩ := bnd_some hR
   refine o_gives F rfl Tryz.call96 rfl (impl_isNoGood_c z43 c44 _ h41 h42 (A2.go hB) hx3) (fun a vv w l ⟨hv46, i45⟩ F => ?_)
   subst vv
   replace hB := Below.through l hB
   refine o_extract F rfl rfl rfl (fun a F => ?_)
   refine o_extract F rfl rfl rfl (fun a F => ?_)
   refine o_assign F rfl rfl (fun a F => ?_)
   refine o_assign F rfl rfl (fun a F => ?_)
   refine x_end ?_
   refine x_tn ?_
   refine x_ret ?_
   refine x_res2 F rfl (rv_t F rfl) (rv_t F rfl) ?_
   obtain rfl := Option.some.inj hR
   exact ⟨_, rfl, hB, rfl, i45⟩
end Go.Proofs.YtfepllddlmhjiaaGreat
