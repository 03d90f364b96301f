/-
  Functions of the program as plain functions, and that they compute them. Printed by fxio.py.
-/
import Derived.Test.YtfggmelojaicfaaGreatS2
namespace Go.Proofs.YtfggmelojaicfaaGreat
set_option linter.unusedVariables false
set_option linter.unusedSimpArgs false
set_option maxRecDepth 100000
open Go.RowKit
def spec_l08Literals (x0 : Template) (x1 : Instance) (x2 : List Literal) : Option Bool :=
 thn (σ := Unit) (
  forL (σ := Unit) (ρ := Bool) (fun (k98 : Nat) (x100 : Literal) (s : Unit) =>
    match s with
    | _ =>
    thn (σ := Bool) (
     bnd (ck (x1.vars - 1)) fun z160 =>
     bnd (spec_l00In x100.var 0 z160) fun z162 =>
     if (!z162) then  some (.nx true) else  bnd (ck (x0.size - 1)) fun z179 =>
      bnd (spec_l00In x100.value 0 z179) fun z181 =>
      some (.nx (!z181))) fun s145 =>
    if s145 then
     some (.ret false)
    else
     some (.go ())) x2 0 ()) fun _ =>
 some true
set_option maxHeartbeats 1000000 in
theorem spec_l08Literals_c {x0 : Template} {x1 : Instance} {x2 : List Literal} (r : Bool) (hR : spec_l08Literals x0 x1 x2 = some r) {v0 : Value} {b0 : List Nat} {v1 : Value} {b1 : List Nat} {v2 : Value} {b2 : List Nat} (w0 : World) (A0 : Rd (Pt 2 RTemplate) w0 v0 x0 b0) (A1 : Rd (Pt 2 RInstance) w0 v1 x1 b1) (A2 : Rd (Sl 2 RLiteral) w0 v2 x2 b2) : Calls Tryz.prog 81 #[v0, v1, v2] w0 (Says (.bool r) w0) := by
 unfold spec_l08Literals at hR
 refine x_enter (L := [(0, v0), (1, v1), (2, v2)]) Tryz.func81 rfl rfl rfl (sc rfl (sc rfl (sc rfl sn))) (fun a F => ?_)
 have hB := Below.refl w0.heap.size w0
 refine x_seq ?_
 refine x_reg ?_
 refine o_assign F rfl rfl (fun a F => ?_)
 refine x_end ?_
 refine x_tn ?_
 refine x_seq ?_
 refine x_seq ?_
 refine x_reg ?_
 refine o_assign F rfl rfl (fun a F => ?_)
 refine x_end ?_
 refine x_tn ?_
 obtain ⟨o92, hR, hk93⟩ := thn_some hR
 refine x_cutQ (fun a w => o92 = .nx () ∧ Sk a 40 [] ∧ Below w0.heap.size w0 w) ?_ ?_
 ·
  refine x_blk ?_
  obtain ⟨fl96, hf97, hR⟩ := forL_gen hR
  refine x_loop (fun g a w => ∃ (k98 : Nat) (rest99 : List Literal), (k98 ≤ x2.length ∧ x2.drop k98 = rest99) ∧ rest99.length = g ∧ forL fl96 rest99 k98 () = some o92 ∧ Sk a 40 [(7, .int .i64 (k98 : Int)), (0, v0), (1, v1), (2, v2)] ∧ Below w0.heap.size w0 w) x2.length ?_ ?_
  ·
   exact ⟨0, x2, ⟨Nat.zero_le _, rfl⟩, rfl, hR, F.sub (sc rfl (sc rfl (sc rfl (sc rfl sn)))), hB⟩
  intro g101 a w ⟨k98, rest99, hd102, hg103, hR, F, hB⟩
  cases rest99 with
  | nil =>
   replace hR := forL_nil hR
   have hkk98 := drop_nil hd102.1 hd102.2
   have hlk98 := dec_no hkk98
   refine x_seq ?_
   refine x_seq ?_
   refine x_reg ?_
   refine o_move F rfl rfl (fun a F => ?_)
   refine o_move F rfl rfl (fun a F => ?_)
   refine o_len Tryz.underlying124 F rfl rfl (A2.go hB) (fun a F => ?_)
   have i184 := ((A2.go hB)).r.len64
   refine o_lss F rfl rfl rfl (fun a F => ?_)
   refine x_end ?_
   refine x_tn ?_
   refine x_ifF F rfl hlk98 ?_
   refine x_exit ?_
   refine x_te ?_
   refine x_te ?_
   refine x_be ?_
   refine x_tn ?_
   exact ⟨(Option.some.inj hR).symm, F.sub sn, hB⟩
  | cons x100 rest99 =>
   subst hg103
   replace hd102 := drop_cons hd102.2
   have hxk98 := ix_nat hd102.2.1
   obtain ⟨ck98, hR, hn95⟩ := forL_cons hR
   rw [hf97] at hR
   have hlk98 := dec_yes hd102.1
   refine x_seq ?_
   refine x_seq ?_
   refine x_reg ?_
   refine o_move F rfl rfl (fun a F => ?_)
   refine o_move F rfl rfl (fun a F => ?_)
   refine o_len Tryz.underlying124 F rfl rfl (A2.go hB) (fun a F => ?_)
   have i104 := ((A2.go hB)).r.len64
   refine o_lss F rfl rfl rfl (fun a F => ?_)
   refine x_end ?_
   refine x_tn ?_
   refine x_ifT F rfl hlk98 ?_
   refine x_skip ?_
   refine x_tn ?_
   refine x_seq ?_
   have ikk98 := k64 (Nat.le_of_lt hd102.1) i104
   have ink98 := inc64 hd102.1 i104
   refine x_blk ?_
   refine x_seq ?_
   obtain ⟨o142, hR, hk143⟩ := thn_some hR
   refine x_cutQ (fun a w => ∃ (s145 : Bool), o142 = .nx s145 ∧ Sk a 40 [(0, v0), (1, v1), (2, v2), (7, .int .i64 (k98 : Int)), (39, .bool s145)] ∧ Below w0.heap.size w0 w) ?_ ?_
   ·
    refine x_draw (by kernel_rfl) (by kernel_rfl) ?_
    refine q_val F rfl (fun w l => r_move F rfl) (fun a F => ?_)
    refine q_val F rfl (fun w l => r_move F rfl) (fun a F => ?_)
    refine q_index Tryz.underlying124 Tryz.sizeOf132 F rfl rfl rfl (A2.go hB) hxk98 (fun a p146 b147 h148 s149 F => ?_)
    refine q_field (s' := 1) fa132_0 F rfl rfl h148 RLiteral.f0 (fun a p150 b151 h152 s153 F => ?_)
    have i154 := (h152).i64
    refine q_val F rfl (fun w l => r_loadI Tryz.isAgg2 F rfl ((h152).go l)) (fun a F => ?_)
    refine q_val F rfl (fun w l => r_move F rfl) (fun a F => ?_)
    refine q_val F rfl (fun w l => r_nilCheckP F rfl (A1.go hB)) (fun a F => ?_)
    refine q_field (s' := 1) fa60_0 F rfl rfl (A1.go hB) RInstance.f0 (fun a p155 b156 h157 s158 F => ?_)
    have i159 := (h157).i64
    refine q_val F rfl (fun w l => r_loadI Tryz.isAgg2 F rfl ((h157).go l)) (fun a F => ?_)
    obtain ⟨z160, c161, hR⟩ := bnd_some hR
    refine q_val F rfl (fun w l => r_sub F rfl rfl c161) (fun a F => ?_)
    obtain ⟨z162, c163, hR⟩ := bnd_some hR
    refine q_says F rfl Tryz.call162 rfl (fun w w' h l => l.through h) (fun w l => spec_l00In_c z162 c163 w i154 (show I64 (0) by decide) (ck64 c161)) (fun a F => ?_)
    refine q_val F rfl (fun w l => r_not F rfl) (fun a F => ?_)
    refine q_val F rfl (fun w l => r_move F rfl) (fun a F => ?_)
    rcases bcases (!z162) with hb164 | hb164
    ·
     replace hR := ifT hb164 hR
     have F := F.eq (t := 26) rfl (congrArg Value.bool hb164)
     refine q_no F rfl rfl (fun a F => ?_)
     refine q_no F rfl rfl (fun a F => ?_)
     refine q_no F rfl rfl (fun a F => ?_)
     refine q_no F rfl rfl (fun a F => ?_)
     refine q_no F rfl rfl (fun a F => ?_)
     refine q_no F rfl rfl (fun a F => ?_)
     refine q_no F rfl rfl (fun a F => ?_)
     refine q_no F rfl rfl (fun a F => ?_)
     refine q_no F rfl rfl (fun a F => ?_)
     refine q_no F rfl rfl (fun a F => ?_)
     refine q_no F rfl rfl (fun a F => ?_)
     refine q_no F rfl rfl (fun a F => ?_)
     refine q_val F rfl (fun w l => r_pickt F rfl rfl) (fun a F => ?_)
     refine q_end (fun w l => ?_)
     replace hB := Below.through l hB
     refine x_tn ?_
     exact ⟨true, (Option.some.inj hR).symm, F.sub (sc rfl (sc rfl (sc rfl (sc rfl (sc rfl sn))))), hB⟩
    replace hR := ifF hb164 hR
    have F := F.eq (t := 26) rfl (congrArg Value.bool hb164)
    refine q_val F rfl (fun w l => r_move F rfl) (fun a F => ?_)
    refine q_val F rfl (fun w l => r_move F rfl) (fun a F => ?_)
    refine q_index Tryz.underlying124 Tryz.sizeOf132 F rfl rfl rfl (A2.go hB) hxk98 (fun a p165 b166 h167 s168 F => ?_)
    refine q_field (s' := 1) fa132_1 F rfl rfl h167 RLiteral.f1 (fun a p169 b170 h171 s172 F => ?_)
    have i173 := (h171).i64
    refine q_val F rfl (fun w l => r_loadI Tryz.isAgg2 F rfl ((h171).go l)) (fun a F => ?_)
    refine q_val F rfl (fun w l => r_move F rfl) (fun a F => ?_)
    refine q_val F rfl (fun w l => r_nilCheckP F rfl (A0.go hB)) (fun a F => ?_)
    refine q_field (s' := 1) fa33_0 F rfl rfl (A0.go hB) RTemplate.f0 (fun a p174 b175 h176 s177 F => ?_)
    have i178 := (h176).i64
    refine q_val F rfl (fun w l => r_loadI Tryz.isAgg2 F rfl ((h176).go l)) (fun a F => ?_)
    obtain ⟨z179, c180, hR⟩ := bnd_some hR
    refine q_val F rfl (fun w l => r_sub F rfl rfl c180) (fun a F => ?_)
    obtain ⟨z181, c182, hR⟩ := bnd_some hR
    refine q_says F rfl Tryz.call162 rfl (fun w w' h l => l.through h) (fun w l => spec_l00In_c z181 c182 w i173 (show I64 (0) by decide) (ck64 c180)) (fun a F => ?_)
    refine q_val F rfl (fun w l => r_not F rfl) (fun a F => ?_)
    refine q_val F rfl (fun w l => r_pickf F rfl rfl) (fun a F => ?_)
    refine q_end (fun w l => ?_)
    replace hB := Below.through l hB
    refine x_tn ?_
    exact ⟨(!z181), (Option.some.inj hR).symm, F.sub (sc rfl (sc rfl (sc rfl (sc rfl (sc rfl sn))))), hB⟩
   intro a w ⟨s145, ho144, F, hB⟩
   subst ho144
   have hR := then_nx hk143
   refine x_tn ?_
   refine x_if F rfl (fun hb183 => ?_) (fun hb183 => ?_)
   ·
    replace hR := ifT hb183 hR
    refine x_seq ?_
    refine x_reg ?_
    refine o_assign F rfl rfl (fun a F => ?_)
    refine x_end ?_
    refine x_tn ?_
    refine x_ret ?_
    refine x_br ?_
    refine x_tr ?_
    refine x_tr ?_
    replace hR := l_ret hR hn95
    refine x_br ?_
    refine x_tr ?_
    replace hR := j_ret hR hk93
    refine x_tr ?_
    refine x_res1 F rfl (rv_t F rfl) ?_
    obtain rfl := Option.some.inj hR
    exact ⟨rfl, hB⟩
   replace hR := ifF hb183 hR
   refine x_skip ?_
   refine x_bn ?_
   refine x_tn ?_
   refine x_reg ?_
   refine o_move F rfl rfl (fun a F => ?_)
   refine o_inc F rfl rfl rfl ink98 (fun a F => ?_)
   refine o_assign F rfl rfl (fun a F => ?_)
   refine x_end ?_
   refine x_tn ?_
   replace hR := l_go hR hn95
   exact ⟨_, Nat.lt_succ_self _, k98 + 1, rest99, ⟨hd102.1, hd102.2.2⟩, rfl, hR, F.sub (sc rfl (sc rfl (sc rfl (sc rfl sn)))), hB⟩
 intro a w ⟨ho94, F, hB⟩
 subst ho94
 have hR := then_nx hk93
 refine x_tn ?_
 refine x_seq ?_
 refine x_reg ?_
 refine o_assign F rfl rfl (fun a F => ?_)
 refine x_end ?_
 refine x_tn ?_
 refine x_ret ?_
 refine x_res1 F rfl (rv_t F rfl) ?_
 obtain rfl := Option.some.inj hR
 exact ⟨rfl, hB⟩

def impl_areLiterals_1 (x0 : Literal) (y0 : Instance) (y1 : Template) : Option Bool :=
 thn (σ := Bool) (
  bnd (ck (y0.vars - 1)) fun z43 =>
  bnd (impl_within x0.var 0 z43) fun z45 =>
  if (!z45) then  some (.nx true) else  bnd (impl_isValue y1.size x0.value) fun z53 =>
   some (.nx (!z53))) fun s37 =>
 some s37
set_option maxHeartbeats 1000000 in
theorem impl_areLiterals_1_c {x0 : Literal} {y0 : Instance} {y1 : Template} (r : Bool) (hR : impl_areLiterals_1 x0 y0 y1 = some r) {v0 : Value} {b0 : List Nat} {v1 : Value} {b1 : List Nat} {v2 : Value} {b2 : List Nat} (w0 : World) (A0 : Rd (Agg 2 RLiteral) w0 v0 x0 b0) (A1 : Rd (Pt 2 RInstance) w0 v1 y0 b1) (A2 : Rd (Pt 2 RTemplate) w0 v2 y1 b2) : Calls Tryz.prog 174 #[v0, v1, v2] w0 (Says (.bool r) w0) := by
 unfold impl_areLiterals_1 at hR
 refine x_enter (L := [(0, v0), (1, v1), (2, v2)]) Tryz.func174 rfl rfl rfl (sc rfl (sc rfl (sc rfl sn))) (fun a F => ?_)
 have hB := Below.refl w0.heap.size w0
 refine x_seq ?_
 refine x_reg ?_
 obtain ⟨e16, i14, i15, eb13⟩ := RLiteral.rd (A0.go hB)
 subst e16
 refine o_box F rfl rfl rfl (fun a w b11 K12 l BK12 F => ?_)
 have CK12 := Nat.le_trans hB.size BK12
 replace hB := Below.through l hB
 refine o_assign F rfl rfl (fun a F => ?_)
 refine x_end ?_
 refine x_tn ?_
 refine x_seq ?_
 obtain ⟨o34, hR, hk35⟩ := thn_some hR
 refine x_cutQ (fun a w => ∃ (s37 : Bool), o34 = .nx s37 ∧ Sk a 20 [(4, .bool s37)] ∧ Below w0.heap.size w0 w) ?_ ?_
 ·
  refine x_reg ?_
  refine o_bfield fa132_0 F rfl rfl rfl (fun a F => ?_)
  refine o_bload Tryz.isAgg2 F rfl rfl K12 rfl (fun a F => ?_)
  refine o_field (s' := 1) fa60_0 F rfl rfl (A1.go hB) RInstance.f0 (fun a p38 b39 h40 s41 F => ?_)
  have i42 := (h40).i64
  refine o_loadI Tryz.isAgg2 F rfl rfl h40 (fun a F => ?_)
  obtain ⟨z43, c44, hR⟩ := bnd_some hR
  refine o_sub F rfl rfl rfl c44 (fun a F => ?_)
  obtain ⟨z45, c46, hR⟩ := bnd_some hR
  refine o_says F rfl Tryz.call171 rfl (impl_within_c z45 c46 _ i14 (show I64 (0) by decide) (ck64 c44)) (fun a w l F => ?_)
  replace hB := Below.through l hB
  replace K12 := K12.thru l
  refine o_not F rfl rfl (fun a F => ?_)
  refine o_move F rfl rfl (fun a F => ?_)
  rcases bcases (!z45) with hb47 | hb47
  ·
   replace hR := ifT hb47 hR
   have F := F.eq (t := 12) rfl (congrArg Value.bool hb47)
   refine o_no F rfl rfl (fun a F => ?_)
   refine o_no F rfl rfl (fun a F => ?_)
   refine o_no F rfl rfl (fun a F => ?_)
   refine o_no F rfl rfl (fun a F => ?_)
   refine o_no F rfl rfl (fun a F => ?_)
   refine o_no F rfl rfl (fun a F => ?_)
   refine o_pickt F rfl rfl rfl (fun a F => ?_)
   refine o_assign F rfl rfl (fun a F => ?_)
   refine x_end ?_
   refine x_tn ?_
   exact ⟨true, (Option.some.inj hR).symm, F.sub (sc rfl sn), hB⟩
  replace hR := ifF hb47 hR
  have F := F.eq (t := 12) rfl (congrArg Value.bool hb47)
  refine o_field (s' := 1) fa33_0 F rfl rfl (A2.go hB) RTemplate.f0 (fun a p48 b49 h50 s51 F => ?_)
  have i52 := (h50).i64
  refine o_loadI Tryz.isAgg2 F rfl rfl h50 (fun a F => ?_)
  refine o_bfield fa132_1 F rfl rfl rfl (fun a F => ?_)
  refine o_bload Tryz.isAgg2 F rfl rfl K12 rfl (fun a F => ?_)
  obtain ⟨z53, c54, hR⟩ := bnd_some hR
  refine o_says F rfl Tryz.call175 rfl (impl_isValue_c z53 c54 _ i52 i15) (fun a w l F => ?_)
  replace hB := Below.through l hB
  refine o_not F rfl rfl (fun a F => ?_)
  refine o_pickf F rfl rfl rfl (fun a F => ?_)
  refine o_assign F rfl rfl (fun a F => ?_)
  refine x_end ?_
  refine x_tn ?_
  exact ⟨(!z53), (Option.some.inj hR).symm, F.sub (sc rfl sn), hB⟩
 intro a w ⟨s37, ho36, F, hB⟩
 subst ho36
 have hR := then_nx hk35
 refine x_tn ?_
 refine x_ret ?_
 refine x_res1 F rfl (rv_t F rfl) ?_
 obtain rfl := Option.some.inj hR
 exact ⟨rfl, hB⟩

def slices_IndexFunc_s_Literal_Literal (x0 : List Literal) (x1 : Literal → Option Bool) : Option Int :=
 thn (σ := Unit) (
  forL (σ := Unit) (ρ := Int) (fun (k29 : Nat) (x31 : Literal) (s : Unit) =>
    match s with
    | _ =>
    bnd (x1 x31) fun z43 =>
    if z43 then
     some (.ret ((k29 : Int)))
    else
     some (.go ())) x0 0 ()) fun _ =>
 some ((-1))
set_option maxHeartbeats 1000000 in
theorem slices_IndexFunc_s_Literal_Literal_c {x0 : List Literal} {x1 : Literal → Option Bool} (r : Int) (hR : slices_IndexFunc_s_Literal_Literal x0 x1 = some r) {v0 : Value} {b0 : List Nat} {g1 : FuncId} {lb1 : List Value} (w0 : World) (A0 : Rd (Sl 2 RLiteral) w0 v0 x0 b0) (hg1 : ∀ args w, (callFunc g1 args).run Tryz.prog w = .ok (.enter g1 args) w) (hp1 : ∀ (a0 : Literal) (r : Bool), x1 a0 = some r → ∀ W, Below w0.heap.size w0 W → ∀ (u0 : Value) (c0 : List Nat), Rd (Agg 2 RLiteral) W u0 a0 c0 → Calls Tryz.prog g1 ([u0] ++ lb1 : List Value).toArray W (Says (.bool r) W)) : Calls Tryz.prog 247 #[v0, .func (.func g1) #[] lb1.toArray] w0 (SaysI r w0) := by
 unfold slices_IndexFunc_s_Literal_Literal at hR
 refine x_enter (L := [(0, v0), (1, .func (.func g1) #[] lb1.toArray)]) Tryz.func247 rfl rfl rfl (sc rfl (sc rfl sn)) (fun a F => ?_)
 have hB := Below.refl w0.heap.size w0
 refine x_seq ?_
 refine x_reg ?_
 refine o_assign F rfl rfl (fun a F => ?_)
 refine x_end ?_
 refine x_tn ?_
 refine x_seq ?_
 refine x_seq ?_
 refine x_reg ?_
 refine o_move F rfl rfl (fun a F => ?_)
 refine o_len Tryz.underlying124 F rfl rfl (A0.go hB) (fun a F => ?_)
 have i11 := ((A0.go hB)).r.len64
 refine o_move F rfl rfl (fun a F => ?_)
 refine x_end ?_
 refine x_tn ?_
 obtain ⟨o23, hR, hk24⟩ := thn_some hR
 refine x_cutQ (fun a w => o23 = .nx () ∧ Sk a 19 [] ∧ Below w0.heap.size w0 w) ?_ ?_
 ·
  refine x_blk ?_
  obtain ⟨fl27, hf28, hR⟩ := forL_gen hR
  refine x_loop (fun g a w => ∃ (k29 : Nat) (rest30 : List Literal), (k29 ≤ x0.length ∧ x0.drop k29 = rest30) ∧ rest30.length = g ∧ forL fl27 rest30 k29 () = some o23 ∧ Sk a 19 [(8, .int .i64 (k29 : Int)), (0, v0), (1, .func (.func g1) #[] lb1.toArray), (7, .int .i64 (x0.length : Int))] ∧ Below w0.heap.size w0 w) x0.length ?_ ?_
  ·
   exact ⟨0, x0, ⟨Nat.zero_le _, rfl⟩, rfl, hR, F.sub (sc rfl (sc rfl (sc rfl (sc rfl sn)))), hB⟩
  intro g32 a w ⟨k29, rest30, hd33, hg34, hR, F, hB⟩
  cases rest30 with
  | nil =>
   replace hR := forL_nil hR
   have hkk29 := drop_nil hd33.1 hd33.2
   have hlk29 := dec_no hkk29
   refine x_seq ?_
   refine x_reg ?_
   refine o_lss F rfl rfl rfl (fun a F => ?_)
   refine x_end ?_
   refine x_tn ?_
   refine x_seq ?_
   refine x_ifF F rfl hlk29 ?_
   refine x_exit ?_
   refine x_te ?_
   refine x_te ?_
   refine x_be ?_
   refine x_tn ?_
   exact ⟨(Option.some.inj hR).symm, F.sub sn, hB⟩
  | cons x31 rest30 =>
   subst hg34
   replace hd33 := drop_cons hd33.2
   have hxk29 := ix_nat hd33.2.1
   obtain ⟨ck29, hR, hn26⟩ := forL_cons hR
   rw [hf28] at hR
   have hlk29 := dec_yes hd33.1
   refine x_seq ?_
   refine x_reg ?_
   refine o_lss F rfl rfl rfl (fun a F => ?_)
   refine x_end ?_
   refine x_tn ?_
   refine x_seq ?_
   refine x_ifT F rfl hlk29 ?_
   refine x_skip ?_
   refine x_tn ?_
   refine x_seq ?_
   have ikk29 := k64 (Nat.le_of_lt hd33.1) i11
   have ink29 := inc64 hd33.1 i11
   refine x_blk ?_
   refine x_seq ?_
   refine x_reg ?_
   refine o_move F rfl rfl (fun a F => ?_)
   refine o_assign F rfl rfl (fun a F => ?_)
   refine x_end ?_
   refine x_tn ?_
   refine x_seq ?_
   refine x_reg ?_
   refine o_move F rfl rfl (fun a F => ?_)
   refine o_move F rfl rfl (fun a F => ?_)
   refine o_move F rfl rfl (fun a F => ?_)
   refine o_index Tryz.underlying124 Tryz.sizeOf132 F rfl rfl rfl (A0.go hB) hxk29 (fun a p35 b36 h37 s38 F => ?_)
   refine o_loadA Tryz.isAgg132 Tryz.sizeOf132 F rfl rfl h37 (fun a v39 b40 h41 s42 F => ?_)
   obtain ⟨z43, c44, hR⟩ := bnd_some hR
   refine o_saysV F rfl rfl hg1 rfl (hp1 _ z43 c44 _ hB _ _ h41) (fun a w l F => ?_)
   replace hB := Below.through l hB
   refine x_end ?_
   refine x_tn ?_
   refine x_if F rfl (fun hb45 => ?_) (fun hb45 => ?_)
   ·
    replace hR := ifT hb45 hR
    refine x_seq ?_
    refine x_reg ?_
    refine o_move F rfl rfl (fun a F => ?_)
    refine o_assign F rfl rfl (fun a F => ?_)
    refine x_end ?_
    refine x_tn ?_
    refine x_ret ?_
    refine x_br ?_
    refine x_tr ?_
    refine x_tr ?_
    replace hR := l_ret hR hn26
    refine x_br ?_
    refine x_tr ?_
    replace hR := j_ret hR hk24
    refine x_tr ?_
    refine x_res1 F rfl (rv_t F rfl) ?_
    obtain rfl := Option.some.inj hR
    exact ⟨⟨rfl, hB⟩, ikk29⟩
   replace hR := ifF hb45 hR
   refine x_skip ?_
   refine x_bn ?_
   refine x_tn ?_
   refine x_reg ?_
   refine o_inc F rfl rfl rfl ink29 (fun a F => ?_)
   refine o_move F rfl rfl (fun a F => ?_)
   refine x_end ?_
   refine x_tn ?_
   replace hR := l_go hR hn26
   exact ⟨_, Nat.lt_succ_self _, k29 + 1, rest30, ⟨hd33.1, hd33.2.2⟩, rfl, hR, F.sub (sc rfl (sc rfl (sc rfl (sc rfl sn)))), hB⟩
 intro a w ⟨ho25, F, hB⟩
 subst ho25
 have hR := then_nx hk24
 refine x_tn ?_
 refine x_seq ?_
 refine x_reg ?_
 refine o_assign F rfl rfl (fun a F => ?_)
 refine x_end ?_
 refine x_tn ?_
 refine x_ret ?_
 refine x_res1 F rfl (rv_t F rfl) ?_
 obtain rfl := Option.some.inj hR
 exact ⟨⟨rfl, hB⟩, (show I64 (-1) by decide)⟩

def slices_ContainsFunc_s_Literal_Literal (x0 : List Literal) (x1 : Literal → Option Bool) : Option Bool :=
 bnd (slices_IndexFunc_s_Literal_Literal x0 x1) fun z11 =>
 some ((decide (0 ≤ z11)))
set_option maxHeartbeats 1000000 in
theorem slices_ContainsFunc_s_Literal_Literal_c {x0 : List Literal} {x1 : Literal → Option Bool} (r : Bool) (hR : slices_ContainsFunc_s_Literal_Literal x0 x1 = some r) {v0 : Value} {b0 : List Nat} {g1 : FuncId} {lb1 : List Value} (w0 : World) (A0 : Rd (Sl 2 RLiteral) w0 v0 x0 b0) (hg1 : ∀ args w, (callFunc g1 args).run Tryz.prog w = .ok (.enter g1 args) w) (hp1 : ∀ (a0 : Literal) (r : Bool), x1 a0 = some r → ∀ W, Below w0.heap.size w0 W → ∀ (u0 : Value) (c0 : List Nat), Rd (Agg 2 RLiteral) W u0 a0 c0 → Calls Tryz.prog g1 ([u0] ++ lb1 : List Value).toArray W (Says (.bool r) W)) : Calls Tryz.prog 173 #[v0, .func (.func g1) #[] lb1.toArray] w0 (Says (.bool r) w0) := by
 unfold slices_ContainsFunc_s_Literal_Literal at hR
 refine x_enter (L := [(0, v0), (1, .func (.func g1) #[] lb1.toArray)]) Tryz.func173 rfl rfl rfl (sc rfl (sc rfl sn)) (fun a F => ?_)
 have hB := Below.refl w0.heap.size w0
 refine x_seq ?_
 refine x_reg ?_
 refine o_assign F rfl rfl (fun a F => ?_)
 refine x_end ?_
 refine x_tn ?_
 refine x_seq ?_
 refine x_reg ?_
 refine o_move F rfl rfl (fun a F => ?_)
 refine o_move F rfl rfl (fun a F => ?_)
 obtain ⟨z11, c12, hR⟩ := bnd_some hR
 refine o_saysI F rfl Tryz.call247 rfl (slices_IndexFunc_s_Literal_Literal_c z11 c12 _ (A0.go hB) hg1 (fun a0 r h W l => hp1 a0 r h W (hB.through' l))) (fun a w l iz11 F => ?_)
 replace hB := Below.through l hB
 refine o_geq F rfl rfl rfl (fun a F => ?_)
 refine o_assign F rfl rfl (fun a F => ?_)
 refine x_end ?_
 refine x_tn ?_
 refine x_ret ?_
 refine x_res1 F rfl (rv_t F rfl) ?_
 obtain rfl := Option.some.inj hR
 exact ⟨rfl, hB⟩

def impl_areLiterals (x0 : Template) (x1 : Instance) (x2 : List Literal) : Option Bool :=
 bnd (slices_ContainsFunc_s_Literal_Literal x2 (fun a0 => impl_areLiterals_1 a0 (Instance.mk x1.vars x1.cons) (Template.mk x0.size x0.rels))) fun z31 =>
 some ((!z31))
set_option maxHeartbeats 1000000 in
theorem impl_areLiterals_c {x0 : Template} {x1 : Instance} {x2 : List Literal} (r : Bool) (hR : impl_areLiterals x0 x1 x2 = some r) {v0 : Value} {b0 : List Nat} {v1 : Value} {b1 : List Nat} {v2 : Value} {b2 : List Nat} (w0 : World) (A0 : Rd (Agg 2 RTemplate) w0 v0 x0 b0) (A1 : Rd (Agg 2 RInstance) w0 v1 x1 b1) (A2 : Rd (Sl 2 RLiteral) w0 v2 x2 b2) : Calls Tryz.prog 92 #[v0, v1, v2] w0 (Says (.bool r) w0) := by
 unfold impl_areLiterals at hR
 refine x_enter (L := [(0, v0), (1, v1), (2, v2)]) Tryz.func92 rfl rfl rfl (sc rfl (sc rfl (sc rfl sn))) (fun a F => ?_)
 have hB := Below.refl w0.heap.size w0
 refine x_seq ?_
 refine x_reg ?_
 obtain ⟨v15, b16, e18, i14, h17, eb13⟩ := RTemplate.rd (A0.go hB)
 subst e18
 refine o_box F rfl rfl rfl (fun a w b11 K12 l BK12 F => ?_)
 have d19 := (dj1 h17.m BK12).symm
 have CK12 := Nat.le_trans hB.size BK12
 replace hB := Below.through l hB
 replace h17 := h17.go l
 obtain ⟨v24, b25, e27, i23, h26, eb22⟩ := RInstance.rd (A1.go hB)
 subst e27
 refine o_box F rfl rfl rfl (fun a w b20 K21 l BK21 F => ?_)
 have nb28 := Dj.bb K12 BK21
 have d29 := (dj1 h17.m BK21).symm
 have d30 := (dj1 h26.m BK21).symm
 have CK21 := Nat.le_trans hB.size BK21
 replace hB := Below.through l hB
 replace h17 := h17.go l
 replace h26 := h26.go l
 replace K12 := K12.thru l
 refine o_assign F rfl rfl (fun a F => ?_)
 refine x_end ?_
 refine x_tn ?_
 refine x_seq ?_
 refine x_reg ?_
 refine o_move F rfl rfl (fun a F => ?_)
 refine o_func F rfl rfl rfl (fun a F => ?_)
 obtain ⟨z31, c32, hR⟩ := bnd_some hR
 refine o_says F rfl Tryz.call173 rfl (slices_ContainsFunc_s_Literal_Literal_c z31 c32 _ (A2.go hB) Tryz.call174 (fun a0 r h W l u0 c0 f0 => impl_areLiterals_1_c r h W f0 ((RInstance.blk K21 i23 h26).go l) ((RTemplate.blk K12 i14 h17).go l))) (fun a w l F => ?_)
 replace hB := Below.through l hB
 refine o_not F rfl rfl (fun a F => ?_)
 refine o_assign F rfl rfl (fun a F => ?_)
 refine x_end ?_
 refine x_tn ?_
 refine x_ret ?_
 refine x_res1 F rfl (rv_t F rfl) ?_
 obtain rfl := Option.some.inj hR
 exact ⟨rfl, hB⟩
end Go.Proofs.YtfggmelojaicfaaGreat
