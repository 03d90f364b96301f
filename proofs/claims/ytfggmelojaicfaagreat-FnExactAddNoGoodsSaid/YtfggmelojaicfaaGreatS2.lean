/-
  Functions of the program as plain functions, and that they compute them. Printed by fxio.py.
-/
import Derived.Test.YtfggmelojaicfaaGreatS1
namespace Go.Proofs.YtfggmelojaicfaaGreat
set_option linter.unusedVariables false
set_option linter.unusedSimpArgs false
set_option maxRecDepth 100000
open Go.RowKit
def spec_l01Places (x0 : List Int) (x1 : Int) : Option Bool :=
 thn (σ := Unit) (
  forL (σ := Unit) (ρ := Bool) (fun (k29 : Nat) (x31 : Int) (s : Unit) =>
    match s with
    | _ =>
    bnd (ck (x1 - 1)) fun z41 =>
    bnd (spec_l00In x31 0 z41) fun z43 =>
    if (!z43) then
     some (.ret false)
    else
     some (.go ())) x0 0 ()) fun _ =>
 some true
set_option maxHeartbeats 1000000 in
theorem spec_l01Places_c {x0 : List Int} {x1 : Int} (r : Bool) (hR : spec_l01Places x0 x1 = some r) {v0 : Value} {b0 : List Nat} (w0 : World) (A0 : Rd (Sl 1 RInt) w0 v0 x0 b0) (hx1 : I64 x1) : Calls Tryz.prog 163 #[v0, .int .i64 x1] w0 (Says (.bool r) w0) := by
 unfold spec_l01Places at hR
 refine x_enter (L := [(0, v0), (1, .int .i64 x1)]) Tryz.func163 rfl rfl rfl (sc rfl (sc rfl sn)) (fun a F => ?_)
 have hB := Below.refl w0.heap.size w0
 refine x_seq ?_
 refine x_reg ?_
 refine o_assign F rfl rfl (fun a F => ?_)
 refine x_end ?_
 refine x_tn ?_
 refine x_seq ?_
 refine x_seq ?_
 refine x_reg ?_
 refine o_assign F rfl rfl (fun a F => ?_)
 refine x_end ?_
 refine x_tn ?_
 obtain ⟨o23, hR, hk24⟩ := thn_some hR
 refine x_cutQ (fun a w => o23 = .nx () ∧ Sk a 20 [] ∧ Below w0.heap.size w0 w) ?_ ?_
 ·
  refine x_blk ?_
  obtain ⟨fl27, hf28, hR⟩ := forL_gen hR
  refine x_loop (fun g a w => ∃ (k29 : Nat) (rest30 : List Int), (k29 ≤ x0.length ∧ x0.drop k29 = rest30) ∧ rest30.length = g ∧ forL fl27 rest30 k29 () = some o23 ∧ Sk a 20 [(5, .int .i64 (k29 : Int)), (0, v0), (1, .int .i64 x1)] ∧ Below w0.heap.size w0 w) x0.length ?_ ?_
  ·
   exact ⟨0, x0, ⟨Nat.zero_le _, rfl⟩, rfl, hR, F.sub (sc rfl (sc rfl (sc rfl sn))), hB⟩
  intro g32 a w ⟨k29, rest30, hd33, hg34, hR, F, hB⟩
  cases rest30 with
  | nil =>
   replace hR := forL_nil hR
   have hkk29 := drop_nil hd33.1 hd33.2
   have hlk29 := dec_no hkk29
   refine x_seq ?_
   refine x_seq ?_
   refine x_reg ?_
   refine o_move F rfl rfl (fun a F => ?_)
   refine o_move F rfl rfl (fun a F => ?_)
   refine o_len Tryz.underlying42 F rfl rfl (A0.go hB) (fun a F => ?_)
   have i46 := ((A0.go hB)).r.len64
   refine o_lss F rfl rfl rfl (fun a F => ?_)
   refine x_end ?_
   refine x_tn ?_
   refine x_ifF F rfl hlk29 ?_
   refine x_exit ?_
   refine x_te ?_
   refine x_te ?_
   refine x_be ?_
   refine x_tn ?_
   exact ⟨(Option.some.inj hR).symm, F.sub sn, hB⟩
  | cons x31 rest30 =>
   subst hg34
   replace hd33 := drop_cons hd33.2
   have hxk29 := ix_nat hd33.2.1
   obtain ⟨ck29, hR, hn26⟩ := forL_cons hR
   rw [hf28] at hR
   have hlk29 := dec_yes hd33.1
   refine x_seq ?_
   refine x_seq ?_
   refine x_reg ?_
   refine o_move F rfl rfl (fun a F => ?_)
   refine o_move F rfl rfl (fun a F => ?_)
   refine o_len Tryz.underlying42 F rfl rfl (A0.go hB) (fun a F => ?_)
   have i35 := ((A0.go hB)).r.len64
   refine o_lss F rfl rfl rfl (fun a F => ?_)
   refine x_end ?_
   refine x_tn ?_
   refine x_ifT F rfl hlk29 ?_
   refine x_skip ?_
   refine x_tn ?_
   refine x_seq ?_
   have ikk29 := k64 (Nat.le_of_lt hd33.1) i35
   have ink29 := inc64 hd33.1 i35
   refine x_blk ?_
   refine x_seq ?_
   refine x_reg ?_
   refine o_move F rfl rfl (fun a F => ?_)
   refine o_move F rfl rfl (fun a F => ?_)
   refine o_index Tryz.underlying42 Tryz.sizeOf2 F rfl rfl rfl (A0.go hB) hxk29 (fun a p36 b37 h38 s39 F => ?_)
   have i40 := (h38).i64
   refine o_loadI Tryz.isAgg2 F rfl rfl h38 (fun a F => ?_)
   refine o_move F rfl rfl (fun a F => ?_)
   obtain ⟨z41, c42, hR⟩ := bnd_some hR
   refine o_sub F rfl rfl rfl c42 (fun a F => ?_)
   obtain ⟨z43, c44, hR⟩ := bnd_some hR
   refine o_says F rfl Tryz.call162 rfl (spec_l00In_c z43 c44 _ i40 (show I64 (0) by decide) (ck64 c42)) (fun a w l F => ?_)
   replace hB := Below.through l hB
   refine o_not F rfl rfl (fun a F => ?_)
   refine x_end ?_
   refine x_tn ?_
   refine x_if F rfl (fun hb45 => ?_) (fun hb45 => ?_)
   ·
    replace hR := ifT hb45 hR
    refine x_seq ?_
    refine x_reg ?_
    refine o_assign F rfl rfl (fun a F => ?_)
    refine x_end ?_
    refine x_tn ?_
    refine x_ret ?_
    refine x_br ?_
    refine x_tr ?_
    refine x_tr ?_
    replace hR := l_ret hR hn26
    refine x_br ?_
    refine x_tr ?_
    replace hR := j_ret hR hk24
    refine x_tr ?_
    refine x_res1 F rfl (rv_t F rfl) ?_
    obtain rfl := Option.some.inj hR
    exact ⟨rfl, hB⟩
   replace hR := ifF hb45 hR
   refine x_skip ?_
   refine x_bn ?_
   refine x_tn ?_
   refine x_reg ?_
   refine o_move F rfl rfl (fun a F => ?_)
   refine o_inc F rfl rfl rfl ink29 (fun a F => ?_)
   refine o_assign F rfl rfl (fun a F => ?_)
   refine x_end ?_
   refine x_tn ?_
   replace hR := l_go hR hn26
   exact ⟨_, Nat.lt_succ_self _, k29 + 1, rest30, ⟨hd33.1, hd33.2.2⟩, rfl, hR, F.sub (sc rfl (sc rfl (sc rfl sn))), hB⟩
 intro a w ⟨ho25, F, hB⟩
 subst ho25
 have hR := then_nx hk24
 refine x_tn ?_
 refine x_seq ?_
 refine x_reg ?_
 refine o_assign F rfl rfl (fun a F => ?_)
 refine x_end ?_
 refine x_tn ?_
 refine x_ret ?_
 refine x_res1 F rfl (rv_t F rfl) ?_
 obtain rfl := Option.some.inj hR
 exact ⟨rfl, hB⟩

def spec_l05Ok (x0 : Template) (x1 : Instance) : Option Bool :=
 thn (σ := Bool) (
  bnd (spec_l01Template x0) fun z35 =>
  if (!z35) then  some (.nx true) else  bnd (spec_l00In x1.vars 1 10) fun z43 =>
   if (!z43) then  some (.nx true) else  some (.nx (decide (24 < (x1.cons.length : Int))))) fun s34 =>
 if s34 then
  some false
 else
  thn (σ := Unit) (
   forL (σ := Unit) (ρ := Bool) (fun (k233 : Nat) (x235 : Con) (s : Unit) =>
     match s with
     | _ =>
     thn (σ := Bool) (
      bnd (ck ((x0.rels.length : Int) - 1)) fun z346 =>
      bnd (spec_l00In x235.rel 0 z346) fun z348 =>
      if (!z348) then  some (.nx true) else  bnd (ix x0.rels x235.rel) fun z373 =>
       if ((x235.scope.length : Int) != z373.arity) then  some (.nx true) else  bnd (spec_l01Places x235.scope x1.vars) fun z398 =>
        some (.nx (!z398))) fun s331 =>
     if s331 then
      some (.ret false)
     else
      some (.go ())) x1.cons 0 ()) fun _ =>
  some true
set_option maxHeartbeats 1000000 in
theorem spec_l05Ok_c {x0 : Template} {x1 : Instance} (r : Bool) (hR : spec_l05Ok x0 x1 = some r) {v0 : Value} {b0 : List Nat} {v1 : Value} {b1 : List Nat} (w0 : World) (A0 : Rd (Pt 2 RTemplate) w0 v0 x0 b0) (A1 : Rd (Pt 2 RInstance) w0 v1 x1 b1) : Calls Tryz.prog 80 #[v0, v1] w0 (Says (.bool r) w0) := by
 unfold spec_l05Ok at hR
 refine x_enter (L := [(0, v0), (1, v1)]) Tryz.func80 rfl rfl rfl (sc rfl (sc rfl sn)) (fun a F => ?_)
 have hB := Below.refl w0.heap.size w0
 refine x_seq ?_
 refine x_reg ?_
 refine o_assign F rfl rfl (fun a F => ?_)
 refine x_end ?_
 refine x_tn ?_
 refine x_seq ?_
 refine x_seq ?_
 obtain ⟨o31, hR, hk32⟩ := thn_some hR
 refine x_cutQ (fun a w => ∃ (s34 : Bool), o31 = .nx s34 ∧ Sk a 84 [(0, v0), (1, v1), (25, .bool s34)] ∧ Below w0.heap.size w0 w) ?_ ?_
 ·
  refine x_reg ?_
  refine o_move F rfl rfl (fun a F => ?_)
  obtain ⟨z35, c36, hR⟩ := bnd_some hR
  refine o_says F rfl Tryz.call148 rfl (spec_l01Template_c z35 c36 _ (A0.go hB)) (fun a w l F => ?_)
  replace hB := Below.through l hB
  refine o_not F rfl rfl (fun a F => ?_)
  refine o_move F rfl rfl (fun a F => ?_)
  rcases bcases (!z35) with hb37 | hb37
  ·
   replace hR := ifT hb37 hR
   have F := F.eq (t := 10) rfl (congrArg Value.bool hb37)
   refine o_no F rfl rfl (fun a F => ?_)
   refine o_no F rfl rfl (fun a F => ?_)
   refine o_no F rfl rfl (fun a F => ?_)
   refine o_no F rfl rfl (fun a F => ?_)
   refine o_no F rfl rfl (fun a F => ?_)
   refine o_no F rfl rfl (fun a F => ?_)
   refine o_pickt F rfl rfl rfl (fun a F => ?_)
   refine o_move F rfl rfl (fun a F => ?_)
   refine o_no F rfl rfl (fun a F => ?_)
   refine o_no F rfl rfl (fun a F => ?_)
   refine o_no F rfl rfl (fun a F => ?_)
   refine o_no F rfl rfl (fun a F => ?_)
   refine o_no F rfl rfl (fun a F => ?_)
   refine o_no F rfl rfl (fun a F => ?_)
   refine o_pickt F rfl rfl rfl (fun a F => ?_)
   refine x_end ?_
   refine x_tn ?_
   exact ⟨true, (Option.some.inj hR).symm, F.sub (sc rfl (sc rfl (sc rfl sn))), hB⟩
  replace hR := ifF hb37 hR
  have F := F.eq (t := 10) rfl (congrArg Value.bool hb37)
  refine o_move F rfl rfl (fun a F => ?_)
  refine o_nilCheckP F rfl rfl (A1.go hB) (fun a F => ?_)
  refine o_field (s' := 1) fa60_0 F rfl rfl (A1.go hB) RInstance.f0 (fun a p38 b39 h40 s41 F => ?_)
  have i42 := (h40).i64
  refine o_loadI Tryz.isAgg2 F rfl rfl h40 (fun a F => ?_)
  obtain ⟨z43, c44, hR⟩ := bnd_some hR
  refine o_says F rfl Tryz.call162 rfl (spec_l00In_c z43 c44 _ i42 (show I64 (1) by decide) (show I64 (10) by decide)) (fun a w l F => ?_)
  replace hB := Below.through l hB
  refine o_not F rfl rfl (fun a F => ?_)
  refine o_pickf F rfl rfl rfl (fun a F => ?_)
  refine o_move F rfl rfl (fun a F => ?_)
  rcases bcases (!z43) with hb45 | hb45
  ·
   replace hR := ifT hb45 hR
   have F := F.eq (t := 18) rfl (congrArg Value.bool hb45)
   refine o_no F rfl rfl (fun a F => ?_)
   refine o_no F rfl rfl (fun a F => ?_)
   refine o_no F rfl rfl (fun a F => ?_)
   refine o_no F rfl rfl (fun a F => ?_)
   refine o_no F rfl rfl (fun a F => ?_)
   refine o_no F rfl rfl (fun a F => ?_)
   refine o_pickt F rfl rfl rfl (fun a F => ?_)
   refine x_end ?_
   refine x_tn ?_
   exact ⟨true, (Option.some.inj hR).symm, F.sub (sc rfl (sc rfl (sc rfl sn))), hB⟩
  replace hR := ifF hb45 hR
  have F := F.eq (t := 18) rfl (congrArg Value.bool hb45)
  refine o_move F rfl rfl (fun a F => ?_)
  refine o_nilCheckP F rfl rfl (A1.go hB) (fun a F => ?_)
  refine o_field (s' := 1) fa60_1 F rfl rfl (A1.go hB) RInstance.f1 (fun a p46 b47 h48 s49 F => ?_)
  refine o_loadS Tryz.isAgg58 F rfl rfl h48 (fun a v50 b51 h52 s53 F => ?_)
  refine o_len Tryz.underlying58 F rfl rfl h52 (fun a F => ?_)
  have i54 := (h52).r.len64
  refine o_gtr F rfl rfl rfl (fun a F => ?_)
  refine o_pickf F rfl rfl rfl (fun a F => ?_)
  refine x_end ?_
  refine x_tn ?_
  exact ⟨(decide (24 < (x1.cons.length : Int))), (Option.some.inj hR).symm, F.sub (sc rfl (sc rfl (sc rfl sn))), hB⟩
 intro a w ⟨s34, ho33, F, hB⟩
 subst ho33
 have hR := then_nx hk32
 refine x_tn ?_
 refine x_if F rfl (fun hb55 => ?_) (fun hb55 => ?_)
 ·
  replace hR := ifT hb55 hR
  refine x_seq ?_
  refine x_reg ?_
  refine o_assign F rfl rfl (fun a F => ?_)
  refine x_end ?_
  refine x_tn ?_
  refine x_ret ?_
  refine x_tr ?_
  refine x_res1 F rfl (rv_t F rfl) ?_
  obtain rfl := Option.some.inj hR
  exact ⟨rfl, hB⟩
 replace hR := ifF hb55 hR
 refine x_skip ?_
 refine x_tn ?_
 refine x_seq ?_
 refine x_seq ?_
 refine x_reg ?_
 refine o_assign F rfl rfl (fun a F => ?_)
 refine x_end ?_
 refine x_tn ?_
 obtain ⟨o227, hR, hk228⟩ := thn_some hR
 refine x_cutQ (fun a w => o227 = .nx () ∧ Sk a 84 [] ∧ Below w0.heap.size w0 w) ?_ ?_
 ·
  refine x_blk ?_
  obtain ⟨fl231, hf232, hR⟩ := forL_gen hR
  refine x_loop (fun g a w => ∃ (k233 : Nat) (rest234 : List Con), (k233 ≤ x1.cons.length ∧ x1.cons.drop k233 = rest234) ∧ rest234.length = g ∧ forL fl231 rest234 k233 () = some o227 ∧ Sk a 84 [(5, .int .i64 (k233 : Int)), (0, v0), (1, v1)] ∧ Below w0.heap.size w0 w) x1.cons.length ?_ ?_
  ·
   exact ⟨0, x1.cons, ⟨Nat.zero_le _, rfl⟩, rfl, hR, F.sub (sc rfl (sc rfl (sc rfl sn))), hB⟩
  intro g236 a w ⟨k233, rest234, hd237, hg238, hR, F, hB⟩
  cases rest234 with
  | nil =>
   replace hR := forL_nil hR
   have hkk233 := drop_nil hd237.1 hd237.2
   have hlk233 := dec_no hkk233
   refine x_seq ?_
   refine x_seq ?_
   refine x_reg ?_
   refine o_move F rfl rfl (fun a F => ?_)
   refine o_move F rfl rfl (fun a F => ?_)
   refine o_nilCheckP F rfl rfl (A1.go hB) (fun a F => ?_)
   refine o_field (s' := 1) fa60_1 F rfl rfl (A1.go hB) RInstance.f1 (fun a p401 b402 h403 s404 F => ?_)
   refine o_loadS Tryz.isAgg58 F rfl rfl h403 (fun a v405 b406 h407 s408 F => ?_)
   refine o_len Tryz.underlying58 F rfl rfl h407 (fun a F => ?_)
   have i409 := (h407).r.len64
   refine o_lss F rfl rfl rfl (fun a F => ?_)
   refine x_end ?_
   refine x_tn ?_
   refine x_ifF F rfl hlk233 ?_
   refine x_exit ?_
   refine x_te ?_
   refine x_te ?_
   refine x_be ?_
   refine x_tn ?_
   exact ⟨(Option.some.inj hR).symm, F.sub sn, hB⟩
  | cons x235 rest234 =>
   subst hg238
   replace hd237 := drop_cons hd237.2
   have hxk233 := ix_nat hd237.2.1
   obtain ⟨ck233, hR, hn230⟩ := forL_cons hR
   rw [hf232] at hR
   have hlk233 := dec_yes hd237.1
   refine x_seq ?_
   refine x_seq ?_
   refine x_reg ?_
   refine o_move F rfl rfl (fun a F => ?_)
   refine o_move F rfl rfl (fun a F => ?_)
   refine o_nilCheckP F rfl rfl (A1.go hB) (fun a F => ?_)
   refine o_field (s' := 1) fa60_1 F rfl rfl (A1.go hB) RInstance.f1 (fun a p239 b240 h241 s242 F => ?_)
   refine o_loadS Tryz.isAgg58 F rfl rfl h241 (fun a v243 b244 h245 s246 F => ?_)
   refine o_len Tryz.underlying58 F rfl rfl h245 (fun a F => ?_)
   have i247 := (h245).r.len64
   refine o_lss F rfl rfl rfl (fun a F => ?_)
   refine x_end ?_
   refine x_tn ?_
   refine x_ifT F rfl hlk233 ?_
   refine x_skip ?_
   refine x_tn ?_
   refine x_seq ?_
   have ikk233 := k64 (Nat.le_of_lt hd237.1) i247
   have ink233 := inc64 hd237.1 i247
   refine x_blk ?_
   refine x_seq ?_
   refine x_reg ?_
   refine o_move F rfl rfl (fun a F => ?_)
   refine o_nilCheckP F rfl rfl (A1.go hB) (fun a F => ?_)
   refine o_field (s' := 1) fa60_1 F rfl rfl (A1.go hB) RInstance.f1 (fun a p248 b249 h250 s251 F => ?_)
   refine o_loadS Tryz.isAgg58 F rfl rfl h250 (fun a v252 b253 h254 s255 F => ?_)
   refine o_move F rfl rfl (fun a F => ?_)
   refine o_index Tryz.underlying58 Tryz.sizeOf130 F rfl rfl rfl h254 hxk233 (fun a p256 b257 h258 s259 F => ?_)
   refine o_assign F rfl rfl (fun a F => ?_)
   refine x_end ?_
   refine x_tn ?_
   refine x_seq ?_
   obtain ⟨o328, hR, hk329⟩ := thn_some hR
   refine x_cutQ (fun a w => ∃ (s331 : Bool), o328 = .nx s331 ∧ Sk a 84 [(0, v0), (1, v1), (5, .int .i64 (k233 : Int)), (83, .bool s331)] ∧ Below w0.heap.size w0 w) ?_ ?_
   ·
    refine x_draw (by kernel_rfl) (by kernel_rfl) ?_
    refine q_val F rfl (fun w l => r_move F rfl) (fun a F => ?_)
    refine q_val F rfl (fun w l => r_nilCheckP F rfl h258) (fun a F => ?_)
    refine q_field (s' := 1) fa130_0 F rfl rfl h258 RCon.f0 (fun a p332 b333 h334 s335 F => ?_)
    have i336 := (h334).i64
    refine q_val F rfl (fun w l => r_loadI Tryz.isAgg2 F rfl ((h334).go l)) (fun a F => ?_)
    refine q_val F rfl (fun w l => r_move F rfl) (fun a F => ?_)
    refine q_val F rfl (fun w l => r_nilCheckP F rfl (A0.go hB)) (fun a F => ?_)
    refine q_field (s' := 1) fa33_1 F rfl rfl (A0.go hB) RTemplate.f1 (fun a p337 b338 h339 s340 F => ?_)
    refine q_loadS (fun _ l => l) Tryz.isAgg31 F rfl rfl h339 (fun a v341 b342 h343 s344 F => ?_)
    refine q_val F rfl (fun w l => r_len Tryz.underlying31 F rfl (h343).r w) (fun a F => ?_)
    have i345 := (h343).r.len64
    obtain ⟨z346, c347, hR⟩ := bnd_some hR
    refine q_val F rfl (fun w l => r_sub F rfl rfl c347) (fun a F => ?_)
    obtain ⟨z348, c349, hR⟩ := bnd_some hR
    refine q_says F rfl Tryz.call162 rfl (fun w w' h l => l.through h) (fun w l => spec_l00In_c z348 c349 w i336 (show I64 (0) by decide) (ck64 c347)) (fun a F => ?_)
    refine q_val F rfl (fun w l => r_not F rfl) (fun a F => ?_)
    refine q_val F rfl (fun w l => r_move F rfl) (fun a F => ?_)
    rcases bcases (!z348) with hb350 | hb350
    ·
     replace hR := ifT hb350 hR
     have F := F.eq (t := 53) rfl (congrArg Value.bool hb350)
     refine q_no F rfl rfl (fun a F => ?_)
     refine q_no F rfl rfl (fun a F => ?_)
     refine q_no F rfl rfl (fun a F => ?_)
     refine q_no F rfl rfl (fun a F => ?_)
     refine q_no F rfl rfl (fun a F => ?_)
     refine q_no F rfl rfl (fun a F => ?_)
     refine q_no F rfl rfl (fun a F => ?_)
     refine q_no F rfl rfl (fun a F => ?_)
     refine q_no F rfl rfl (fun a F => ?_)
     refine q_no F rfl rfl (fun a F => ?_)
     refine q_no F rfl rfl (fun a F => ?_)
     refine q_no F rfl rfl (fun a F => ?_)
     refine q_no F rfl rfl (fun a F => ?_)
     refine q_no F rfl rfl (fun a F => ?_)
     refine q_no F rfl rfl (fun a F => ?_)
     refine q_no F rfl rfl (fun a F => ?_)
     refine q_no F rfl rfl (fun a F => ?_)
     refine q_val F rfl (fun w l => r_pickt F rfl rfl) (fun a F => ?_)
     refine q_val F rfl (fun w l => r_move F rfl) (fun a F => ?_)
     refine q_no F rfl rfl (fun a F => ?_)
     refine q_no F rfl rfl (fun a F => ?_)
     refine q_no F rfl rfl (fun a F => ?_)
     refine q_no F rfl rfl (fun a F => ?_)
     refine q_no F rfl rfl (fun a F => ?_)
     refine q_no F rfl rfl (fun a F => ?_)
     refine q_no F rfl rfl (fun a F => ?_)
     refine q_no F rfl rfl (fun a F => ?_)
     refine q_no F rfl rfl (fun a F => ?_)
     refine q_no F rfl rfl (fun a F => ?_)
     refine q_val F rfl (fun w l => r_pickt F rfl rfl) (fun a F => ?_)
     refine q_end (fun w l => ?_)
     replace hB := Below.through l hB
     refine x_tn ?_
     exact ⟨true, (Option.some.inj hR).symm, F.sub (sc rfl (sc rfl (sc rfl (sc rfl sn)))), hB⟩
    replace hR := ifF hb350 hR
    have F := F.eq (t := 53) rfl (congrArg Value.bool hb350)
    refine q_val F rfl (fun w l => r_move F rfl) (fun a F => ?_)
    refine q_val F rfl (fun w l => r_nilCheckP F rfl h258) (fun a F => ?_)
    refine q_field (s' := 1) fa130_1 F rfl rfl h258 RCon.f1 (fun a p351 b352 h353 s354 F => ?_)
    refine q_loadS (fun _ l => l) Tryz.isAgg42 F rfl rfl h353 (fun a v355 b356 h357 s358 F => ?_)
    refine q_val F rfl (fun w l => r_len Tryz.underlying42 F rfl (h357).r w) (fun a F => ?_)
    have i359 := (h357).r.len64
    refine q_val F rfl (fun w l => r_move F rfl) (fun a F => ?_)
    refine q_val F rfl (fun w l => r_nilCheckP F rfl (A0.go hB)) (fun a F => ?_)
    refine q_field (s' := 1) fa33_1 F rfl rfl (A0.go hB) RTemplate.f1 (fun a p360 b361 h362 s363 F => ?_)
    refine q_loadS (fun _ l => l) Tryz.isAgg31 F rfl rfl h362 (fun a v364 b365 h366 s367 F => ?_)
    refine q_val F rfl (fun w l => r_move F rfl) (fun a F => ?_)
    refine q_val F rfl (fun w l => r_nilCheckP F rfl h258) (fun a F => ?_)
    refine q_field (s' := 1) fa130_0 F rfl rfl h258 RCon.f0 (fun a p368 b369 h370 s371 F => ?_)
    have i372 := (h370).i64
    refine q_val F rfl (fun w l => r_loadI Tryz.isAgg2 F rfl ((h370).go l)) (fun a F => ?_)
    obtain ⟨z373, c374, hR⟩ := bnd_some hR
    refine q_index Tryz.underlying31 Tryz.sizeOf101 F rfl rfl rfl h366 c374 (fun a p375 b376 h377 s378 F => ?_)
    refine q_field (s' := 1) fa101_0 F rfl rfl h377 RRel.f0 (fun a p379 b380 h381 s382 F => ?_)
    have i383 := (h381).i64
    refine q_val F rfl (fun w l => r_loadI Tryz.isAgg2 F rfl ((h381).go l)) (fun a F => ?_)
    refine q_val F rfl (fun w l => r_neq F rfl rfl) (fun a F => ?_)
    refine q_val F rfl (fun w l => r_pickf F rfl rfl) (fun a F => ?_)
    refine q_val F rfl (fun w l => r_move F rfl) (fun a F => ?_)
    rcases bcases ((x235.scope.length : Int) != z373.arity) with hb384 | hb384
    ·
     replace hR := ifT hb384 hR
     have F := F.eq (t := 72) rfl (congrArg Value.bool hb384)
     refine q_no F rfl rfl (fun a F => ?_)
     refine q_no F rfl rfl (fun a F => ?_)
     refine q_no F rfl rfl (fun a F => ?_)
     refine q_no F rfl rfl (fun a F => ?_)
     refine q_no F rfl rfl (fun a F => ?_)
     refine q_no F rfl rfl (fun a F => ?_)
     refine q_no F rfl rfl (fun a F => ?_)
     refine q_no F rfl rfl (fun a F => ?_)
     refine q_no F rfl rfl (fun a F => ?_)
     refine q_no F rfl rfl (fun a F => ?_)
     refine q_val F rfl (fun w l => r_pickt F rfl rfl) (fun a F => ?_)
     refine q_end (fun w l => ?_)
     replace hB := Below.through l hB
     refine x_tn ?_
     exact ⟨true, (Option.some.inj hR).symm, F.sub (sc rfl (sc rfl (sc rfl (sc rfl sn)))), hB⟩
    replace hR := ifF hb384 hR
    have F := F.eq (t := 72) rfl (congrArg Value.bool hb384)
    refine q_val F rfl (fun w l => r_move F rfl) (fun a F => ?_)
    refine q_val F rfl (fun w l => r_nilCheckP F rfl h258) (fun a F => ?_)
    refine q_field (s' := 1) fa130_1 F rfl rfl h258 RCon.f1 (fun a p385 b386 h387 s388 F => ?_)
    refine q_loadS (fun _ l => l) Tryz.isAgg42 F rfl rfl h387 (fun a v389 b390 h391 s392 F => ?_)
    refine q_val F rfl (fun w l => r_move F rfl) (fun a F => ?_)
    refine q_val F rfl (fun w l => r_nilCheckP F rfl (A1.go hB)) (fun a F => ?_)
    refine q_field (s' := 1) fa60_0 F rfl rfl (A1.go hB) RInstance.f0 (fun a p393 b394 h395 s396 F => ?_)
    have i397 := (h395).i64
    refine q_val F rfl (fun w l => r_loadI Tryz.isAgg2 F rfl ((h395).go l)) (fun a F => ?_)
    obtain ⟨z398, c399, hR⟩ := bnd_some hR
    refine q_says F rfl Tryz.call163 rfl (fun w w' h l => l.through h) (fun w l => spec_l01Places_c z398 c399 w (h391.go l) i397) (fun a F => ?_)
    refine q_val F rfl (fun w l => r_not F rfl) (fun a F => ?_)
    refine q_val F rfl (fun w l => r_pickf F rfl rfl) (fun a F => ?_)
    refine q_end (fun w l => ?_)
    replace hB := Below.through l hB
    refine x_tn ?_
    exact ⟨(!z398), (Option.some.inj hR).symm, F.sub (sc rfl (sc rfl (sc rfl (sc rfl sn)))), hB⟩
   intro a w ⟨s331, ho330, F, hB⟩
   subst ho330
   have hR := then_nx hk329
   refine x_tn ?_
   refine x_if F rfl (fun hb400 => ?_) (fun hb400 => ?_)
   ·
    replace hR := ifT hb400 hR
    refine x_seq ?_
    refine x_reg ?_
    refine o_assign F rfl rfl (fun a F => ?_)
    refine x_end ?_
    refine x_tn ?_
    refine x_ret ?_
    refine x_br ?_
    refine x_tr ?_
    refine x_tr ?_
    replace hR := l_ret hR hn230
    refine x_br ?_
    refine x_tr ?_
    replace hR := j_ret hR hk228
    refine x_tr ?_
    refine x_res1 F rfl (rv_t F rfl) ?_
    obtain rfl := Option.some.inj hR
    exact ⟨rfl, hB⟩
   replace hR := ifF hb400 hR
   refine x_skip ?_
   refine x_bn ?_
   refine x_tn ?_
   refine x_reg ?_
   refine o_move F rfl rfl (fun a F => ?_)
   refine o_inc F rfl rfl rfl ink233 (fun a F => ?_)
   refine o_assign F rfl rfl (fun a F => ?_)
   refine x_end ?_
   refine x_tn ?_
   replace hR := l_go hR hn230
   exact ⟨_, Nat.lt_succ_self _, k233 + 1, rest234, ⟨hd237.1, hd237.2.2⟩, rfl, hR, F.sub (sc rfl (sc rfl (sc rfl sn))), hB⟩
 intro a w ⟨ho229, F, hB⟩
 subst ho229
 have hR := then_nx hk228
 refine x_tn ?_
 refine x_seq ?_
 refine x_reg ?_
 refine o_assign F rfl rfl (fun a F => ?_)
 refine x_end ?_
 refine x_tn ?_
 refine x_ret ?_
 refine x_res1 F rfl (rv_t F rfl) ?_
 obtain rfl := Option.some.inj hR
 exact ⟨rfl, hB⟩

def impl_isVars (x0 : Int) : Option Bool :=
 bnd (impl_within x0 1 10) fun z11 =>
 some z11
set_option maxHeartbeats 1000000 in
theorem impl_isVars_c {x0 : Int} (r : Bool) (hR : impl_isVars x0 = some r)  (w0 : World) (hx0 : I64 x0) : Calls Tryz.prog 168 #[.int .i64 x0] w0 (Says (.bool r) w0) := by
 unfold impl_isVars at hR
 refine x_enter (L := [(0, .int .i64 x0)]) Tryz.func168 rfl rfl rfl (sc rfl sn) (fun a F => ?_)
 have hB := Below.refl w0.heap.size w0
 refine x_seq ?_
 refine x_reg ?_
 refine o_assign F rfl rfl (fun a F => ?_)
 refine x_end ?_
 refine x_tn ?_
 refine x_seq ?_
 refine x_reg ?_
 refine o_move F rfl rfl (fun a F => ?_)
 obtain ⟨z11, c12, hR⟩ := bnd_some hR
 refine o_says F rfl Tryz.call171 rfl (impl_within_c z11 c12 _ hx0 (show I64 (1) by decide) (show I64 (10) by decide)) (fun a w l F => ?_)
 replace hB := Below.through l hB
 refine o_assign F rfl rfl (fun a F => ?_)
 refine x_end ?_
 refine x_tn ?_
 refine x_ret ?_
 refine x_res1 F rfl (rv_t F rfl) ?_
 obtain rfl := Option.some.inj hR
 exact ⟨rfl, hB⟩

def impl_ValidInstance_1 (x0 : Con) (y0 : Template) (y1 : Instance) : Option Bool :=
 thn (σ := Bool) (
  bnd (ck ((y0.rels.length : Int) - 1)) fun z73 =>
  bnd (impl_within x0.rel 0 z73) fun z75 =>
  if (!z75) then  some (.nx true) else  bnd (ix y0.rels x0.rel) fun z91 =>
   bnd (impl_areValues y1.vars x0.scope z91.arity) fun z102 =>
   some (.nx (!z102))) fun s63 =>
 some s63
set_option maxHeartbeats 1000000 in
theorem impl_ValidInstance_1_c {x0 : Con} {y0 : Template} {y1 : Instance} (r : Bool) (hR : impl_ValidInstance_1 x0 y0 y1 = some r) {v0 : Value} {b0 : List Nat} {v1 : Value} {b1 : List Nat} {v2 : Value} {b2 : List Nat} (w0 : World) (A0 : Rd (Agg 2 RCon) w0 v0 x0 b0) (A1 : Rd (Pt 2 RTemplate) w0 v1 y0 b1) (A2 : Rd (Pt 2 RInstance) w0 v2 y1 b2) : Calls Tryz.prog 170 #[v0, v1, v2] w0 (Says (.bool r) w0) := by
 unfold impl_ValidInstance_1 at hR
 refine x_enter (L := [(0, v0), (1, v1), (2, v2)]) Tryz.func170 rfl rfl rfl (sc rfl (sc rfl (sc rfl sn))) (fun a F => ?_)
 have hB := Below.refl w0.heap.size w0
 refine x_seq ?_
 refine x_reg ?_
 obtain ⟨v15, b16, e18, i14, h17, eb13⟩ := RCon.rd (A0.go hB)
 subst e18
 refine o_box F rfl rfl rfl (fun a w b11 K12 l BK12 F => ?_)
 have d19 := (dj1 h17.m BK12).symm
 have CK12 := Nat.le_trans hB.size BK12
 replace hB := Below.through l hB
 replace h17 := h17.go l
 refine o_assign F rfl rfl (fun a F => ?_)
 refine x_end ?_
 refine x_tn ?_
 refine x_seq ?_
 obtain ⟨o60, hR, hk61⟩ := thn_some hR
 refine x_cutQ (fun a w => ∃ (s63 : Bool), o60 = .nx s63 ∧ Sk a 28 [(4, .bool s63)] ∧ Below w0.heap.size w0 w) ?_ ?_
 ·
  refine x_draw (by kernel_rfl) (by kernel_rfl) ?_
  refine q_val F rfl (fun w l => r_bfield fa130_0 F rfl rfl) (fun a F => ?_)
  refine q_val F rfl (fun w l => r_load1 Tryz.isAgg2 F rfl (((K12.thru l).cell _).trans rfl)) (fun a F => ?_)
  refine q_field (s' := 1) fa33_1 F rfl rfl (A1.go hB) RTemplate.f1 (fun a p64 b65 h66 s67 F => ?_)
  refine q_loadS (fun _ l => l) Tryz.isAgg31 F rfl rfl h66 (fun a v68 b69 h70 s71 F => ?_)
  refine q_val F rfl (fun w l => r_len Tryz.underlying31 F rfl (h70).r w) (fun a F => ?_)
  have i72 := (h70).r.len64
  obtain ⟨z73, c74, hR⟩ := bnd_some hR
  refine q_val F rfl (fun w l => r_sub F rfl rfl c74) (fun a F => ?_)
  obtain ⟨z75, c76, hR⟩ := bnd_some hR
  refine q_says F rfl Tryz.call171 rfl (fun w w' h l => l.through h) (fun w l => impl_within_c z75 c76 w i14 (show I64 (0) by decide) (ck64 c74)) (fun a F => ?_)
  refine q_val F rfl (fun w l => r_not F rfl) (fun a F => ?_)
  refine q_val F rfl (fun w l => r_move F rfl) (fun a F => ?_)
  rcases bcases (!z75) with hb77 | hb77
  ·
   replace hR := ifT hb77 hR
   have F := F.eq (t := 13) rfl (congrArg Value.bool hb77)
   refine q_no F rfl rfl (fun a F => ?_)
   refine q_no F rfl rfl (fun a F => ?_)
   refine q_no F rfl rfl (fun a F => ?_)
   refine q_no F rfl rfl (fun a F => ?_)
   refine q_no F rfl rfl (fun a F => ?_)
   refine q_no F rfl rfl (fun a F => ?_)
   refine q_no F rfl rfl (fun a F => ?_)
   refine q_no F rfl rfl (fun a F => ?_)
   refine q_no F rfl rfl (fun a F => ?_)
   refine q_no F rfl rfl (fun a F => ?_)
   refine q_no F rfl rfl (fun a F => ?_)
   refine q_no F rfl rfl (fun a F => ?_)
   refine q_no F rfl rfl (fun a F => ?_)
   refine q_val F rfl (fun w l => r_pickt F rfl rfl) (fun a F => ?_)
   refine q_val F rfl (fun w l => r_assign F rfl) (fun a F => ?_)
   refine q_end (fun w l => ?_)
   replace hB := Below.through l hB
   refine x_tn ?_
   exact ⟨true, (Option.some.inj hR).symm, F.sub (sc rfl sn), hB⟩
  replace hR := ifF hb77 hR
  have F := F.eq (t := 13) rfl (congrArg Value.bool hb77)
  refine q_field (s' := 1) fa60_0 F rfl rfl (A2.go hB) RInstance.f0 (fun a p78 b79 h80 s81 F => ?_)
  have i82 := (h80).i64
  refine q_val F rfl (fun w l => r_loadI Tryz.isAgg2 F rfl ((h80).go l)) (fun a F => ?_)
  refine q_val F rfl (fun w l => r_bfield fa130_1 F rfl rfl) (fun a F => ?_)
  refine q_val F rfl (fun w l => r_load1 Tryz.isAgg42 F rfl (((K12.thru l).cell _).trans rfl)) (fun a F => ?_)
  refine q_field (s' := 1) fa33_1 F rfl rfl (A1.go hB) RTemplate.f1 (fun a p83 b84 h85 s86 F => ?_)
  refine q_loadS (fun _ l => l) Tryz.isAgg31 F rfl rfl h85 (fun a v87 b88 h89 s90 F => ?_)
  refine q_val F rfl (fun w l => r_bfield fa130_0 F rfl rfl) (fun a F => ?_)
  refine q_val F rfl (fun w l => r_load1 Tryz.isAgg2 F rfl (((K12.thru l).cell _).trans rfl)) (fun a F => ?_)
  obtain ⟨z91, c92, hR⟩ := bnd_some hR
  refine q_index Tryz.underlying31 Tryz.sizeOf101 F rfl rfl rfl h89 c92 (fun a p93 b94 h95 s96 F => ?_)
  refine q_field (s' := 1) fa101_0 F rfl rfl h95 RRel.f0 (fun a p97 b98 h99 s100 F => ?_)
  have i101 := (h99).i64
  refine q_val F rfl (fun w l => r_loadI Tryz.isAgg2 F rfl ((h99).go l)) (fun a F => ?_)
  obtain ⟨z102, c103, hR⟩ := bnd_some hR
  refine q_says F rfl Tryz.call118 rfl (fun w w' h l => l.through h) (fun w l => impl_areValues_c z102 c103 w i82 (h17.go l) i101) (fun a F => ?_)
  refine q_val F rfl (fun w l => r_not F rfl) (fun a F => ?_)
  refine q_val F rfl (fun w l => r_pickf F rfl rfl) (fun a F => ?_)
  refine q_val F rfl (fun w l => r_assign F rfl) (fun a F => ?_)
  refine q_end (fun w l => ?_)
  replace hB := Below.through l hB
  refine x_tn ?_
  exact ⟨(!z102), (Option.some.inj hR).symm, F.sub (sc rfl sn), hB⟩
 intro a w ⟨s63, ho62, F, hB⟩
 subst ho62
 have hR := then_nx hk61
 refine x_tn ?_
 refine x_ret ?_
 refine x_res1 F rfl (rv_t F rfl) ?_
 obtain rfl := Option.some.inj hR
 exact ⟨rfl, hB⟩

def slices_IndexFunc_s_Con_Con (x0 : List Con) (x1 : Con → Option Bool) : Option Int :=
 thn (σ := Unit) (
  forL (σ := Unit) (ρ := Int) (fun (k29 : Nat) (x31 : Con) (s : Unit) =>
    match s with
    | _ =>
    bnd (x1 x31) fun z43 =>
    if z43 then
     some (.ret ((k29 : Int)))
    else
     some (.go ())) x0 0 ()) fun _ =>
 some ((-1))
set_option maxHeartbeats 1000000 in
theorem slices_IndexFunc_s_Con_Con_c {x0 : List Con} {x1 : Con → Option Bool} (r : Int) (hR : slices_IndexFunc_s_Con_Con x0 x1 = some r) {v0 : Value} {b0 : List Nat} {g1 : FuncId} {lb1 : List Value} (w0 : World) (A0 : Rd (Sl 2 RCon) w0 v0 x0 b0) (hg1 : ∀ args w, (callFunc g1 args).run Tryz.prog w = .ok (.enter g1 args) w) (hp1 : ∀ (a0 : Con) (r : Bool), x1 a0 = some r → ∀ W, Below w0.heap.size w0 W → ∀ (u0 : Value) (c0 : List Nat), Rd (Agg 2 RCon) W u0 a0 c0 → Calls Tryz.prog g1 ([u0] ++ lb1 : List Value).toArray W (Says (.bool r) W)) : Calls Tryz.prog 196 #[v0, .func (.func g1) #[] lb1.toArray] w0 (SaysI r w0) := by
 unfold slices_IndexFunc_s_Con_Con at hR
 refine x_enter (L := [(0, v0), (1, .func (.func g1) #[] lb1.toArray)]) Tryz.func196 rfl rfl rfl (sc rfl (sc rfl sn)) (fun a F => ?_)
 have hB := Below.refl w0.heap.size w0
 refine x_seq ?_
 refine x_reg ?_
 refine o_assign F rfl rfl (fun a F => ?_)
 refine x_end ?_
 refine x_tn ?_
 refine x_seq ?_
 refine x_seq ?_
 refine x_reg ?_
 refine o_move F rfl rfl (fun a F => ?_)
 refine o_len Tryz.underlying58 F rfl rfl (A0.go hB) (fun a F => ?_)
 have i11 := ((A0.go hB)).r.len64
 refine o_move F rfl rfl (fun a F => ?_)
 refine x_end ?_
 refine x_tn ?_
 obtain ⟨o23, hR, hk24⟩ := thn_some hR
 refine x_cutQ (fun a w => o23 = .nx () ∧ Sk a 19 [] ∧ Below w0.heap.size w0 w) ?_ ?_
 ·
  refine x_blk ?_
  obtain ⟨fl27, hf28, hR⟩ := forL_gen hR
  refine x_loop (fun g a w => ∃ (k29 : Nat) (rest30 : List Con), (k29 ≤ x0.length ∧ x0.drop k29 = rest30) ∧ rest30.length = g ∧ forL fl27 rest30 k29 () = some o23 ∧ Sk a 19 [(8, .int .i64 (k29 : Int)), (0, v0), (1, .func (.func g1) #[] lb1.toArray), (7, .int .i64 (x0.length : Int))] ∧ Below w0.heap.size w0 w) x0.length ?_ ?_
  ·
   exact ⟨0, x0, ⟨Nat.zero_le _, rfl⟩, rfl, hR, F.sub (sc rfl (sc rfl (sc rfl (sc rfl sn)))), hB⟩
  intro g32 a w ⟨k29, rest30, hd33, hg34, hR, F, hB⟩
  cases rest30 with
  | nil =>
   replace hR := forL_nil hR
   have hkk29 := drop_nil hd33.1 hd33.2
   have hlk29 := dec_no hkk29
   refine x_seq ?_
   refine x_reg ?_
   refine o_lss F rfl rfl rfl (fun a F => ?_)
   refine x_end ?_
   refine x_tn ?_
   refine x_seq ?_
   refine x_ifF F rfl hlk29 ?_
   refine x_exit ?_
   refine x_te ?_
   refine x_te ?_
   refine x_be ?_
   refine x_tn ?_
   exact ⟨(Option.some.inj hR).symm, F.sub sn, hB⟩
  | cons x31 rest30 =>
   subst hg34
   replace hd33 := drop_cons hd33.2
   have hxk29 := ix_nat hd33.2.1
   obtain ⟨ck29, hR, hn26⟩ := forL_cons hR
   rw [hf28] at hR
   have hlk29 := dec_yes hd33.1
   refine x_seq ?_
   refine x_reg ?_
   refine o_lss F rfl rfl rfl (fun a F => ?_)
   refine x_end ?_
   refine x_tn ?_
   refine x_seq ?_
   refine x_ifT F rfl hlk29 ?_
   refine x_skip ?_
   refine x_tn ?_
   refine x_seq ?_
   have ikk29 := k64 (Nat.le_of_lt hd33.1) i11
   have ink29 := inc64 hd33.1 i11
   refine x_blk ?_
   refine x_seq ?_
   refine x_reg ?_
   refine o_move F rfl rfl (fun a F => ?_)
   refine o_assign F rfl rfl (fun a F => ?_)
   refine x_end ?_
   refine x_tn ?_
   refine x_seq ?_
   refine x_reg ?_
   refine o_move F rfl rfl (fun a F => ?_)
   refine o_move F rfl rfl (fun a F => ?_)
   refine o_move F rfl rfl (fun a F => ?_)
   refine o_index Tryz.underlying58 Tryz.sizeOf130 F rfl rfl rfl (A0.go hB) hxk29 (fun a p35 b36 h37 s38 F => ?_)
   refine o_loadA Tryz.isAgg130 Tryz.sizeOf130 F rfl rfl h37 (fun a v39 b40 h41 s42 F => ?_)
   obtain ⟨z43, c44, hR⟩ := bnd_some hR
   refine o_saysV F rfl rfl hg1 rfl (hp1 _ z43 c44 _ hB _ _ h41) (fun a w l F => ?_)
   replace hB := Below.through l hB
   refine x_end ?_
   refine x_tn ?_
   refine x_if F rfl (fun hb45 => ?_) (fun hb45 => ?_)
   ·
    replace hR := ifT hb45 hR
    refine x_seq ?_
    refine x_reg ?_
    refine o_move F rfl rfl (fun a F => ?_)
    refine o_assign F rfl rfl (fun a F => ?_)
    refine x_end ?_
    refine x_tn ?_
    refine x_ret ?_
    refine x_br ?_
    refine x_tr ?_
    refine x_tr ?_
    replace hR := l_ret hR hn26
    refine x_br ?_
    refine x_tr ?_
    replace hR := j_ret hR hk24
    refine x_tr ?_
    refine x_res1 F rfl (rv_t F rfl) ?_
    obtain rfl := Option.some.inj hR
    exact ⟨⟨rfl, hB⟩, ikk29⟩
   replace hR := ifF hb45 hR
   refine x_skip ?_
   refine x_bn ?_
   refine x_tn ?_
   refine x_reg ?_
   refine o_inc F rfl rfl rfl ink29 (fun a F => ?_)
   refine o_move F rfl rfl (fun a F => ?_)
   refine x_end ?_
   refine x_tn ?_
   replace hR := l_go hR hn26
   exact ⟨_, Nat.lt_succ_self _, k29 + 1, rest30, ⟨hd33.1, hd33.2.2⟩, rfl, hR, F.sub (sc rfl (sc rfl (sc rfl (sc rfl sn)))), hB⟩
 intro a w ⟨ho25, F, hB⟩
 subst ho25
 have hR := then_nx hk24
 refine x_tn ?_
 refine x_seq ?_
 refine x_reg ?_
 refine o_assign F rfl rfl (fun a F => ?_)
 refine x_end ?_
 refine x_tn ?_
 refine x_ret ?_
 refine x_res1 F rfl (rv_t F rfl) ?_
 obtain rfl := Option.some.inj hR
 exact ⟨⟨rfl, hB⟩, (show I64 (-1) by decide)⟩

def slices_ContainsFunc_s_Con_Con (x0 : List Con) (x1 : Con → Option Bool) : Option Bool :=
 bnd (slices_IndexFunc_s_Con_Con x0 x1) fun z11 =>
 some ((decide (0 ≤ z11)))
set_option maxHeartbeats 1000000 in
theorem slices_ContainsFunc_s_Con_Con_c {x0 : List Con} {x1 : Con → Option Bool} (r : Bool) (hR : slices_ContainsFunc_s_Con_Con x0 x1 = some r) {v0 : Value} {b0 : List Nat} {g1 : FuncId} {lb1 : List Value} (w0 : World) (A0 : Rd (Sl 2 RCon) w0 v0 x0 b0) (hg1 : ∀ args w, (callFunc g1 args).run Tryz.prog w = .ok (.enter g1 args) w) (hp1 : ∀ (a0 : Con) (r : Bool), x1 a0 = some r → ∀ W, Below w0.heap.size w0 W → ∀ (u0 : Value) (c0 : List Nat), Rd (Agg 2 RCon) W u0 a0 c0 → Calls Tryz.prog g1 ([u0] ++ lb1 : List Value).toArray W (Says (.bool r) W)) : Calls Tryz.prog 169 #[v0, .func (.func g1) #[] lb1.toArray] w0 (Says (.bool r) w0) := by
 unfold slices_ContainsFunc_s_Con_Con at hR
 refine x_enter (L := [(0, v0), (1, .func (.func g1) #[] lb1.toArray)]) Tryz.func169 rfl rfl rfl (sc rfl (sc rfl sn)) (fun a F => ?_)
 have hB := Below.refl w0.heap.size w0
 refine x_seq ?_
 refine x_reg ?_
 refine o_assign F rfl rfl (fun a F => ?_)
 refine x_end ?_
 refine x_tn ?_
 refine x_seq ?_
 refine x_reg ?_
 refine o_move F rfl rfl (fun a F => ?_)
 refine o_move F rfl rfl (fun a F => ?_)
 obtain ⟨z11, c12, hR⟩ := bnd_some hR
 refine o_saysI F rfl Tryz.call196 rfl (slices_IndexFunc_s_Con_Con_c z11 c12 _ (A0.go hB) hg1 (fun a0 r h W l => hp1 a0 r h W (hB.through' l))) (fun a w l iz11 F => ?_)
 replace hB := Below.through l hB
 refine o_geq F rfl rfl rfl (fun a F => ?_)
 refine o_assign F rfl rfl (fun a F => ?_)
 refine x_end ?_
 refine x_tn ?_
 refine x_ret ?_
 refine x_res1 F rfl (rv_t F rfl) ?_
 obtain rfl := Option.some.inj hR
 exact ⟨rfl, hB⟩

def impl_ValidInstance (x0 : Template) (x1 : Instance) : Option Bool :=
 thn (σ := Bool) (
  bnd (impl_ValidTemplate (Template.mk x0.size x0.rels)) fun z47 =>
  if z47 then  bnd (impl_isVars x1.vars) fun z50 =>
   if z50 then  if (decide ((x1.cons.length : Int) ≤ 24)) then  bnd (slices_ContainsFunc_s_Con_Con x1.cons (fun a0 => impl_ValidInstance_1 a0 (Template.mk x0.size x0.rels) (Instance.mk x1.vars x1.cons))) fun z55 =>
     some (.nx (!z55)) else  some (.nx false) else  some (.nx false) else  some (.nx false)) fun s45 =>
 some s45
set_option maxHeartbeats 1000000 in
theorem impl_ValidInstance_c {x0 : Template} {x1 : Instance} (r : Bool) (hR : impl_ValidInstance x0 x1 = some r) {v0 : Value} {b0 : List Nat} {v1 : Value} {b1 : List Nat} (w0 : World) (A0 : Rd (Agg 2 RTemplate) w0 v0 x0 b0) (A1 : Rd (Agg 2 RInstance) w0 v1 x1 b1) : Calls Tryz.prog 89 #[v0, v1] w0 (Says (.bool r) w0) := by
 unfold impl_ValidInstance at hR
 refine x_enter (L := [(0, v0), (1, v1)]) Tryz.func89 rfl rfl rfl (sc rfl (sc rfl sn)) (fun a F => ?_)
 have hB := Below.refl w0.heap.size w0
 refine x_seq ?_
 refine x_reg ?_
 obtain ⟨v15, b16, e18, i14, h17, eb13⟩ := RTemplate.rd (A0.go hB)
 subst e18
 refine o_box F rfl rfl rfl (fun a w b11 K12 l BK12 F => ?_)
 have d19 := (dj1 h17.m BK12).symm
 have CK12 := Nat.le_trans hB.size BK12
 replace hB := Below.through l hB
 replace h17 := h17.go l
 obtain ⟨v24, b25, e27, i23, h26, eb22⟩ := RInstance.rd (A1.go hB)
 subst e27
 refine o_box F rfl rfl rfl (fun a w b20 K21 l BK21 F => ?_)
 have nb28 := Dj.bb K12 BK21
 have d29 := (dj1 h17.m BK21).symm
 have d30 := (dj1 h26.m BK21).symm
 have CK21 := Nat.le_trans hB.size BK21
 replace hB := Below.through l hB
 replace h17 := h17.go l
 replace h26 := h26.go l
 replace K12 := K12.thru l
 refine o_assign F rfl rfl (fun a F => ?_)
 refine x_end ?_
 refine x_tn ?_
 refine x_seq ?_
 obtain ⟨o42, hR, hk43⟩ := thn_some hR
 refine x_cutQ (fun a w => ∃ (s45 : Bool), o42 = .nx s45 ∧ Sk a 25 [(4, .bool s45)] ∧ Below w0.heap.size w0 w) ?_ ?_
 ·
  refine x_reg ?_
  refine o_bloadA (cs := [.int .i64 x0.size, v15]) Tryz.isAgg33 Tryz.sizeOf33 F rfl rfl K12 rfl (fun j hj => by match j, hj with | 0, _ => rfl | 1, _ => rfl) (fun a F => ?_)
  have h46 := RTemplate.mk2 (w := w) i14 h17
  obtain ⟨z47, c48, hR⟩ := bnd_some hR
  refine o_says F rfl Tryz.call141 rfl (impl_ValidTemplate_c z47 c48 _ h46) (fun a w l F => ?_)
  replace hB := Below.through l hB
  replace h17 := h17.go l
  replace h26 := h26.go l
  replace K12 := K12.thru l
  replace K21 := K21.thru l
  refine o_move F rfl rfl (fun a F => ?_)
  rcases bcases z47 with hb49 | hb49
  ·
   replace hR := ifT hb49 hR
   have F := F.eq (t := 7) rfl (congrArg Value.bool hb49)
   refine o_bfield fa60_0 F rfl rfl rfl (fun a F => ?_)
   refine o_bload Tryz.isAgg2 F rfl rfl K21 rfl (fun a F => ?_)
   obtain ⟨z50, c51, hR⟩ := bnd_some hR
   refine o_says F rfl Tryz.call168 rfl (impl_isVars_c z50 c51 _ i23) (fun a w l F => ?_)
   replace hB := Below.through l hB
   replace h17 := h17.go l
   replace h26 := h26.go l
   replace K12 := K12.thru l
   replace K21 := K21.thru l
   refine o_pickt F rfl rfl rfl (fun a F => ?_)
   refine o_move F rfl rfl (fun a F => ?_)
   rcases bcases z50 with hb52 | hb52
   ·
    replace hR := ifT hb52 hR
    have F := F.eq (t := 12) rfl (congrArg Value.bool hb52)
    refine o_bfield fa60_1 F rfl rfl rfl (fun a F => ?_)
    refine o_bload Tryz.isAgg58 F rfl rfl K21 rfl (fun a F => ?_)
    refine o_len Tryz.underlying58 F rfl rfl h26 (fun a F => ?_)
    have i53 := (h26).r.len64
    refine o_leq F rfl rfl rfl (fun a F => ?_)
    refine o_pickt F rfl rfl rfl (fun a F => ?_)
    refine o_move F rfl rfl (fun a F => ?_)
    rcases bcases (decide ((x1.cons.length : Int) ≤ 24)) with hb54 | hb54
    ·
     replace hR := ifT hb54 hR
     have F := F.eq (t := 18) rfl (congrArg Value.bool hb54)
     refine o_bfield fa60_1 F rfl rfl rfl (fun a F => ?_)
     refine o_bload Tryz.isAgg58 F rfl rfl K21 rfl (fun a F => ?_)
     refine o_func F rfl rfl rfl (fun a F => ?_)
     obtain ⟨z55, c56, hR⟩ := bnd_some hR
     refine o_says F rfl Tryz.call169 rfl (slices_ContainsFunc_s_Con_Con_c z55 c56 _ h26 Tryz.call170 (fun a0 r h W l u0 c0 f0 => impl_ValidInstance_1_c r h W f0 ((RTemplate.blk K12 i14 h17).go l) ((RInstance.blk K21 i23 h26).go l))) (fun a w l F => ?_)
     replace hB := Below.through l hB
     refine o_not F rfl rfl (fun a F => ?_)
     refine o_pickt F rfl rfl rfl (fun a F => ?_)
     refine o_assign F rfl rfl (fun a F => ?_)
     refine x_end ?_
     refine x_tn ?_
     exact ⟨(!z55), (Option.some.inj hR).symm, F.sub (sc rfl sn), hB⟩
    replace hR := ifF hb54 hR
    have F := F.eq (t := 18) rfl (congrArg Value.bool hb54)
    refine o_no F rfl rfl (fun a F => ?_)
    refine o_no F rfl rfl (fun a F => ?_)
    refine o_no F rfl rfl (fun a F => ?_)
    refine o_no F rfl rfl (fun a F => ?_)
    refine o_no F rfl rfl (fun a F => ?_)
    refine o_pickf F rfl rfl rfl (fun a F => ?_)
    refine o_assign F rfl rfl (fun a F => ?_)
    refine x_end ?_
    refine x_tn ?_
    exact ⟨false, (Option.some.inj hR).symm, F.sub (sc rfl sn), hB⟩
   replace hR := ifF hb52 hR
   have F := F.eq (t := 12) rfl (congrArg Value.bool hb52)
   refine o_no F rfl rfl (fun a F => ?_)
   refine o_no F rfl rfl (fun a F => ?_)
   refine o_no F rfl rfl (fun a F => ?_)
   refine o_no F rfl rfl (fun a F => ?_)
   refine o_pickf F rfl rfl rfl (fun a F => ?_)
   refine o_move F rfl rfl (fun a F => ?_)
   refine o_no F rfl rfl (fun a F => ?_)
   refine o_no F rfl rfl (fun a F => ?_)
   refine o_no F rfl rfl (fun a F => ?_)
   refine o_no F rfl rfl (fun a F => ?_)
   refine o_no F rfl rfl (fun a F => ?_)
   refine o_pickf F rfl rfl rfl (fun a F => ?_)
   refine o_assign F rfl rfl (fun a F => ?_)
   refine x_end ?_
   refine x_tn ?_
   exact ⟨false, (Option.some.inj hR).symm, F.sub (sc rfl sn), hB⟩
  replace hR := ifF hb49 hR
  have F := F.eq (t := 7) rfl (congrArg Value.bool hb49)
  refine o_no F rfl rfl (fun a F => ?_)
  refine o_no F rfl rfl (fun a F => ?_)
  refine o_no F rfl rfl (fun a F => ?_)
  refine o_pickf F rfl rfl rfl (fun a F => ?_)
  refine o_move F rfl rfl (fun a F => ?_)
  refine o_no F rfl rfl (fun a F => ?_)
  refine o_no F rfl rfl (fun a F => ?_)
  refine o_no F rfl rfl (fun a F => ?_)
  refine o_no F rfl rfl (fun a F => ?_)
  refine o_pickf F rfl rfl rfl (fun a F => ?_)
  refine o_move F rfl rfl (fun a F => ?_)
  refine o_no F rfl rfl (fun a F => ?_)
  refine o_no F rfl rfl (fun a F => ?_)
  refine o_no F rfl rfl (fun a F => ?_)
  refine o_no F rfl rfl (fun a F => ?_)
  refine o_no F rfl rfl (fun a F => ?_)
  refine o_pickf F rfl rfl rfl (fun a F => ?_)
  refine o_assign F rfl rfl (fun a F => ?_)
  refine x_end ?_
  refine x_tn ?_
  exact ⟨false, (Option.some.inj hR).symm, F.sub (sc rfl sn), hB⟩
 intro a w ⟨s45, ho44, F, hB⟩
 subst ho44
 have hR := then_nx hk43
 refine x_tn ?_
 refine x_ret ?_
 refine x_res1 F rfl (rv_t F rfl) ?_
 obtain rfl := Option.some.inj hR
 exact ⟨rfl, hB⟩

def impl_ownLists (x0 : List (List Int)) : Option (List (List Int)) :=
 thn (σ := (List (List Int))) (
  forL (σ := (List (List Int))) (ρ := (List (List Int))) (fun (k114 : Nat) (x116 : (List Int)) (s100 : (List (List Int))) =>
   bnd (slices_Clone_s_int64_int64 x116) fun z128 =>
   bnd (ap s100 ([z128])) fun z147 =>
   some (.go z147)) x0 0 []) fun s107 =>
 some s107
set_option maxHeartbeats 1000000 in
theorem impl_ownLists_c {x0 : List (List Int)} (r : (List (List Int))) (hR : impl_ownLists x0 = some r) {v0 : Value} {b0 : List Nat} (w0 : World) (A0 : Rd (Sl 1 (RSl 1 RInt)) w0 v0 x0 b0) : Calls Tryz.prog 177 #[v0] w0 (Gives (fun v w' => ∃ (v1' : Value) (rb2' : List Nat) (ib3' : List Nat), v = v1' ∧ Row 1 (RSl 1 RInt) 42 w0.heap.size w' v1' r rb2' ib3' ∧ Own w0.heap.size ib3' w') w0) := by
 unfold impl_ownLists at hR
 refine x_enter (L := [(0, v0)]) Tryz.func177 rfl rfl rfl (sc rfl sn) (fun a F => ?_)
 have hB := Below.refl w0.heap.size w0
 refine x_seq ?_
 refine x_reg ?_
 refine o_assign F rfl rfl (fun a F => ?_)
 refine x_end ?_
 refine x_tn ?_
 refine x_seq ?_
 refine x_reg ?_
 refine o_lit0 (R := (RSl 1 RInt)) Tryz.underlying99 Tryz.sizeOf42 F rfl (fun a w v11 rb12 h13 l F => ?_)
 replace h13 := h13.base hB.size
 replace hB := Below.through l hB
 refine o_assign F rfl rfl (fun a F => ?_)
 refine x_end ?_
 refine x_tn ?_
 refine x_seq ?_
 refine x_seq ?_
 refine x_reg ?_
 refine o_move F rfl rfl (fun a F => ?_)
 refine o_len Tryz.underlying99 F rfl rfl (A0.go hB) (fun a F => ?_)
 have i15 := ((A0.go hB)).r.len64
 refine o_move F rfl rfl (fun a F => ?_)
 refine x_end ?_
 refine x_tn ?_
 obtain ⟨o94, hR, hk95⟩ := thn_some hR
 refine x_cutQ (fun a w => ∃ (s107 : List (List Int)) (v110 : Value) (rb111 : List Nat) (ib112 : List Nat), o94 = .nx s107 ∧ Sk a 20 [(3, v110)] ∧ Below w0.heap.size w0 w ∧ Row 1 (RSl 1 RInt) 42 w0.heap.size w v110 s107 rb111 ib112 ∧ Own w0.heap.size ib112 w) ?_ ?_
 ·
  refine x_blk ?_
  obtain ⟨fl98, hf99, hR⟩ := forL_gen hR
  refine x_loop (fun g a w => ∃ (k114 : Nat) (rest115 : List (List Int)) (s100 : List (List Int)) (v103 : Value) (rb104 : List Nat) (ib105 : List Nat), (k114 ≤ x0.length ∧ x0.drop k114 = rest115) ∧ rest115.length = g ∧ forL fl98 rest115 k114 s100 = some o94 ∧ Sk a 20 [(9, .int .i64 (k114 : Int)), (3, v103), (7, v0), (8, .int .i64 (x0.length : Int))] ∧ Below w0.heap.size w0 w ∧ Row 1 (RSl 1 RInt) 42 w0.heap.size w v103 s100 rb104 ib105 ∧ Own w0.heap.size ib105 w) x0.length ?_ ?_
  ·
   exact ⟨0, x0, [], v11, rb12, [], ⟨Nat.zero_le _, rfl⟩, rfl, hR, F.sub (sc rfl (sc rfl (sc rfl (sc rfl sn)))), hB, h13, (Own.nil _ _)⟩
  intro g117 a w ⟨k114, rest115, s100, v103, rb104, ib105, hd118, hg119, hR, F, hB, h102, ow106⟩
  cases rest115 with
  | nil =>
   replace hR := forL_nil hR
   have hkk114 := drop_nil hd118.1 hd118.2
   have hlk114 := dec_no hkk114
   refine x_seq ?_
   refine x_reg ?_
   refine o_lss F rfl rfl rfl (fun a F => ?_)
   refine x_end ?_
   refine x_tn ?_
   refine x_seq ?_
   refine x_ifF F rfl hlk114 ?_
   refine x_exit ?_
   refine x_te ?_
   refine x_te ?_
   refine x_be ?_
   refine x_tn ?_
   exact ⟨s100, v103, rb104, ib105, (Option.some.inj hR).symm, F.sub (sc rfl sn), hB, h102, ow106⟩
  | cons x116 rest115 =>
   subst hg119
   replace hd118 := drop_cons hd118.2
   have hxk114 := ix_nat hd118.2.1
   obtain ⟨ck114, hR, hn97⟩ := forL_cons hR
   rw [hf99] at hR
   have hlk114 := dec_yes hd118.1
   refine x_seq ?_
   refine x_reg ?_
   refine o_lss F rfl rfl rfl (fun a F => ?_)
   refine x_end ?_
   refine x_tn ?_
   refine x_seq ?_
   refine x_ifT F rfl hlk114 ?_
   refine x_skip ?_
   refine x_tn ?_
   refine x_seq ?_
   have ikk114 := k64 (Nat.le_of_lt hd118.1) i15
   have ink114 := inc64 hd118.1 i15
   refine x_blk ?_
   refine x_seq ?_
   refine x_reg ?_
   refine o_index Tryz.underlying99 Tryz.sizeOf42 F rfl rfl rfl (A0.go hB) hxk114 (fun a p120 b121 h122 s123 F => ?_)
   refine o_loadS Tryz.isAgg42 F rfl rfl h122 (fun a v124 b125 h126 s127 F => ?_)
   refine o_assign F rfl rfl (fun a F => ?_)
   refine x_end ?_
   refine x_tn ?_
   refine x_reg ?_
   refine o_move F rfl rfl (fun a F => ?_)
   refine o_move F rfl rfl (fun a F => ?_)
   obtain ⟨z128, c129, hR⟩ := bnd_some hR
   refine o_gives F rfl Tryz.call71 rfl (slices_Clone_s_int64_int64_c z128 c129 _ h126) (fun a vv w l ⟨v130, rb131, hv134, h133⟩ F => ?_)
   subst vv
   have d136 := Dj.new h102.rd.m h133.ownR (Nat.le_refl _)
   have d137 := Dj.app' (Dj.new h102.memR h133.ownR (Nat.le_refl _)).symm (Dj.nil' _)
   have d138 := Dj.app' (Dj.new h102.mem h133.ownR (Nat.le_refl _)).symm (Dj.nil' _)
   replace h133 := h133.base hB.size
   replace hB := Below.through l hB
   replace h102 := h102.go l
   replace ow106 := ow106.go l
   refine o_lit1 (R := (RSl 1 RInt)) (y := z128) Tryz.underlying99 Tryz.sizeOf42 Tryz.zeroValue42 rfl (by decide) (by decide) F rfl rfl (El.sl h133.rd) (fun a w v139 rb140 h141 l F => ?_)
   have ow142 := Own.go (h133.own (Own.nil _ _)) l
   have d144 := Dj.new h102.rd.m h141.ownR (Nat.le_refl _)
   have d145 := Dj.app' (Dj.new h102.memR h141.ownR (Nat.le_refl _)).symm d137
   have d146 := Dj.app' (Dj.new h102.mem h141.ownR (Nat.le_refl _)).symm d138
   replace h141 := h141.base hB.size
   replace hB := Below.through l hB
   replace h102 := h102.go l
   replace ow106 := ow106.go l
   obtain ⟨z147, c148, hR⟩ := bnd_some hR
   refine o_append (sz := 1) (R := (RSl 1 RInt)) (z := ((.slice none 0 0))) (bytes := 24) Tryz.underlying99 (by kernel_rfl) rfl (by decide) (by decide) (by decide) F rfl rfl rfl h102 h141.src hB.size (Dj.symm d145.r) c148 (fun a w v149 rb150 h151 l keep F => ?_)
   have ow152 := Own.append (Own.goO ow106 l h102.dj.symm) (Own.goO ow142 l (Dj.symm (Dj.symm d145.r))) (Dj.symm d146.r)
   replace hB := hB.o l h102.lo hB.size
   refine o_assign F rfl rfl (fun a F => ?_)
   refine x_end ?_
   refine x_bn ?_
   refine x_tn ?_
   refine x_reg ?_
   refine o_inc F rfl rfl rfl ink114 (fun a F => ?_)
   refine o_move F rfl rfl (fun a F => ?_)
   refine x_end ?_
   refine x_tn ?_
   replace hR := l_go hR hn97
   exact ⟨_, Nat.lt_succ_self _, k114 + 1, rest115, z147, v149, rb150, (ib105 ++ (rb131 ++ [])), ⟨hd118.1, hd118.2.2⟩, rfl, hR, F.sub (sc rfl (sc rfl (sc rfl (sc rfl sn)))), hB, h151, ow152⟩
 intro a w ⟨s107, v110, rb111, ib112, ho96, F, hB, h109, ow113⟩
 subst ho96
 have hR := then_nx hk95
 refine x_tn ?_
 refine x_seq ?_
 refine x_reg ?_
 refine o_move F rfl rfl (fun a F => ?_)
 refine o_assign F rfl rfl (fun a F => ?_)
 refine x_end ?_
 refine x_tn ?_
 refine x_ret ?_
 refine x_res1 F rfl (rv_t F rfl) ?_
 obtain rfl := Option.some.inj hR
 exact ⟨_, rfl, hB, v110, rb111, ib112, rfl, h109, ow113⟩
end Go.Proofs.YtfggmelojaicfaaGreat
