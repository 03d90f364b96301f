/-
  Functions of the program as plain functions, and that they compute them. Printed by fxio.py.
-/
import Derived.Test.YtfepllddlmhjiaaGreatS1
namespace Go.Proofs.YtfepllddlmhjiaaGreat
set_option linter.unusedVariables false
set_option linter.unusedSimpArgs false
set_option maxRecDepth 100000
open Go.RowKit
def spec_l01Places (x0 : List Int) (x1 : Int) : Option Bool :=
 thn (σ := Unit) (
  forL (σ := Unit) (ρ := Bool) (fun (k29 : Nat) (x31 : Int) (s : Unit) =>
    match s with
    | _ =>
    bnd (ck (x1 - 1)) fun z41 =>
    bnd (spec_l00In x31 0 z41) fun z43 =>
    if (!z43) then
     some (.ret false)
    else
     some (.go ())) x0 0 ()) fun _ =>
 some true
set_option maxHeartbeats 1000000 in
theorem spec_l01Places_c {x0 : List Int} {x1 : Int} (r : Bool) (hR : spec_l01Places x0 x1 = some r) {v0 : Value} {b0 : List Nat} (w0 : World) (A0 : Rd (Sl 1 RInt) w0 v0 x0 b0) (hx1 : I64 x1) : Calls Tryz.prog 181 #[v0, .int .i64 x1] w0 (Says (.bool r) w0) := by
 unfold spec_l01Places at hR
 refine x_enter (L := [(0, v0), (1, .int .i64 x1)]) Tryz.func181 rfl rfl rfl (sc rfl (sc rfl sn)) (fun a F => ?_)
 have hB := Below.refl w0.heap.size w0
 refine x_seq ?_
 refine x_reg ?_
 refine o_assign F rfl rfl (fun a F => ?_)
 refine x_end ?_
 refine x_tn ?_
 refine x_seq ?_
 refine x_seq ?_
 refine x_reg ?_
 refine o_assign F rfl rfl (fun a F => ?_)
 refine x_end ?_
 refine x_tn ?_
 obtain ⟨o23, hR, hk24⟩ := thn_some hR
 refine x_cutQ (fun a w => o23 = .nx () ∧ Sk a 20 [] ∧ Below w0.heap.size w0 w) ?_ ?_
 ·
  refine x_blk ?_
  obtain ⟨fl27, hf28, hR⟩ := forL_gen hR
  refine x_loop (fun g a w => ∃ (k29 : Nat) (rest30 : List Int), (k29 ≤ x0.length ∧ x0.drop k29 = rest30) ∧ rest30.length = g ∧ forL fl27 rest30 k29 () = some o23 ∧ Sk a 20 [(5, .int .i64 (k29 : Int)), (0, v0), (1, .int .i64 x1)] ∧ Below w0.heap.size w0 w) x0.length ?_ ?_
  ·
   exact ⟨0, x0, ⟨Nat.zero_le _, rfl⟩, rfl, hR, F.sub (sc rfl (sc rfl (sc rfl sn))), hB⟩
  ·
   intro g32 a w ⟨k29, rest30, hd33, hg34, hR, F, hB⟩
   cases rest30 with
   | nil =>
    replace hR := forL_nil hR
    have hkk29 := drop_nil hd33.1 hd33.2
    have hlk29 := dec_no hkk29
    refine x_seq ?_
    refine x_seq ?_
    refine x_reg ?_
    refine o_move F rfl rfl (fun a F => ?_)
    refine o_move F rfl rfl (fun a F => ?_)
    refine o_len Tryz.underlying46 F rfl rfl (A0.go hB) (fun a F => ?_)
    have i46 := ((A0.go hB)).r.len64
    refine o_lss F rfl rfl rfl (fun a F => ?_)
    refine x_end ?_
    refine x_tn ?_
    refine x_ifF F rfl hlk29 ?_
    refine x_exit ?_
    refine x_te ?_
    refine x_te ?_
    refine x_be ?_
    refine x_tn ?_
    exact ⟨(Option.some.inj hR).symm, F.sub sn, hB⟩
   | cons x31 rest30 =>
    subst hg34
    replace hd33 := drop_cons hd33.2
    have hxk29 := ix_nat hd33.2.1
    obtain ⟨ck29, hR, hn26⟩ := forL_cons hR
    rw [hf28] at hR
    have hlk29 := dec_yes hd33.1
    refine x_seq ?_
    refine x_seq ?_
    refine x_reg ?_
    refine o_move F rfl rfl (fun a F => ?_)
    refine o_move F rfl rfl (fun a F => ?_)
    refine o_len Tryz.underlying46 F rfl rfl (A0.go hB) (fun a F => ?_)
    have i35 := ((A0.go hB)).r.len64
    refine o_lss F rfl rfl rfl (fun a F => ?_)
    refine x_end ?_
    refine x_tn ?_
    refine x_ifT F rfl hlk29 ?_
    refine x_skip ?_
    refine x_tn ?_
    refine x_seq ?_
    have ikk29 := k64 (Nat.le_of_lt hd33.1) i35
    have ink29 := inc64 hd33.1 i35
    refine x_blk ?_
    refine x_seq ?_
    refine x_reg ?_
    refine o_move F rfl rfl (fun a F => ?_)
    refine o_move F rfl rfl (fun a F => ?_)
    refine o_index Tryz.underlying46 Tryz.sizeOf2 F rfl rfl rfl (A0.go hB) hxk29 (fun a p36 b37 h38 s39 F => ?_)
    have i40 := (h38).i64
    refine o_loadI Tryz.isAgg2 F rfl rfl h38 (fun a F => ?_)
    refine o_move F rfl rfl (fun a F => ?_)
    obtain ⟨z41, c42, hR⟩ := bnd_some hR
    refine o_sub F rfl rfl rfl c42 (fun a F => ?_)
    obtain ⟨z43, c44, hR⟩ := bnd_some hR
    refine o_says F rfl Tryz.call152 rfl (spec_l00In_c z43 c44 _ i40 (show I64 (0) by decide) (ck64 c42)) (fun a w l F => ?_)
    replace hB := Below.through l hB
    refine o_not F rfl rfl (fun a F => ?_)
    refine x_end ?_
    refine x_tn ?_
    refine x_if F rfl (fun hb45 => ?_) (fun hb45 => ?_)
    ·
     replace hR := ifT hb45 hR
     refine x_seq ?_
     refine x_reg ?_
     refine o_assign F rfl rfl (fun a F => ?_)
     refine x_end ?_
     refine x_tn ?_
     refine x_ret ?_
     refine x_br ?_
     refine x_tr ?_
     refine x_tr ?_
     replace hR := l_ret hR hn26
     refine x_br ?_
     refine x_tr ?_
     replace hR := j_ret hR hk24
     refine x_tr ?_
     refine x_res1 F rfl (rv_t F rfl) ?_
     obtain rfl := Option.some.inj hR
     exact ⟨rfl, hB⟩
    ·
     replace hR := ifF hb45 hR
     refine x_skip ?_
     refine x_bn ?_
     refine x_tn ?_
     refine x_reg ?_
     refine o_move F rfl rfl (fun a F => ?_)
     refine o_inc F rfl rfl rfl ink29 (fun a F => ?_)
     refine o_assign F rfl rfl (fun a F => ?_)
     refine x_end ?_
     refine x_tn ?_
     replace hR := l_go hR hn26
     exact ⟨_, Nat.lt_succ_self _, k29 + 1, rest30, ⟨hd33.1, hd33.2.2⟩, rfl, hR, F.sub (sc rfl (sc rfl (sc rfl sn))), hB⟩
 ·
  intro a w ⟨ho25, F, hB⟩
  subst ho25
  have hR := then_nx hk24
  refine x_tn ?_
  refine x_seq ?_
  refine x_reg ?_
  refine o_assign F rfl rfl (fun a F => ?_)
  refine x_end ?_
  refine x_tn ?_
  refine x_ret ?_
  refine x_res1 F rfl (rv_t F rfl) ?_
  obtain rfl := Option.some.inj hR
  exact ⟨rfl, hB⟩

def spec_l05Ok (x0 : Template) (x1 : Instance) : Option Bool :=
 thn (σ := Bool) (
  bnd (spec_l01Template x0) fun z35 =>
  if (!z35) then  some (.nx true) else  bnd (spec_l00In x1.vars 1 10) fun z43 =>
   if (!z43) then  some (.nx true) else  some (.nx (decide (24 < (x1.cons.length : Int))))) fun s34 =>
 if s34 then
  some false
 else
  thn (σ := Unit) (
   forL (σ := Unit) (ρ := Bool) (fun (k233 : Nat) (x235 : Con) (s : Unit) =>
     match s with
     | _ =>
     thn (σ := Bool) (
      bnd (ck ((x0.rels.length : Int) - 1)) fun z346 =>
      bnd (spec_l00In x235.rel 0 z346) fun z348 =>
      if (!z348) then  some (.nx true) else  bnd (ix x0.rels x235.rel) fun z373 =>
       if ((x235.scope.length : Int) != z373.arity) then  some (.nx true) else  bnd (spec_l01Places x235.scope x1.vars) fun z398 =>
        some (.nx (!z398))) fun s331 =>
     if s331 then
      some (.ret false)
     else
      some (.go ())) x1.cons 0 ()) fun _ =>
  some true
set_option maxHeartbeats 1000000 in
theorem spec_l05Ok_c {x0 : Template} {x1 : Instance} (r : Bool) (hR : spec_l05Ok x0 x1 = some r) {v0 : Value} {b0 : List Nat} {v1 : Value} {b1 : List Nat} (w0 : World) (A0 : Rd (Pt 2 RTemplate) w0 v0 x0 b0) (A1 : Rd (Pt 2 RInstance) w0 v1 x1 b1) : Calls Tryz.prog 123 #[v0, v1] w0 (Says (.bool r) w0) := by
 unfold spec_l05Ok at hR
 refine x_enter (L := [(0, v0), (1, v1)]) Tryz.func123 rfl rfl rfl (sc rfl (sc rfl sn)) (fun a F => ?_)
 have hB := Below.refl w0.heap.size w0
 refine x_seq ?_
 refine x_reg ?_
 refine o_assign F rfl rfl (fun a F => ?_)
 refine x_end ?_
 refine x_tn ?_
 refine x_seq ?_
 refine x_seq ?_
 obtain ⟨o31, hR, hk32⟩ := thn_some hR
 refine x_cutQ (fun a w => ∃ (s34 : Bool), o31 = .nx s34 ∧ Sk a 84 [(0, v0), (1, v1), (25, .bool s34)] ∧ Below w0.heap.size w0 w) ?_ ?_
 ·
  refine x_reg ?_
  refine o_move F rfl rfl (fun a F => ?_)
  obtain ⟨z35, c36, hR⟩ := bnd_some hR
  refine o_says F rfl Tryz.call163 rfl (spec_l01Template_c z35 c36 _ (A0.go hB)) (fun a w l F => ?_)
  replace hB := Below.through l hB
  refine o_not F rfl rfl (fun a F => ?_)
  refine o_move F rfl rfl (fun a F => ?_)
  rcases bcases (!z35) with hb37 | hb37
  ·
   replace hR := ifT hb37 hR
   have F := F.eq (t := 10) rfl (congrArg Value.bool hb37)
   refine o_no F rfl rfl (fun a F => ?_)
   refine o_no F rfl rfl (fun a F => ?_)
   refine o_no F rfl rfl (fun a F => ?_)
   refine o_no F rfl rfl (fun a F => ?_)
   refine o_no F rfl rfl (fun a F => ?_)
   refine o_no F rfl rfl (fun a F => ?_)
   refine o_pickt F rfl rfl rfl (fun a F => ?_)
   refine o_move F rfl rfl (fun a F => ?_)
   refine o_no F rfl rfl (fun a F => ?_)
   refine o_no F rfl rfl (fun a F => ?_)
   refine o_no F rfl rfl (fun a F => ?_)
   refine o_no F rfl rfl (fun a F => ?_)
   refine o_no F rfl rfl (fun a F => ?_)
   refine o_no F rfl rfl (fun a F => ?_)
   refine o_pickt F rfl rfl rfl (fun a F => ?_)
   refine x_end ?_
   refine x_tn ?_
   exact ⟨true, (Option.some.inj hR).symm, F.sub (sc rfl (sc rfl (sc rfl sn))), hB⟩
  ·
   replace hR := ifF hb37 hR
   have F := F.eq (t := 10) rfl (congrArg Value.bool hb37)
   refine o_move F rfl rfl (fun a F => ?_)
   refine o_nilCheckP F rfl rfl (A1.go hB) (fun a F => ?_)
   refine o_field (s' := 1) fa51_0 F rfl rfl (A1.go hB) RInstance.f0 (fun a p38 b39 h40 s41 F => ?_)
   have i42 := (h40).i64
   refine o_loadI Tryz.isAgg2 F rfl rfl h40 (fun a F => ?_)
   obtain ⟨z43, c44, hR⟩ := bnd_some hR
   refine o_says F rfl Tryz.call152 rfl (spec_l00In_c z43 c44 _ i42 (show I64 (1) by decide) (show I64 (10) by decide)) (fun a w l F => ?_)
   replace hB := Below.through l hB
   refine o_not F rfl rfl (fun a F => ?_)
   refine o_pickf F rfl rfl rfl (fun a F => ?_)
   refine o_move F rfl rfl (fun a F => ?_)
   rcases bcases (!z43) with hb45 | hb45
   ·
    replace hR := ifT hb45 hR
    have F := F.eq (t := 18) rfl (congrArg Value.bool hb45)
    refine o_no F rfl rfl (fun a F => ?_)
    refine o_no F rfl rfl (fun a F => ?_)
    refine o_no F rfl rfl (fun a F => ?_)
    refine o_no F rfl rfl (fun a F => ?_)
    refine o_no F rfl rfl (fun a F => ?_)
    refine o_no F rfl rfl (fun a F => ?_)
    refine o_pickt F rfl rfl rfl (fun a F => ?_)
    refine x_end ?_
    refine x_tn ?_
    exact ⟨true, (Option.some.inj hR).symm, F.sub (sc rfl (sc rfl (sc rfl sn))), hB⟩
   ·
    replace hR := ifF hb45 hR
    have F := F.eq (t := 18) rfl (congrArg Value.bool hb45)
    refine o_move F rfl rfl (fun a F => ?_)
    refine o_nilCheckP F rfl rfl (A1.go hB) (fun a F => ?_)
    refine o_field (s' := 1) fa51_1 F rfl rfl (A1.go hB) RInstance.f1 (fun a p46 b47 h48 s49 F => ?_)
    refine o_loadS Tryz.isAgg49 F rfl rfl h48 (fun a v50 b51 h52 s53 F => ?_)
    refine o_len Tryz.underlying49 F rfl rfl h52 (fun a F => ?_)
    have i54 := (h52).r.len64
    refine o_gtr F rfl rfl rfl (fun a F => ?_)
    refine o_pickf F rfl rfl rfl (fun a F => ?_)
    refine x_end ?_
    refine x_tn ?_
    exact ⟨(decide (24 < (x1.cons.length : Int))), (Option.some.inj hR).symm, F.sub (sc rfl (sc rfl (sc rfl sn))), hB⟩
 ·
  intro a w ⟨s34, ho33, F, hB⟩
  subst ho33
  have hR := then_nx hk32
  refine x_tn ?_
  refine x_if F rfl (fun hb55 => ?_) (fun hb55 => ?_)
  ·
   replace hR := ifT hb55 hR
   refine x_seq ?_
   refine x_reg ?_
   refine o_assign F rfl rfl (fun a F => ?_)
   refine x_end ?_
   refine x_tn ?_
   refine x_ret ?_
   refine x_tr ?_
   refine x_res1 F rfl (rv_t F rfl) ?_
   obtain rfl := Option.some.inj hR
   exact ⟨rfl, hB⟩
  ·
   replace hR := ifF hb55 hR
   refine x_skip ?_
   refine x_tn ?_
   refine x_seq ?_
   refine x_seq ?_
   refine x_reg ?_
   refine o_assign F rfl rfl (fun a F => ?_)
   refine x_end ?_
   refine x_tn ?_
   obtain ⟨o227, hR, hk228⟩ := thn_some hR
   refine x_cutQ (fun a w => o227 = .nx () ∧ Sk a 84 [] ∧ Below w0.heap.size w0 w) ?_ ?_
   ·
    refine x_blk ?_
    obtain ⟨fl231, hf232, hR⟩ := forL_gen hR
    refine x_loop (fun g a w => ∃ (k233 : Nat) (rest234 : List Con), (k233 ≤ x1.cons.length ∧ x1.cons.drop k233 = rest234) ∧ rest234.length = g ∧ forL fl231 rest234 k233 () = some o227 ∧ Sk a 84 [(5, .int .i64 (k233 : Int)), (0, v0), (1, v1)] ∧ Below w0.heap.size w0 w) x1.cons.length ?_ ?_
    ·
     exact ⟨0, x1.cons, ⟨Nat.zero_le _, rfl⟩, rfl, hR, F.sub (sc rfl (sc rfl (sc rfl sn))), hB⟩
    ·
     intro g236 a w ⟨k233, rest234, hd237, hg238, hR, F, hB⟩
     cases rest234 with
     | nil =>
      replace hR := forL_nil hR
      have hkk233 := drop_nil hd237.1 hd237.2
      have hlk233 := dec_no hkk233
      refine x_seq ?_
      refine x_seq ?_
      refine x_reg ?_
      refine o_move F rfl rfl (fun a F => ?_)
      refine o_move F rfl rfl (fun a F => ?_)
      refine o_nilCheckP F rfl rfl (A1.go hB) (fun a F => ?_)
      refine o_field (s' := 1) fa51_1 F rfl rfl (A1.go hB) RInstance.f1 (fun a p401 b402 h403 s404 F => ?_)
      refine o_loadS Tryz.isAgg49 F rfl rfl h403 (fun a v405 b406 h407 s408 F => ?_)
      refine o_len Tryz.underlying49 F rfl rfl h407 (fun a F => ?_)
      have i409 := (h407).r.len64
      refine o_lss F rfl rfl rfl (fun a F => ?_)
      refine x_end ?_
      refine x_tn ?_
      refine x_ifF F rfl hlk233 ?_
      refine x_exit ?_
      refine x_te ?_
      refine x_te ?_
      refine x_be ?_
      refine x_tn ?_
      exact ⟨(Option.some.inj hR).symm, F.sub sn, hB⟩
     | cons x235 rest234 =>
      subst hg238
      replace hd237 := drop_cons hd237.2
      have hxk233 := ix_nat hd237.2.1
      obtain ⟨ck233, hR, hn230⟩ := forL_cons hR
      rw [hf232] at hR
      have hlk233 := dec_yes hd237.1
      refine x_seq ?_
      refine x_seq ?_
      refine x_reg ?_
      refine o_move F rfl rfl (fun a F => ?_)
      refine o_move F rfl rfl (fun a F => ?_)
      refine o_nilCheckP F rfl rfl (A1.go hB) (fun a F => ?_)
      refine o_field (s' := 1) fa51_1 F rfl rfl (A1.go hB) RInstance.f1 (fun a p239 b240 h241 s242 F => ?_)
      refine o_loadS Tryz.isAgg49 F rfl rfl h241 (fun a v243 b244 h245 s246 F => ?_)
      refine o_len Tryz.underlying49 F rfl rfl h245 (fun a F => ?_)
      have i247 := (h245).r.len64
      refine o_lss F rfl rfl rfl (fun a F => ?_)
      refine x_end ?_
      refine x_tn ?_
      refine x_ifT F rfl hlk233 ?_
      refine x_skip ?_
      refine x_tn ?_
      refine x_seq ?_
      have ikk233 := k64 (Nat.le_of_lt hd237.1) i247
      have ink233 := inc64 hd237.1 i247
      refine x_blk ?_
      refine x_seq ?_
      refine x_reg ?_
      refine o_move F rfl rfl (fun a F => ?_)
      refine o_nilCheckP F rfl rfl (A1.go hB) (fun a F => ?_)
      refine o_field (s' := 1) fa51_1 F rfl rfl (A1.go hB) RInstance.f1 (fun a p248 b249 h250 s251 F => ?_)
      refine o_loadS Tryz.isAgg49 F rfl rfl h250 (fun a v252 b253 h254 s255 F => ?_)
      refine o_move F rfl rfl (fun a F => ?_)
      refine o_index Tryz.underlying49 Tryz.sizeOf194 F rfl rfl rfl h254 hxk233 (fun a p256 b257 h258 s259 F => ?_)
      refine o_assign F rfl rfl (fun a F => ?_)
      refine x_end ?_
      refine x_tn ?_
      refine x_seq ?_
      obtain ⟨o328, hR, hk329⟩ := thn_some hR
      refine x_cutQ (fun a w => ∃ (s331 : Bool), o328 = .nx s331 ∧ Sk a 84 [(0, v0), (1, v1), (5, .int .i64 (k233 : Int)), (83, .bool s331)] ∧ Below w0.heap.size w0 w) ?_ ?_
      ·
       refine x_draw (by kernel_rfl) (by kernel_rfl) ?_
       refine q_val F rfl (fun w l => r_move F rfl) (fun a F => ?_)
       refine q_val F rfl (fun w l => r_nilCheckP F rfl h258) (fun a F => ?_)
       refine q_field (s' := 1) fa194_0 F rfl rfl h258 RCon.f0 (fun a p332 b333 h334 s335 F => ?_)
       have i336 := (h334).i64
       refine q_val F rfl (fun w l => r_loadI Tryz.isAgg2 F rfl ((h334).go l)) (fun a F => ?_)
       refine q_val F rfl (fun w l => r_move F rfl) (fun a F => ?_)
       refine q_val F rfl (fun w l => r_nilCheckP F rfl (A0.go hB)) (fun a F => ?_)
       refine q_field (s' := 1) fa33_1 F rfl rfl (A0.go hB) RTemplate.f1 (fun a p337 b338 h339 s340 F => ?_)
       refine q_loadS (fun _ l => l) Tryz.isAgg31 F rfl rfl h339 (fun a v341 b342 h343 s344 F => ?_)
       refine q_val F rfl (fun w l => r_len Tryz.underlying31 F rfl (h343).r w) (fun a F => ?_)
       have i345 := (h343).r.len64
       obtain ⟨z346, c347, hR⟩ := bnd_some hR
       refine q_val F rfl (fun w l => r_sub F rfl rfl c347) (fun a F => ?_)
       obtain ⟨z348, c349, hR⟩ := bnd_some hR
       refine q_says F rfl Tryz.call152 rfl (fun w w' h l => l.through h) (fun w l => spec_l00In_c z348 c349 w i336 (show I64 (0) by decide) (ck64 c347)) (fun a F => ?_)
       refine q_val F rfl (fun w l => r_not F rfl) (fun a F => ?_)
       refine q_val F rfl (fun w l => r_move F rfl) (fun a F => ?_)
       rcases bcases (!z348) with hb350 | hb350
       ·
        replace hR := ifT hb350 hR
        have F := F.eq (t := 53) rfl (congrArg Value.bool hb350)
        refine q_no F rfl rfl (fun a F => ?_)
        refine q_no F rfl rfl (fun a F => ?_)
        refine q_no F rfl rfl (fun a F => ?_)
        refine q_no F rfl rfl (fun a F => ?_)
        refine q_no F rfl rfl (fun a F => ?_)
        refine q_no F rfl rfl (fun a F => ?_)
        refine q_no F rfl rfl (fun a F => ?_)
        refine q_no F rfl rfl (fun a F => ?_)
        refine q_no F rfl rfl (fun a F => ?_)
        refine q_no F rfl rfl (fun a F => ?_)
        refine q_no F rfl rfl (fun a F => ?_)
        refine q_no F rfl rfl (fun a F => ?_)
        refine q_no F rfl rfl (fun a F => ?_)
        refine q_no F rfl rfl (fun a F => ?_)
        refine q_no F rfl rfl (fun a F => ?_)
        refine q_no F rfl rfl (fun a F => ?_)
        refine q_no F rfl rfl (fun a F => ?_)
        refine q_val F rfl (fun w l => r_pickt F rfl rfl) (fun a F => ?_)
        refine q_val F rfl (fun w l => r_move F rfl) (fun a F => ?_)
        refine q_no F rfl rfl (fun a F => ?_)
        refine q_no F rfl rfl (fun a F => ?_)
        refine q_no F rfl rfl (fun a F => ?_)
        refine q_no F rfl rfl (fun a F => ?_)
        refine q_no F rfl rfl (fun a F => ?_)
        refine q_no F rfl rfl (fun a F => ?_)
        refine q_no F rfl rfl (fun a F => ?_)
        refine q_no F rfl rfl (fun a F => ?_)
        refine q_no F rfl rfl (fun a F => ?_)
        refine q_no F rfl rfl (fun a F => ?_)
        refine q_val F rfl (fun w l => r_pickt F rfl rfl) (fun a F => ?_)
        refine q_end (fun w l => ?_)
        replace hB := Below.through l hB
        refine x_tn ?_
        exact ⟨true, (Option.some.inj hR).symm, F.sub (sc rfl (sc rfl (sc rfl (sc rfl sn)))), hB⟩
       ·
        replace hR := ifF hb350 hR
        have F := F.eq (t := 53) rfl (congrArg Value.bool hb350)
        refine q_val F rfl (fun w l => r_move F rfl) (fun a F => ?_)
        refine q_val F rfl (fun w l => r_nilCheckP F rfl h258) (fun a F => ?_)
        refine q_field (s' := 1) fa194_1 F rfl rfl h258 RCon.f1 (fun a p351 b352 h353 s354 F => ?_)
        refine q_loadS (fun _ l => l) Tryz.isAgg46 F rfl rfl h353 (fun a v355 b356 h357 s358 F => ?_)
        refine q_val F rfl (fun w l => r_len Tryz.underlying46 F rfl (h357).r w) (fun a F => ?_)
        have i359 := (h357).r.len64
        refine q_val F rfl (fun w l => r_move F rfl) (fun a F => ?_)
        refine q_val F rfl (fun w l => r_nilCheckP F rfl (A0.go hB)) (fun a F => ?_)
        refine q_field (s' := 1) fa33_1 F rfl rfl (A0.go hB) RTemplate.f1 (fun a p360 b361 h362 s363 F => ?_)
        refine q_loadS (fun _ l => l) Tryz.isAgg31 F rfl rfl h362 (fun a v364 b365 h366 s367 F => ?_)
        refine q_val F rfl (fun w l => r_move F rfl) (fun a F => ?_)
        refine q_val F rfl (fun w l => r_nilCheckP F rfl h258) (fun a F => ?_)
        refine q_field (s' := 1) fa194_0 F rfl rfl h258 RCon.f0 (fun a p368 b369 h370 s371 F => ?_)
        have i372 := (h370).i64
        refine q_val F rfl (fun w l => r_loadI Tryz.isAgg2 F rfl ((h370).go l)) (fun a F => ?_)
        obtain ⟨z373, c374, hR⟩ := bnd_some hR
        refine q_index Tryz.underlying31 Tryz.sizeOf142 F rfl rfl rfl h366 c374 (fun a p375 b376 h377 s378 F => ?_)
        refine q_field (s' := 1) fa142_0 F rfl rfl h377 RRel.f0 (fun a p379 b380 h381 s382 F => ?_)
        have i383 := (h381).i64
        refine q_val F rfl (fun w l => r_loadI Tryz.isAgg2 F rfl ((h381).go l)) (fun a F => ?_)
        refine q_val F rfl (fun w l => r_neq F rfl rfl) (fun a F => ?_)
        refine q_val F rfl (fun w l => r_pickf F rfl rfl) (fun a F => ?_)
        refine q_val F rfl (fun w l => r_move F rfl) (fun a F => ?_)
        rcases bcases ((x235.scope.length : Int) != z373.arity) with hb384 | hb384
        ·
         replace hR := ifT hb384 hR
         have F := F.eq (t := 72) rfl (congrArg Value.bool hb384)
         refine q_no F rfl rfl (fun a F => ?_)
         refine q_no F rfl rfl (fun a F => ?_)
         refine q_no F rfl rfl (fun a F => ?_)
         refine q_no F rfl rfl (fun a F => ?_)
         refine q_no F rfl rfl (fun a F => ?_)
         refine q_no F rfl rfl (fun a F => ?_)
         refine q_no F rfl rfl (fun a F => ?_)
         refine q_no F rfl rfl (fun a F => ?_)
         refine q_no F rfl rfl (fun a F => ?_)
         refine q_no F rfl rfl (fun a F => ?_)
         refine q_val F rfl (fun w l => r_pickt F rfl rfl) (fun a F => ?_)
         refine q_end (fun w l => ?_)
         replace hB := Below.through l hB
         refine x_tn ?_
         exact ⟨true, (Option.some.inj hR).symm, F.sub (sc rfl (sc rfl (sc rfl (sc rfl sn)))), hB⟩
        ·
         replace hR := ifF hb384 hR
         have F := F.eq (t := 72) rfl (congrArg Value.bool hb384)
         refine q_val F rfl (fun w l => r_move F rfl) (fun a F => ?_)
         refine q_val F rfl (fun w l => r_nilCheckP F rfl h258) (fun a F => ?_)
         refine q_field (s' := 1) fa194_1 F rfl rfl h258 RCon.f1 (fun a p385 b386 h387 s388 F => ?_)
         refine q_loadS (fun _ l => l) Tryz.isAgg46 F rfl rfl h387 (fun a v389 b390 h391 s392 F => ?_)
         refine q_val F rfl (fun w l => r_move F rfl) (fun a F => ?_)
         refine q_val F rfl (fun w l => r_nilCheckP F rfl (A1.go hB)) (fun a F => ?_)
         refine q_field (s' := 1) fa51_0 F rfl rfl (A1.go hB) RInstance.f0 (fun a p393 b394 h395 s396 F => ?_)
         have i397 := (h395).i64
         refine q_val F rfl (fun w l => r_loadI Tryz.isAgg2 F rfl ((h395).go l)) (fun a F => ?_)
         obtain ⟨z398, c399, hR⟩ := bnd_some hR
         refine q_says F rfl Tryz.call181 rfl (fun w w' h l => l.through h) (fun w l => spec_l01Places_c z398 c399 w (h391.go l) i397) (fun a F => ?_)
         refine q_val F rfl (fun w l => r_not F rfl) (fun a F => ?_)
         refine q_val F rfl (fun w l => r_pickf F rfl rfl) (fun a F => ?_)
         refine q_end (fun w l => ?_)
         replace hB := Below.through l hB
         refine x_tn ?_
         exact ⟨(!z398), (Option.some.inj hR).symm, F.sub (sc rfl (sc rfl (sc rfl (sc rfl sn)))), hB⟩
      ·
       intro a w ⟨s331, ho330, F, hB⟩
       subst ho330
       have hR := then_nx hk329
       refine x_tn ?_
       refine x_if F rfl (fun hb400 => ?_) (fun hb400 => ?_)
       ·
        replace hR := ifT hb400 hR
        refine x_seq ?_
        refine x_reg ?_
        refine o_assign F rfl rfl (fun a F => ?_)
        refine x_end ?_
        refine x_tn ?_
        refine x_ret ?_
        refine x_br ?_
        refine x_tr ?_
        refine x_tr ?_
        replace hR := l_ret hR hn230
        refine x_br ?_
        refine x_tr ?_
        replace hR := j_ret hR hk228
        refine x_tr ?_
        refine x_res1 F rfl (rv_t F rfl) ?_
        obtain rfl := Option.some.inj hR
        exact ⟨rfl, hB⟩
       ·
        replace hR := ifF hb400 hR
        refine x_skip ?_
        refine x_bn ?_
        refine x_tn ?_
        refine x_reg ?_
        refine o_move F rfl rfl (fun a F => ?_)
        refine o_inc F rfl rfl rfl ink233 (fun a F => ?_)
        refine o_assign F rfl rfl (fun a F => ?_)
        refine x_end ?_
        refine x_tn ?_
        replace hR := l_go hR hn230
        exact ⟨_, Nat.lt_succ_self _, k233 + 1, rest234, ⟨hd237.1, hd237.2.2⟩, rfl, hR, F.sub (sc rfl (sc rfl (sc rfl sn))), hB⟩
   ·
    intro a w ⟨ho229, F, hB⟩
    subst ho229
    have hR := then_nx hk228
    refine x_tn ?_
    refine x_seq ?_
    refine x_reg ?_
    refine o_assign F rfl rfl (fun a F => ?_)
    refine x_end ?_
    refine x_tn ?_
    refine x_ret ?_
    refine x_res1 F rfl (rv_t F rfl) ?_
    obtain rfl := Option.some.inj hR
    exact ⟨rfl, hB⟩

def spec_l08Budget (x0 : Template) (x1 : Instance) (x2 : Int) : Option Int :=
 bnd (spec_l05Ok x0 x1) fun z11 =>
 if (!z11) then
  some 1
 else
  bnd (spec_l00In x2 0 5000) fun z14 =>
  if (!z14) then
   some 2
  else
   some 0
set_option maxHeartbeats 1000000 in
theorem spec_l08Budget_c {x0 : Template} {x1 : Instance} {x2 : Int} (r : Int) (hR : spec_l08Budget x0 x1 x2 = some r) {v0 : Value} {b0 : List Nat} {v1 : Value} {b1 : List Nat} (w0 : World) (A0 : Rd (Pt 2 RTemplate) w0 v0 x0 b0) (A1 : Rd (Pt 2 RInstance) w0 v1 x1 b1) (hx2 : I64 x2) : Calls Tryz.prog 82 #[v0, v1, .int .i64 x2] w0 (SaysI r w0) := by
 unfold spec_l08Budget at hR
 refine x_enter (L := [(0, v0), (1, v1), (2, .int .i64 x2)]) Tryz.func82 rfl rfl rfl (sc rfl (sc rfl (sc rfl sn))) (fun a F => ?_)
 have hB := Below.refl w0.heap.size w0
 refine x_seq ?_
 refine x_reg ?_
 refine o_assign F rfl rfl (fun a F => ?_)
 refine x_end ?_
 refine x_tn ?_
 refine x_seq ?_
 refine x_seq ?_
 refine x_reg ?_
 refine o_move F rfl rfl (fun a F => ?_)
 refine o_move F rfl rfl (fun a F => ?_)
 obtain ⟨z11, c12, hR⟩ := bnd_some hR
 refine o_says F rfl Tryz.call123 rfl (spec_l05Ok_c z11 c12 _ (A0.go hB) (A1.go hB)) (fun a w l F => ?_)
 replace hB := Below.through l hB
 refine o_not F rfl rfl (fun a F => ?_)
 refine x_end ?_
 refine x_tn ?_
 refine x_if F rfl (fun hb13 => ?_) (fun hb13 => ?_)
 ·
  replace hR := ifT hb13 hR
  refine x_seq ?_
  refine x_reg ?_
  refine o_assign F rfl rfl (fun a F => ?_)
  refine x_end ?_
  refine x_tn ?_
  refine x_ret ?_
  refine x_tr ?_
  refine x_res1 F rfl (rv_t F rfl) ?_
  obtain rfl := Option.some.inj hR
  exact ⟨⟨rfl, hB⟩, (show I64 (1) by decide)⟩
 ·
  replace hR := ifF hb13 hR
  refine x_skip ?_
  refine x_tn ?_
  refine x_seq ?_
  refine x_seq ?_
  refine x_reg ?_
  refine o_move F rfl rfl (fun a F => ?_)
  obtain ⟨z14, c15, hR⟩ := bnd_some hR
  refine o_says F rfl Tryz.call152 rfl (spec_l00In_c z14 c15 _ hx2 (show I64 (0) by decide) (show I64 (5000) by decide)) (fun a w l F => ?_)
  replace hB := Below.through l hB
  refine o_not F rfl rfl (fun a F => ?_)
  refine x_end ?_
  refine x_tn ?_
  refine x_if F rfl (fun hb16 => ?_) (fun hb16 => ?_)
  ·
   replace hR := ifT hb16 hR
   refine x_seq ?_
   refine x_reg ?_
   refine o_assign F rfl rfl (fun a F => ?_)
   refine x_end ?_
   refine x_tn ?_
   refine x_ret ?_
   refine x_tr ?_
   refine x_res1 F rfl (rv_t F rfl) ?_
   obtain rfl := Option.some.inj hR
   exact ⟨⟨rfl, hB⟩, (show I64 (2) by decide)⟩
  ·
   replace hR := ifF hb16 hR
   refine x_skip ?_
   refine x_tn ?_
   refine x_seq ?_
   refine x_reg ?_
   refine o_assign F rfl rfl (fun a F => ?_)
   refine x_end ?_
   refine x_tn ?_
   refine x_ret ?_
   refine x_res1 F rfl (rv_t F rfl) ?_
   obtain rfl := Option.some.inj hR
   exact ⟨⟨rfl, hB⟩, (show I64 (0) by decide)⟩

def spec_l05Full (x0 : Template) (x1 : Instance) : Option (List (List Int)) :=
 thn (σ := (List (List Int))) (
  forI (σ := (List (List Int))) (ρ := (List (List Int))) (fun (k122 : Nat) (s108 : (List (List Int))) =>
   bnd (spec_l03Count x0.size) fun z138 =>
   bnd (ap s108 ([z138])) fun z157 =>
   some (.go z157)) x1.vars.toNat 0 []) fun s115 =>
 some s115
set_option maxHeartbeats 1000000 in
theorem spec_l05Full_c {x0 : Template} {x1 : Instance} (r : (List (List Int))) (hR : spec_l05Full x0 x1 = some r) {v0 : Value} {b0 : List Nat} {v1 : Value} {b1 : List Nat} (w0 : World) (A0 : Rd (Pt 2 RTemplate) w0 v0 x0 b0) (A1 : Rd (Pt 2 RInstance) w0 v1 x1 b1) : Calls Tryz.prog 84 #[v0, v1] w0 (Gives (fun v w' => ∃ (v1' : Value) (rb2' : List Nat) (ib3' : List Nat), v = v1' ∧ Row 1 (RSl 1 RInt) 46 w0.heap.size w' v1' r rb2' ib3' ∧ Own w0.heap.size ib3' w') w0) := by
 unfold spec_l05Full at hR
 refine x_enter (L := [(0, v0), (1, v1)]) Tryz.func84 rfl rfl rfl (sc rfl (sc rfl sn)) (fun a F => ?_)
 have hB := Below.refl w0.heap.size w0
 refine x_seq ?_
 refine x_reg ?_
 refine o_assign F rfl rfl (fun a F => ?_)
 refine x_end ?_
 refine x_tn ?_
 refine x_seq ?_
 refine x_reg ?_
 refine o_lit0 (R := (RSl 1 RInt)) Tryz.underlying72 Tryz.sizeOf46 F rfl (fun a w v11 rb12 h13 l F => ?_)
 replace h13 := h13.base hB.size
 replace hB := Below.through l hB
 refine o_assign F rfl rfl (fun a F => ?_)
 refine x_end ?_
 refine x_tn ?_
 refine x_seq ?_
 refine x_seq ?_
 refine x_reg ?_
 refine o_assign F rfl rfl (fun a F => ?_)
 refine x_end ?_
 refine x_tn ?_
 obtain ⟨o102, hR, hk103⟩ := thn_some hR
 refine x_cutQ (fun a w => ∃ (s115 : List (List Int)) (v118 : Value) (rb119 : List Nat) (ib120 : List Nat), o102 = .nx s115 ∧ Sk a 25 [(5, v118)] ∧ Below w0.heap.size w0 w ∧ Row 1 (RSl 1 RInt) 46 w0.heap.size w v118 s115 rb119 ib120 ∧ Own w0.heap.size ib120 w) ?_ ?_
 ·
  refine x_blk ?_
  obtain ⟨fl106, hf107, hR⟩ := forI_gen hR
  refine x_loop (fun g a w => ∃ (k122 : Nat) (s108 : List (List Int)) (v111 : Value) (rb112 : List Nat) (ib113 : List Nat), k122 + g = x1.vars.toNat ∧ forI fl106 g k122 s108 = some o102 ∧ Sk a 25 [(6, .int .i64 (k122 : Int)), (0, v0), (1, v1), (5, v111)] ∧ Below w0.heap.size w0 w ∧ Row 1 (RSl 1 RInt) 46 w0.heap.size w v111 s108 rb112 ib113 ∧ Own w0.heap.size ib113 w) x1.vars.toNat ?_ ?_
  ·
   exact ⟨0, [], v11, rb12, [], (Nat.zero_add _), hR, F.sub (sc rfl (sc rfl (sc rfl (sc rfl sn)))), hB, h13, (Own.nil _ _)⟩
  ·
   intro g125 a w ⟨k122, s108, v111, rb112, ib113, hd126, hR, F, hB, h110, ow114⟩
   cases g125 with
   | zero =>
    replace hR := forI_zero hR
    have hlk122 := dec_noI hd126
    refine x_seq ?_
    refine x_seq ?_
    refine x_reg ?_
    refine o_move F rfl rfl (fun a F => ?_)
    refine o_move F rfl rfl (fun a F => ?_)
    refine o_nilCheckP F rfl rfl (A1.go hB) (fun a F => ?_)
    refine o_field (s' := 1) fa51_0 F rfl rfl (A1.go hB) RInstance.f0 (fun a p164 b165 h166 s167 F => ?_)
    have i168 := (h166).i64
    refine o_loadI Tryz.isAgg2 F rfl rfl h166 (fun a F => ?_)
    refine o_lss F rfl rfl rfl (fun a F => ?_)
    refine x_end ?_
    refine x_tn ?_
    refine x_ifF F rfl hlk122 ?_
    refine x_exit ?_
    refine x_te ?_
    refine x_te ?_
    refine x_be ?_
    refine x_tn ?_
    exact ⟨s108, v111, rb112, ib113, (Option.some.inj hR).symm, F.sub (sc rfl sn), hB, h110, ow114⟩
   | succ g125 =>
    obtain ⟨ck122, hR, hn105⟩ := forI_succ hR
    rw [hf107] at hR
    have hlk122 := dec_yesI hd126
    refine x_seq ?_
    refine x_seq ?_
    refine x_reg ?_
    refine o_move F rfl rfl (fun a F => ?_)
    refine o_move F rfl rfl (fun a F => ?_)
    refine o_nilCheckP F rfl rfl (A1.go hB) (fun a F => ?_)
    refine o_field (s' := 1) fa51_0 F rfl rfl (A1.go hB) RInstance.f0 (fun a p128 b129 h130 s131 F => ?_)
    have i132 := (h130).i64
    refine o_loadI Tryz.isAgg2 F rfl rfl h130 (fun a F => ?_)
    refine o_lss F rfl rfl rfl (fun a F => ?_)
    refine x_end ?_
    refine x_tn ?_
    refine x_ifT F rfl hlk122 ?_
    refine x_skip ?_
    refine x_tn ?_
    refine x_seq ?_
    have ikk122 := k64I hd126 i132
    have ink122 := inc64I hd126 i132
    refine x_blk ?_
    refine x_reg ?_
    refine o_move F rfl rfl (fun a F => ?_)
    refine o_move F rfl rfl (fun a F => ?_)
    refine o_nilCheckP F rfl rfl (A0.go hB) (fun a F => ?_)
    refine o_field (s' := 1) fa33_0 F rfl rfl (A0.go hB) RTemplate.f0 (fun a p133 b134 h135 s136 F => ?_)
    have i137 := (h135).i64
    refine o_loadI Tryz.isAgg2 F rfl rfl h135 (fun a F => ?_)
    obtain ⟨z138, c139, hR⟩ := bnd_some hR
    refine o_gives F rfl Tryz.call111 rfl (spec_l03Count_c z138 c139 _ i137) (fun a vv w l ⟨v140, rb141, hv144, h143⟩ F => ?_)
    subst vv
    have d146 := Dj.new h110.rd.m h143.ownR (Nat.le_refl _)
    have d147 := Dj.app' (Dj.new h110.memR h143.ownR (Nat.le_refl _)).symm (Dj.nil' _)
    have d148 := Dj.app' (Dj.new h110.mem h143.ownR (Nat.le_refl _)).symm (Dj.nil' _)
    replace h143 := h143.base hB.size
    replace hB := Below.through l hB
    replace h110 := h110.go l
    replace ow114 := ow114.go l
    refine o_lit1 (R := (RSl 1 RInt)) (y := z138) Tryz.underlying72 Tryz.sizeOf46 Tryz.zeroValue46 rfl (by decide) (by decide) F rfl rfl (El.sl h143.rd) (fun a w v149 rb150 h151 l F => ?_)
    have ow152 := Own.go (h143.own (Own.nil _ _)) l
    have d154 := Dj.new h110.rd.m h151.ownR (Nat.le_refl _)
    have d155 := Dj.app' (Dj.new h110.memR h151.ownR (Nat.le_refl _)).symm d147
    have d156 := Dj.app' (Dj.new h110.mem h151.ownR (Nat.le_refl _)).symm d148
    replace h151 := h151.base hB.size
    replace hB := Below.through l hB
    replace h110 := h110.go l
    replace ow114 := ow114.go l
    obtain ⟨z157, c158, hR⟩ := bnd_some hR
    refine o_append (sz := 1) (R := (RSl 1 RInt)) (z := ((.slice none 0 0))) (bytes := 24) Tryz.underlying72 (by kernel_rfl) rfl (by decide) (by decide) (by decide) F rfl rfl rfl h110 h151.src hB.size (Dj.symm d155.r) c158 (fun a w v159 rb160 h161 l keep F => ?_)
    have ow162 := Own.append (Own.goO ow114 l h110.dj.symm) (Own.goO ow152 l (Dj.symm (Dj.symm d155.r))) (Dj.symm d156.r)
    replace hB := hB.o l h110.lo hB.size
    refine o_assign F rfl rfl (fun a F => ?_)
    refine x_end ?_
    refine x_bn ?_
    refine x_tn ?_
    refine x_reg ?_
    refine o_move F rfl rfl (fun a F => ?_)
    refine o_inc F rfl rfl rfl ink122 (fun a F => ?_)
    refine o_assign F rfl rfl (fun a F => ?_)
    refine x_end ?_
    refine x_tn ?_
    replace hR := l_go hR hn105
    exact ⟨_, Nat.lt_succ_self _, k122 + 1, z157, v159, rb160, (ib113 ++ (rb141 ++ [])), (by omega), hR, F.sub (sc rfl (sc rfl (sc rfl (sc rfl sn)))), hB, h161, ow162⟩
 ·
  intro a w ⟨s115, v118, rb119, ib120, ho104, F, hB, h117, ow121⟩
  subst ho104
  have hR := then_nx hk103
  refine x_tn ?_
  refine x_seq ?_
  refine x_reg ?_
  refine o_move F rfl rfl (fun a F => ?_)
  refine o_assign F rfl rfl (fun a F => ?_)
  refine x_end ?_
  refine x_tn ?_
  refine x_ret ?_
  refine x_res1 F rfl (rv_t F rfl) ?_
  obtain rfl := Option.some.inj hR
  exact ⟨_, rfl, hB, v118, rb119, ib120, rfl, h117, ow121⟩

def spec_l05Whole (x0 : Con) (x1 : List Int) : Option Bool :=
 thn (σ := Unit) (
  forL (σ := Unit) (ρ := Bool) (fun (k205 : Nat) (x207 : Int) (s : Unit) =>
    match s with
    | _ =>
    thn (σ := Unit) (
     forI (σ := Unit) (ρ := (Ctl (Unit) Bool)) (fun (k309 : Nat) (s : Unit) =>
       match s with
       | _ =>
       thn (σ := Bool) (
        bnd (ix x0.scope (k205 : Int)) fun z370 =>
        bnd (ix x0.scope (k309 : Int)) fun z385 =>
        if (z370 == z385) then  bnd (ix x1 (k309 : Int)) fun z398 =>
         some (.nx (x207 != z398)) else  some (.nx false)) fun s361 =>
       if s361 then
        some (.ret (.ret false))
       else
        some (.go ())) (k205 : Int).toNat 0 ()) fun _ =>
    some (.go ())) x1 0 ()) fun _ =>
 some true
set_option maxHeartbeats 1000000 in
theorem spec_l05Whole_c {x0 : Con} {x1 : List Int} (r : Bool) (hR : spec_l05Whole x0 x1 = some r) {v0 : Value} {b0 : List Nat} {v1 : Value} {b1 : List Nat} (w0 : World) (A0 : Rd (Pt 2 RCon) w0 v0 x0 b0) (A1 : Rd (Sl 1 RInt) w0 v1 x1 b1) : Calls Tryz.prog 267 #[v0, v1] w0 (Says (.bool r) w0) := by
 unfold spec_l05Whole at hR
 refine x_enter (L := [(0, v0), (1, v1)]) Tryz.func267 rfl rfl rfl (sc rfl (sc rfl sn)) (fun a F => ?_)
 have hB := Below.refl w0.heap.size w0
 refine x_seq ?_
 refine x_reg ?_
 refine o_assign F rfl rfl (fun a F => ?_)
 refine x_end ?_
 refine x_tn ?_
 refine x_seq ?_
 refine x_seq ?_
 refine x_reg ?_
 refine o_assign F rfl rfl (fun a F => ?_)
 refine x_end ?_
 refine x_tn ?_
 obtain ⟨o199, hR, hk200⟩ := thn_some hR
 refine x_cutQ (fun a w => o199 = .nx () ∧ Sk a 44 [] ∧ Below w0.heap.size w0 w) ?_ ?_
 ·
  refine x_blk ?_
  obtain ⟨fl203, hf204, hR⟩ := forL_gen hR
  refine x_loop (fun g a w => ∃ (k205 : Nat) (rest206 : List Int), (k205 ≤ x1.length ∧ x1.drop k205 = rest206) ∧ rest206.length = g ∧ forL fl203 rest206 k205 () = some o199 ∧ Sk a 44 [(5, .int .i64 (k205 : Int)), (0, v0), (1, v1)] ∧ Below w0.heap.size w0 w) x1.length ?_ ?_
  ·
   exact ⟨0, x1, ⟨Nat.zero_le _, rfl⟩, rfl, hR, F.sub (sc rfl (sc rfl (sc rfl sn))), hB⟩
  ·
   intro g208 a w ⟨k205, rest206, hd209, hg210, hR, F, hB⟩
   cases rest206 with
   | nil =>
    replace hR := forL_nil hR
    have hkk205 := drop_nil hd209.1 hd209.2
    have hlk205 := dec_no hkk205
    refine x_seq ?_
    refine x_seq ?_
    refine x_reg ?_
    refine o_move F rfl rfl (fun a F => ?_)
    refine o_move F rfl rfl (fun a F => ?_)
    refine o_len Tryz.underlying46 F rfl rfl (A1.go hB) (fun a F => ?_)
    have i406 := ((A1.go hB)).r.len64
    refine o_lss F rfl rfl rfl (fun a F => ?_)
    refine x_end ?_
    refine x_tn ?_
    refine x_ifF F rfl hlk205 ?_
    refine x_exit ?_
    refine x_te ?_
    refine x_te ?_
    refine x_be ?_
    refine x_tn ?_
    exact ⟨(Option.some.inj hR).symm, F.sub sn, hB⟩
   | cons x207 rest206 =>
    subst hg210
    replace hd209 := drop_cons hd209.2
    have hxk205 := ix_nat hd209.2.1
    obtain ⟨ck205, hR, hn202⟩ := forL_cons hR
    rw [hf204] at hR
    have hlk205 := dec_yes hd209.1
    refine x_seq ?_
    refine x_seq ?_
    refine x_reg ?_
    refine o_move F rfl rfl (fun a F => ?_)
    refine o_move F rfl rfl (fun a F => ?_)
    refine o_len Tryz.underlying46 F rfl rfl (A1.go hB) (fun a F => ?_)
    have i211 := ((A1.go hB)).r.len64
    refine o_lss F rfl rfl rfl (fun a F => ?_)
    refine x_end ?_
    refine x_tn ?_
    refine x_ifT F rfl hlk205 ?_
    refine x_skip ?_
    refine x_tn ?_
    refine x_seq ?_
    have ikk205 := k64 (Nat.le_of_lt hd209.1) i211
    have ink205 := inc64 hd209.1 i211
    refine x_blk ?_
    refine x_seq ?_
    refine x_reg ?_
    refine o_assign F rfl rfl (fun a F => ?_)
    refine x_end ?_
    refine x_tn ?_
    obtain ⟨o303, hR, hk304⟩ := thn_some hR
    refine x_cutQ (fun a w => o303 = .nx () ∧ Sk a 44 [(0, v0), (1, v1), (5, .int .i64 (k205 : Int))] ∧ Below w0.heap.size w0 w) ?_ ?_
    ·
     refine x_blk ?_
     obtain ⟨fl307, hf308, hR⟩ := forI_gen hR
     refine x_loop (fun g a w => ∃ (k309 : Nat), k309 + g = (k205 : Int).toNat ∧ forI fl307 g k309 () = some o303 ∧ Sk a 44 [(6, .int .i64 (k309 : Int)), (0, v0), (1, v1), (5, .int .i64 (k205 : Int))] ∧ Below w0.heap.size w0 w) (k205 : Int).toNat ?_ ?_
     ·
      exact ⟨0, (Nat.zero_add _), hR, F.sub (sc rfl (sc rfl (sc rfl (sc rfl sn)))), hB⟩
     ·
      intro g312 a w ⟨k309, hd313, hR, F, hB⟩
      cases g312 with
      | zero =>
       replace hR := forI_zero hR
       have hlk309 := dec_noI hd313
       refine x_seq ?_
       refine x_seq ?_
       refine x_reg ?_
       refine o_move F rfl rfl (fun a F => ?_)
       refine o_move F rfl rfl (fun a F => ?_)
       refine o_lss F rfl rfl rfl (fun a F => ?_)
       refine x_end ?_
       refine x_tn ?_
       refine x_ifF F rfl hlk309 ?_
       refine x_exit ?_
       refine x_te ?_
       refine x_te ?_
       refine x_be ?_
       refine x_tn ?_
       exact ⟨(Option.some.inj hR).symm, F.sub (sc rfl (sc rfl (sc rfl sn))), hB⟩
      | succ g312 =>
       obtain ⟨ck309, hR, hn306⟩ := forI_succ hR
       rw [hf308] at hR
       have hlk309 := dec_yesI hd313
       refine x_seq ?_
       refine x_seq ?_
       refine x_reg ?_
       refine o_move F rfl rfl (fun a F => ?_)
       refine o_move F rfl rfl (fun a F => ?_)
       refine o_lss F rfl rfl rfl (fun a F => ?_)
       refine x_end ?_
       refine x_tn ?_
       refine x_ifT F rfl hlk309 ?_
       refine x_skip ?_
       refine x_tn ?_
       refine x_seq ?_
       have ikk309 := k64I hd313 ikk205
       have ink309 := inc64I hd313 ikk205
       refine x_blk ?_
       refine x_seq ?_
       obtain ⟨o358, hR, hk359⟩ := thn_some hR
       refine x_cutQ (fun a w => ∃ (s361 : Bool), o358 = .nx s361 ∧ Sk a 44 [(0, v0), (1, v1), (5, .int .i64 (k205 : Int)), (6, .int .i64 (k309 : Int)), (43, .bool s361)] ∧ Below w0.heap.size w0 w) ?_ ?_
       ·
        refine x_draw (by kernel_rfl) (by kernel_rfl) ?_
        refine q_val F rfl (fun w l => r_move F rfl) (fun a F => ?_)
        refine q_val F rfl (fun w l => r_nilCheckP F rfl (A0.go hB)) (fun a F => ?_)
        refine q_field (s' := 1) fa194_1 F rfl rfl (A0.go hB) RCon.f1 (fun a p362 b363 h364 s365 F => ?_)
        refine q_loadS (fun _ l => l) Tryz.isAgg46 F rfl rfl h364 (fun a v366 b367 h368 s369 F => ?_)
        refine q_val F rfl (fun w l => r_move F rfl) (fun a F => ?_)
        obtain ⟨z370, c371, hR⟩ := bnd_some hR
        refine q_index Tryz.underlying46 Tryz.sizeOf2 F rfl rfl rfl h368 c371 (fun a p372 b373 h374 s375 F => ?_)
        have i376 := (h374).i64
        refine q_val F rfl (fun w l => r_loadI Tryz.isAgg2 F rfl ((h374).go l)) (fun a F => ?_)
        refine q_val F rfl (fun w l => r_move F rfl) (fun a F => ?_)
        refine q_val F rfl (fun w l => r_nilCheckP F rfl (A0.go hB)) (fun a F => ?_)
        refine q_field (s' := 1) fa194_1 F rfl rfl (A0.go hB) RCon.f1 (fun a p377 b378 h379 s380 F => ?_)
        refine q_loadS (fun _ l => l) Tryz.isAgg46 F rfl rfl h379 (fun a v381 b382 h383 s384 F => ?_)
        refine q_val F rfl (fun w l => r_move F rfl) (fun a F => ?_)
        obtain ⟨z385, c386, hR⟩ := bnd_some hR
        refine q_index Tryz.underlying46 Tryz.sizeOf2 F rfl rfl rfl h383 c386 (fun a p387 b388 h389 s390 F => ?_)
        have i391 := (h389).i64
        refine q_val F rfl (fun w l => r_loadI Tryz.isAgg2 F rfl ((h389).go l)) (fun a F => ?_)
        refine q_val F rfl (fun w l => r_eql F rfl rfl) (fun a F => ?_)
        refine q_val F rfl (fun w l => r_move F rfl) (fun a F => ?_)
        rcases bcases (z370 == z385) with hb392 | hb392
        ·
         replace hR := ifT hb392 hR
         have F := F.eq (t := 33) rfl (congrArg Value.bool hb392)
         refine q_val F rfl (fun w l => r_move F rfl) (fun a F => ?_)
         refine q_val F rfl (fun w l => r_move F rfl) (fun a F => ?_)
         refine q_index Tryz.underlying46 Tryz.sizeOf2 F rfl rfl rfl (A1.go hB) hxk205 (fun a p393 b394 h395 s396 F => ?_)
         have i397 := (h395).i64
         refine q_val F rfl (fun w l => r_loadI Tryz.isAgg2 F rfl ((h395).go l)) (fun a F => ?_)
         refine q_val F rfl (fun w l => r_move F rfl) (fun a F => ?_)
         refine q_val F rfl (fun w l => r_move F rfl) (fun a F => ?_)
         obtain ⟨z398, c399, hR⟩ := bnd_some hR
         refine q_index Tryz.underlying46 Tryz.sizeOf2 F rfl rfl rfl (A1.go hB) c399 (fun a p400 b401 h402 s403 F => ?_)
         have i404 := (h402).i64
         refine q_val F rfl (fun w l => r_loadI Tryz.isAgg2 F rfl ((h402).go l)) (fun a F => ?_)
         refine q_val F rfl (fun w l => r_neq F rfl rfl) (fun a F => ?_)
         refine q_val F rfl (fun w l => r_pickt F rfl rfl) (fun a F => ?_)
         refine q_end (fun w l => ?_)
         replace hB := Below.through l hB
         refine x_tn ?_
         exact ⟨(x207 != z398), (Option.some.inj hR).symm, F.sub (sc rfl (sc rfl (sc rfl (sc rfl (sc rfl sn))))), hB⟩
        ·
         replace hR := ifF hb392 hR
         have F := F.eq (t := 33) rfl (congrArg Value.bool hb392)
         refine q_no F rfl rfl (fun a F => ?_)
         refine q_no F rfl rfl (fun a F => ?_)
         refine q_no F rfl rfl (fun a F => ?_)
         refine q_no F rfl rfl (fun a F => ?_)
         refine q_no F rfl rfl (fun a F => ?_)
         refine q_no F rfl rfl (fun a F => ?_)
         refine q_no F rfl rfl (fun a F => ?_)
         refine q_no F rfl rfl (fun a F => ?_)
         refine q_no F rfl rfl (fun a F => ?_)
         refine q_val F rfl (fun w l => r_pickf F rfl rfl) (fun a F => ?_)
         refine q_end (fun w l => ?_)
         replace hB := Below.through l hB
         refine x_tn ?_
         exact ⟨false, (Option.some.inj hR).symm, F.sub (sc rfl (sc rfl (sc rfl (sc rfl (sc rfl sn))))), hB⟩
       ·
        intro a w ⟨s361, ho360, F, hB⟩
        subst ho360
        have hR := then_nx hk359
        refine x_tn ?_
        refine x_if F rfl (fun hb405 => ?_) (fun hb405 => ?_)
        ·
         replace hR := ifT hb405 hR
         refine x_seq ?_
         refine x_reg ?_
         refine o_assign F rfl rfl (fun a F => ?_)
         refine x_end ?_
         refine x_tn ?_
         refine x_ret ?_
         refine x_br ?_
         refine x_tr ?_
         refine x_tr ?_
         replace hR := l_ret hR hn306
         refine x_br ?_
         refine x_tr ?_
         replace hR := j_ret hR hk304
         refine x_br ?_
         refine x_tr ?_
         refine x_tr ?_
         replace hR := l_ret hR hn202
         refine x_br ?_
         refine x_tr ?_
         replace hR := j_ret hR hk200
         refine x_tr ?_
         refine x_res1 F rfl (rv_t F rfl) ?_
         obtain rfl := Option.some.inj hR
         exact ⟨rfl, hB⟩
        ·
         replace hR := ifF hb405 hR
         refine x_skip ?_
         refine x_bn ?_
         refine x_tn ?_
         refine x_reg ?_
         refine o_move F rfl rfl (fun a F => ?_)
         refine o_inc F rfl rfl rfl ink309 (fun a F => ?_)
         refine o_assign F rfl rfl (fun a F => ?_)
         refine x_end ?_
         refine x_tn ?_
         replace hR := l_go hR hn306
         exact ⟨_, Nat.lt_succ_self _, k309 + 1, (by omega), hR, F.sub (sc rfl (sc rfl (sc rfl (sc rfl sn)))), hB⟩
    ·
     intro a w ⟨ho305, F, hB⟩
     subst ho305
     have hR := then_nx hk304
     refine x_bn ?_
     refine x_tn ?_
     refine x_reg ?_
     refine o_move F rfl rfl (fun a F => ?_)
     refine o_inc F rfl rfl rfl ink205 (fun a F => ?_)
     refine o_assign F rfl rfl (fun a F => ?_)
     refine x_end ?_
     refine x_tn ?_
     replace hR := l_go hR hn202
     exact ⟨_, Nat.lt_succ_self _, k205 + 1, rest206, ⟨hd209.1, hd209.2.2⟩, rfl, hR, F.sub (sc rfl (sc rfl (sc rfl sn))), hB⟩
 ·
  intro a w ⟨ho201, F, hB⟩
  subst ho201
  have hR := then_nx hk200
  refine x_tn ?_
  refine x_seq ?_
  refine x_reg ?_
  refine o_assign F rfl rfl (fun a F => ?_)
  refine x_end ?_
  refine x_tn ?_
  refine x_ret ?_
  refine x_res1 F rfl (rv_t F rfl) ?_
  obtain rfl := Option.some.inj hR
  exact ⟨rfl, hB⟩

def spec_l00Has (x0 : List Int) (x1 : Int) : Option Bool :=
 thn (σ := Unit) (
  forL (σ := Unit) (ρ := Bool) (fun (k25 : Nat) (x27 : Int) (s : Unit) =>
    match s with
    | _ =>
    if (x27 == x1) then
     some (.ret true)
    else
     some (.go ())) x0 0 ()) fun _ =>
 some false
set_option maxHeartbeats 1000000 in
theorem spec_l00Has_c {x0 : List Int} {x1 : Int} (r : Bool) (hR : spec_l00Has x0 x1 = some r) {v0 : Value} {b0 : List Nat} (w0 : World) (A0 : Rd (Sl 1 RInt) w0 v0 x0 b0) (hx1 : I64 x1) : Calls Tryz.prog 158 #[v0, .int .i64 x1] w0 (Says (.bool r) w0) := by
 unfold spec_l00Has at hR
 refine x_enter (L := [(0, v0), (1, .int .i64 x1)]) Tryz.func158 rfl rfl rfl (sc rfl (sc rfl sn)) (fun a F => ?_)
 have hB := Below.refl w0.heap.size w0
 refine x_seq ?_
 refine x_reg ?_
 refine o_assign F rfl rfl (fun a F => ?_)
 refine x_end ?_
 refine x_tn ?_
 refine x_seq ?_
 refine x_seq ?_
 refine x_reg ?_
 refine o_assign F rfl rfl (fun a F => ?_)
 refine x_end ?_
 refine x_tn ?_
 obtain ⟨o19, hR, hk20⟩ := thn_some hR
 refine x_cutQ (fun a w => o19 = .nx () ∧ Sk a 18 [] ∧ Below w0.heap.size w0 w) ?_ ?_
 ·
  refine x_blk ?_
  obtain ⟨fl23, hf24, hR⟩ := forL_gen hR
  refine x_loop (fun g a w => ∃ (k25 : Nat) (rest26 : List Int), (k25 ≤ x0.length ∧ x0.drop k25 = rest26) ∧ rest26.length = g ∧ forL fl23 rest26 k25 () = some o19 ∧ Sk a 18 [(5, .int .i64 (k25 : Int)), (0, v0), (1, .int .i64 x1)] ∧ Below w0.heap.size w0 w) x0.length ?_ ?_
  ·
   exact ⟨0, x0, ⟨Nat.zero_le _, rfl⟩, rfl, hR, F.sub (sc rfl (sc rfl (sc rfl sn))), hB⟩
  ·
   intro g28 a w ⟨k25, rest26, hd29, hg30, hR, F, hB⟩
   cases rest26 with
   | nil =>
    replace hR := forL_nil hR
    have hkk25 := drop_nil hd29.1 hd29.2
    have hlk25 := dec_no hkk25
    refine x_seq ?_
    refine x_seq ?_
    refine x_reg ?_
    refine o_move F rfl rfl (fun a F => ?_)
    refine o_move F rfl rfl (fun a F => ?_)
    refine o_len Tryz.underlying46 F rfl rfl (A0.go hB) (fun a F => ?_)
    have i38 := ((A0.go hB)).r.len64
    refine o_lss F rfl rfl rfl (fun a F => ?_)
    refine x_end ?_
    refine x_tn ?_
    refine x_ifF F rfl hlk25 ?_
    refine x_exit ?_
    refine x_te ?_
    refine x_te ?_
    refine x_be ?_
    refine x_tn ?_
    exact ⟨(Option.some.inj hR).symm, F.sub sn, hB⟩
   | cons x27 rest26 =>
    subst hg30
    replace hd29 := drop_cons hd29.2
    have hxk25 := ix_nat hd29.2.1
    obtain ⟨ck25, hR, hn22⟩ := forL_cons hR
    rw [hf24] at hR
    have hlk25 := dec_yes hd29.1
    refine x_seq ?_
    refine x_seq ?_
    refine x_reg ?_
    refine o_move F rfl rfl (fun a F => ?_)
    refine o_move F rfl rfl (fun a F => ?_)
    refine o_len Tryz.underlying46 F rfl rfl (A0.go hB) (fun a F => ?_)
    have i31 := ((A0.go hB)).r.len64
    refine o_lss F rfl rfl rfl (fun a F => ?_)
    refine x_end ?_
    refine x_tn ?_
    refine x_ifT F rfl hlk25 ?_
    refine x_skip ?_
    refine x_tn ?_
    refine x_seq ?_
    have ikk25 := k64 (Nat.le_of_lt hd29.1) i31
    have ink25 := inc64 hd29.1 i31
    refine x_blk ?_
    refine x_seq ?_
    refine x_reg ?_
    refine o_move F rfl rfl (fun a F => ?_)
    refine o_move F rfl rfl (fun a F => ?_)
    refine o_index Tryz.underlying46 Tryz.sizeOf2 F rfl rfl rfl (A0.go hB) hxk25 (fun a p32 b33 h34 s35 F => ?_)
    have i36 := (h34).i64
    refine o_loadI Tryz.isAgg2 F rfl rfl h34 (fun a F => ?_)
    refine o_move F rfl rfl (fun a F => ?_)
    refine o_eql F rfl rfl rfl (fun a F => ?_)
    refine x_end ?_
    refine x_tn ?_
    refine x_if F rfl (fun hb37 => ?_) (fun hb37 => ?_)
    ·
     replace hR := ifT hb37 hR
     refine x_seq ?_
     refine x_reg ?_
     refine o_assign F rfl rfl (fun a F => ?_)
     refine x_end ?_
     refine x_tn ?_
     refine x_ret ?_
     refine x_br ?_
     refine x_tr ?_
     refine x_tr ?_
     replace hR := l_ret hR hn22
     refine x_br ?_
     refine x_tr ?_
     replace hR := j_ret hR hk20
     refine x_tr ?_
     refine x_res1 F rfl (rv_t F rfl) ?_
     obtain rfl := Option.some.inj hR
     exact ⟨rfl, hB⟩
    ·
     replace hR := ifF hb37 hR
     refine x_skip ?_
     refine x_bn ?_
     refine x_tn ?_
     refine x_reg ?_
     refine o_move F rfl rfl (fun a F => ?_)
     refine o_inc F rfl rfl rfl ink25 (fun a F => ?_)
     refine o_assign F rfl rfl (fun a F => ?_)
     refine x_end ?_
     refine x_tn ?_
     replace hR := l_go hR hn22
     exact ⟨_, Nat.lt_succ_self _, k25 + 1, rest26, ⟨hd29.1, hd29.2.2⟩, rfl, hR, F.sub (sc rfl (sc rfl (sc rfl sn))), hB⟩
 ·
  intro a w ⟨ho21, F, hB⟩
  subst ho21
  have hR := then_nx hk20
  refine x_tn ?_
  refine x_seq ?_
  refine x_reg ?_
  refine o_assign F rfl rfl (fun a F => ?_)
  refine x_end ?_
  refine x_tn ?_
  refine x_ret ?_
  refine x_res1 F rfl (rv_t F rfl) ?_
  obtain rfl := Option.some.inj hR
  exact ⟨rfl, hB⟩

def spec_l05Support (N : Nat) (x0 : Template) (x1 : Con) (x2 : List (List Int)) (x3 : Int) (x4 : Int) : Option Bool :=
 bnd (ix x0.rels x1.rel) fun z24 =>
 thn (σ := Unit) (
  forL (σ := Unit) (ρ := Bool) (fun (k206 : Nat) (x208 : (List Int)) (s : Unit) =>
    match s with
    | _ =>
    thn (σ := Bool) (
     bnd (ix x208 x3) fun z251 =>
     if (z251 == x4) then  bnd (spec_l05Whole x1 x208) fun z259 =>
      some (.nx z259) else  some (.nx false)) fun s250 =>
    thn (σ := Bool × Int) (
     whl (σ := Bool × Int) (ρ := (Ctl (Unit) Bool)) (fun (s : Bool × Int) =>
       match s with
       | (s315, s316) =>
       thn (σ := Bool) (
        if (decide (s316 < (x208.length : Int))) then  some (.nx s315) else  some (.nx false)) fun s332 =>
       if s332 then
        bnd (ix x1.scope s316) fun z344 =>
        bnd (ix x2 z344) fun z351 =>
        bnd (ix x208 s316) fun z361 =>
        bnd (spec_l00Has z351 z361) fun z368 =>
        bnd (ck (s316 + 1)) fun z370 =>
        some (.go (z368, z370))
       else
        some (.brk (s315, s316))) N (s250, 0)) fun (s318, s319) =>
    if s318 then
     some (.ret true)
    else
     some (.go ())) z24.tuples 0 ()) fun _ =>
 some false
set_option maxHeartbeats 1000000 in
theorem spec_l05Support_c {N : Nat} {x0 : Template} {x1 : Con} {x2 : List (List Int)} {x3 : Int} {x4 : Int} (r : Bool) (hR : spec_l05Support N x0 x1 x2 x3 x4 = some r) {v0 : Value} {b0 : List Nat} {v1 : Value} {b1 : List Nat} {v2 : Value} {b2 : List Nat} (w0 : World) (A0 : Rd (Pt 2 RTemplate) w0 v0 x0 b0) (A1 : Rd (Pt 2 RCon) w0 v1 x1 b1) (A2 : Rd (Sl 1 (RSl 1 RInt)) w0 v2 x2 b2) (hx3 : I64 x3) (hx4 : I64 x4) : Calls Tryz.prog 250 #[v0, v1, v2, .int .i64 x3, .int .i64 x4] w0 (Says (.bool r) w0) := by
 unfold spec_l05Support at hR
 refine x_enter (L := [(0, v0), (1, v1), (2, v2), (3, .int .i64 x3), (4, .int .i64 x4)]) Tryz.func250 rfl rfl rfl (sc rfl (sc rfl (sc rfl (sc rfl (sc rfl sn))))) (fun a F => ?_)
 have hB := Below.refl w0.heap.size w0
 refine x_seq ?_
 refine x_reg ?_
 refine o_assign F rfl rfl (fun a F => ?_)
 refine x_end ?_
 refine x_tn ?_
 refine x_seq ?_
 refine x_draw (by kernel_rfl) (by kernel_rfl) ?_
 refine q_val F rfl (fun w l => r_move F rfl) (fun a F => ?_)
 refine q_val F rfl (fun w l => r_nilCheckP F rfl (A0.go hB)) (fun a F => ?_)
 refine q_field (s' := 1) fa33_1 F rfl rfl (A0.go hB) RTemplate.f1 (fun a p11 b12 h13 s14 F => ?_)
 refine q_loadS (fun _ l => l) Tryz.isAgg31 F rfl rfl h13 (fun a v15 b16 h17 s18 F => ?_)
 refine q_val F rfl (fun w l => r_move F rfl) (fun a F => ?_)
 refine q_val F rfl (fun w l => r_nilCheckP F rfl (A1.go hB)) (fun a F => ?_)
 refine q_field (s' := 1) fa194_0 F rfl rfl (A1.go hB) RCon.f0 (fun a p19 b20 h21 s22 F => ?_)
 have i23 := (h21).i64
 refine q_val F rfl (fun w l => r_loadI Tryz.isAgg2 F rfl ((h21).go l)) (fun a F => ?_)
 obtain ⟨z24, c25, hR⟩ := bnd_some hR
 refine q_index Tryz.underlying31 Tryz.sizeOf142 F rfl rfl rfl h17 c25 (fun a p26 b27 h28 s29 F => ?_)
 refine q_val F rfl (fun w l => r_assign F rfl) (fun a F => ?_)
 refine q_end (fun w l => ?_)
 replace hB := Below.through l hB
 replace h28 := h28.go l
 refine x_tn ?_
 refine x_seq ?_
 refine x_seq ?_
 refine x_reg ?_
 refine o_assign F rfl rfl (fun a F => ?_)
 refine x_end ?_
 refine x_tn ?_
 obtain ⟨o200, hR, hk201⟩ := thn_some hR
 refine x_cutQ (fun a w => o200 = .nx () ∧ Sk a 77 [] ∧ Below w0.heap.size w0 w) ?_ ?_
 ·
  refine x_blk ?_
  obtain ⟨fl204, hf205, hR⟩ := forL_gen hR
  refine x_loop (fun g a w => ∃ (k206 : Nat) (rest207 : List (List Int)), (k206 ≤ z24.tuples.length ∧ z24.tuples.drop k206 = rest207) ∧ rest207.length = g ∧ forL fl204 rest207 k206 () = some o200 ∧ Sk a 77 [(12, .int .i64 (k206 : Int)), (1, v1), (2, v2), (3, .int .i64 x3), (4, .int .i64 x4), (11, p26)] ∧ Below w0.heap.size w0 w ∧ Rd (Pt 2 RRel) w p26 z24 b27) z24.tuples.length ?_ ?_
  ·
   exact ⟨0, z24.tuples, ⟨Nat.zero_le _, rfl⟩, rfl, hR, F.sub (sc rfl (sc rfl (sc rfl (sc rfl (sc rfl (sc rfl sn)))))), hB, h28⟩
  ·
   intro g209 a w ⟨k206, rest207, hd210, hg211, hR, F, hB, h28⟩
   cases rest207 with
   | nil =>
    replace hR := forL_nil hR
    have hkk206 := drop_nil hd210.1 hd210.2
    have hlk206 := dec_no hkk206
    refine x_seq ?_
    refine x_seq ?_
    refine x_reg ?_
    refine o_move F rfl rfl (fun a F => ?_)
    refine o_move F rfl rfl (fun a F => ?_)
    refine o_nilCheckP F rfl rfl h28 (fun a F => ?_)
    refine o_field (s' := 1) fa142_1 F rfl rfl h28 RRel.f1 (fun a p373 b374 h375 s376 F => ?_)
    refine o_loadS Tryz.isAgg72 F rfl rfl h375 (fun a v377 b378 h379 s380 F => ?_)
    refine o_len Tryz.underlying72 F rfl rfl h379 (fun a F => ?_)
    have i381 := (h379).r.len64
    refine o_lss F rfl rfl rfl (fun a F => ?_)
    refine x_end ?_
    refine x_tn ?_
    refine x_ifF F rfl hlk206 ?_
    refine x_exit ?_
    refine x_te ?_
    refine x_te ?_
    refine x_be ?_
    refine x_tn ?_
    exact ⟨(Option.some.inj hR).symm, F.sub sn, hB⟩
   | cons x208 rest207 =>
    subst hg211
    replace hd210 := drop_cons hd210.2
    have hxk206 := ix_nat hd210.2.1
    obtain ⟨ck206, hR, hn203⟩ := forL_cons hR
    rw [hf205] at hR
    have hlk206 := dec_yes hd210.1
    refine x_seq ?_
    refine x_seq ?_
    refine x_reg ?_
    refine o_move F rfl rfl (fun a F => ?_)
    refine o_move F rfl rfl (fun a F => ?_)
    refine o_nilCheckP F rfl rfl h28 (fun a F => ?_)
    refine o_field (s' := 1) fa142_1 F rfl rfl h28 RRel.f1 (fun a p212 b213 h214 s215 F => ?_)
    refine o_loadS Tryz.isAgg72 F rfl rfl h214 (fun a v216 b217 h218 s219 F => ?_)
    refine o_len Tryz.underlying72 F rfl rfl h218 (fun a F => ?_)
    have i220 := (h218).r.len64
    refine o_lss F rfl rfl rfl (fun a F => ?_)
    refine x_end ?_
    refine x_tn ?_
    refine x_ifT F rfl hlk206 ?_
    refine x_skip ?_
    refine x_tn ?_
    refine x_seq ?_
    have ikk206 := k64 (Nat.le_of_lt hd210.1) i220
    have ink206 := inc64 hd210.1 i220
    refine x_blk ?_
    refine x_seq ?_
    refine x_reg ?_
    refine o_move F rfl rfl (fun a F => ?_)
    refine o_nilCheckP F rfl rfl h28 (fun a F => ?_)
    refine o_field (s' := 1) fa142_1 F rfl rfl h28 RRel.f1 (fun a p221 b222 h223 s224 F => ?_)
    refine o_loadS Tryz.isAgg72 F rfl rfl h223 (fun a v225 b226 h227 s228 F => ?_)
    refine o_move F rfl rfl (fun a F => ?_)
    refine o_index Tryz.underlying72 Tryz.sizeOf46 F rfl rfl rfl h227 hxk206 (fun a p229 b230 h231 s232 F => ?_)
    refine o_loadS Tryz.isAgg46 F rfl rfl h231 (fun a v233 b234 h235 s236 F => ?_)
    refine o_assign F rfl rfl (fun a F => ?_)
    refine x_end ?_
    refine x_tn ?_
    refine x_seq ?_
    obtain ⟨o247, hR, hk248⟩ := thn_some hR
    refine x_cutQ (fun a w => ∃ (s250 : Bool), o247 = .nx s250 ∧ Sk a 77 [(1, v1), (2, v2), (3, .int .i64 x3), (4, .int .i64 x4), (11, p26), (12, .int .i64 (k206 : Int)), (13, v233), (14, .bool s250)] ∧ Below w0.heap.size w0 w ∧ Rd (Pt 2 RRel) w p26 z24 b27 ∧ Rd (Sl 1 RInt) w v233 x208 b234) ?_ ?_
    ·
     refine x_reg ?_
     refine o_move F rfl rfl (fun a F => ?_)
     refine o_move F rfl rfl (fun a F => ?_)
     obtain ⟨z251, c252, hR⟩ := bnd_some hR
     refine o_index Tryz.underlying46 Tryz.sizeOf2 F rfl rfl rfl h235 c252 (fun a p253 b254 h255 s256 F => ?_)
     have i257 := (h255).i64
     refine o_loadI Tryz.isAgg2 F rfl rfl h255 (fun a F => ?_)
     refine o_move F rfl rfl (fun a F => ?_)
     refine o_eql F rfl rfl rfl (fun a F => ?_)
     refine o_move F rfl rfl (fun a F => ?_)
     rcases bcases (z251 == x4) with hb258 | hb258
     ·
      replace hR := ifT hb258 hR
      have F := F.eq (t := 47) rfl (congrArg Value.bool hb258)
      refine o_move F rfl rfl (fun a F => ?_)
      refine o_move F rfl rfl (fun a F => ?_)
      obtain ⟨z259, c260, hR⟩ := bnd_some hR
      refine o_says F rfl Tryz.call267 rfl (spec_l05Whole_c z259 c260 _ (A1.go hB) h235) (fun a w l F => ?_)
      replace hB := Below.through l hB
      replace h28 := h28.go l
      replace h235 := h235.go l
      refine o_pickt F rfl rfl rfl (fun a F => ?_)
      refine o_assign F rfl rfl (fun a F => ?_)
      refine x_end ?_
      refine x_tn ?_
      exact ⟨z259, (Option.some.inj hR).symm, F.sub (sc rfl (sc rfl (sc rfl (sc rfl (sc rfl (sc rfl (sc rfl (sc rfl sn)))))))), hB, h28, h235⟩
     ·
      replace hR := ifF hb258 hR
      have F := F.eq (t := 47) rfl (congrArg Value.bool hb258)
      refine o_no F rfl rfl (fun a F => ?_)
      refine o_no F rfl rfl (fun a F => ?_)
      refine o_no F rfl rfl (fun a F => ?_)
      refine o_pickf F rfl rfl rfl (fun a F => ?_)
      refine o_assign F rfl rfl (fun a F => ?_)
      refine x_end ?_
      refine x_tn ?_
      exact ⟨false, (Option.some.inj hR).symm, F.sub (sc rfl (sc rfl (sc rfl (sc rfl (sc rfl (sc rfl (sc rfl (sc rfl sn)))))))), hB, h28, h235⟩
    ·
     intro a w ⟨s250, ho249, F, hB, h28, h235⟩
     subst ho249
     have hR := then_nx hk248
     refine x_tn ?_
     refine x_seq ?_
     refine x_seq ?_
     refine x_reg ?_
     refine o_assign F rfl rfl (fun a F => ?_)
     refine x_end ?_
     refine x_tn ?_
     obtain ⟨o309, hR, hk310⟩ := thn_some hR
     refine x_cutQ (fun a w => ∃ (s318 : Bool) (s319 : Int), o309 = .nx (s318, s319) ∧ Sk a 77 [(1, v1), (2, v2), (3, .int .i64 x3), (4, .int .i64 x4), (11, p26), (12, .int .i64 (k206 : Int)), (14, .bool s318)] ∧ Below w0.heap.size w0 w ∧ I64 s319 ∧ Rd (Pt 2 RRel) w p26 z24 b27) ?_ ?_
     ·
      refine x_blk ?_
      obtain ⟨fl313, hf314, hR⟩ := whl_gen hR
      refine x_loop (fun g a w => ∃ (s315 : Bool) (s316 : Int), whl fl313 g (s315, s316) = some o309 ∧ Sk a 77 [(1, v1), (2, v2), (3, .int .i64 x3), (4, .int .i64 x4), (11, p26), (12, .int .i64 (k206 : Int)), (13, v233), (14, .bool s315), (15, .int .i64 s316)] ∧ Below w0.heap.size w0 w ∧ I64 s316 ∧ Rd (Pt 2 RRel) w p26 z24 b27 ∧ Rd (Sl 1 RInt) w v233 x208 b234) N ?_ ?_
      ·
       exact ⟨s250, 0, hR, F.sub (sc rfl (sc rfl (sc rfl (sc rfl (sc rfl (sc rfl (sc rfl (sc rfl (sc rfl sn))))))))), hB, (show I64 (0) by decide), h28, h235⟩
      ·
       intro g324 a w ⟨s315, s316, hR, F, hB, i317, h28, h235⟩
       obtain ⟨ck321, rest322, hg326, hR, hn312⟩ := whl_round hR
       rw [hf314] at hR
       refine x_seq ?_
       refine x_seq ?_
       obtain ⟨o329, hR, hk330⟩ := thn_some hR
       refine x_cutQ (fun a w => ∃ (s332 : Bool), o329 = .nx s332 ∧ Sk a 77 [(1, v1), (2, v2), (3, .int .i64 x3), (4, .int .i64 x4), (11, p26), (12, .int .i64 (k206 : Int)), (13, v233), (14, .bool s315), (15, .int .i64 s316), (58, .bool s332)] ∧ Below w0.heap.size w0 w ∧ Rd (Pt 2 RRel) w p26 z24 b27 ∧ Rd (Sl 1 RInt) w v233 x208 b234) ?_ ?_
       ·
        refine x_reg ?_
        refine o_move F rfl rfl (fun a F => ?_)
        refine o_move F rfl rfl (fun a F => ?_)
        refine o_len Tryz.underlying46 F rfl rfl h235 (fun a F => ?_)
        have i333 := (h235).r.len64
        refine o_lss F rfl rfl rfl (fun a F => ?_)
        refine o_move F rfl rfl (fun a F => ?_)
        rcases bcases (decide (s316 < (x208.length : Int))) with hb334 | hb334
        ·
         replace hR := ifT hb334 hR
         have F := F.eq (t := 56) rfl (congrArg Value.bool hb334)
         refine o_move F rfl rfl (fun a F => ?_)
         refine o_pickt F rfl rfl rfl (fun a F => ?_)
         refine x_end ?_
         refine x_tn ?_
         exact ⟨s315, (Option.some.inj hR).symm, F.sub (sc rfl (sc rfl (sc rfl (sc rfl (sc rfl (sc rfl (sc rfl (sc rfl (sc rfl (sc rfl sn)))))))))), hB, h28, h235⟩
        ·
         replace hR := ifF hb334 hR
         have F := F.eq (t := 56) rfl (congrArg Value.bool hb334)
         refine o_no F rfl rfl (fun a F => ?_)
         refine o_pickf F rfl rfl rfl (fun a F => ?_)
         refine x_end ?_
         refine x_tn ?_
         exact ⟨false, (Option.some.inj hR).symm, F.sub (sc rfl (sc rfl (sc rfl (sc rfl (sc rfl (sc rfl (sc rfl (sc rfl (sc rfl (sc rfl sn)))))))))), hB, h28, h235⟩
       ·
        intro a w ⟨s332, ho331, F, hB, h28, h235⟩
        subst ho331
        have hR := then_nx hk330
        refine x_tn ?_
        refine x_if F rfl (fun hb335 => ?_) (fun hb335 => ?_)
        ·
         replace hR := ifT hb335 hR
         refine x_skip ?_
         refine x_tn ?_
         refine x_seq ?_
         refine x_blk ?_
         refine x_draw (by kernel_rfl) (by kernel_rfl) ?_
         refine q_val F rfl (fun w l => r_move F rfl) (fun a F => ?_)
         refine q_val F rfl (fun w l => r_move F rfl) (fun a F => ?_)
         refine q_val F rfl (fun w l => r_nilCheckP F rfl (A1.go hB)) (fun a F => ?_)
         refine q_field (s' := 1) fa194_1 F rfl rfl (A1.go hB) RCon.f1 (fun a p336 b337 h338 s339 F => ?_)
         refine q_loadS (fun _ l => l) Tryz.isAgg46 F rfl rfl h338 (fun a v340 b341 h342 s343 F => ?_)
         refine q_val F rfl (fun w l => r_move F rfl) (fun a F => ?_)
         obtain ⟨z344, c345, hR⟩ := bnd_some hR
         refine q_index Tryz.underlying46 Tryz.sizeOf2 F rfl rfl rfl h342 c345 (fun a p346 b347 h348 s349 F => ?_)
         have i350 := (h348).i64
         refine q_val F rfl (fun w l => r_loadI Tryz.isAgg2 F rfl ((h348).go l)) (fun a F => ?_)
         obtain ⟨z351, c352, hR⟩ := bnd_some hR
         refine q_index Tryz.underlying72 Tryz.sizeOf46 F rfl rfl rfl (A2.go hB) c352 (fun a p353 b354 h355 s356 F => ?_)
         refine q_loadS (fun _ l => l) Tryz.isAgg46 F rfl rfl h355 (fun a v357 b358 h359 s360 F => ?_)
         refine q_val F rfl (fun w l => r_move F rfl) (fun a F => ?_)
         refine q_val F rfl (fun w l => r_move F rfl) (fun a F => ?_)
         obtain ⟨z361, c362, hR⟩ := bnd_some hR
         refine q_index Tryz.underlying46 Tryz.sizeOf2 F rfl rfl rfl h235 c362 (fun a p363 b364 h365 s366 F => ?_)
         have i367 := (h365).i64
         refine q_val F rfl (fun w l => r_loadI Tryz.isAgg2 F rfl ((h365).go l)) (fun a F => ?_)
         obtain ⟨z368, c369, hR⟩ := bnd_some hR
         refine q_says F rfl Tryz.call158 rfl (fun w w' h l => l.through h) (fun w l => spec_l00Has_c z368 c369 w (h359.go l) i367) (fun a F => ?_)
         refine q_val F rfl (fun w l => r_assign F rfl) (fun a F => ?_)
         refine q_end (fun w l => ?_)
         replace hB := Below.through l hB
         replace h28 := h28.go l
         replace h235 := h235.go l
         refine x_bn ?_
         refine x_tn ?_
         refine x_reg ?_
         refine o_move F rfl rfl (fun a F => ?_)
         obtain ⟨z370, c371, hR⟩ := bnd_some hR
         refine o_add F rfl rfl rfl c371 (fun a F => ?_)
         refine o_assign F rfl rfl (fun a F => ?_)
         refine x_end ?_
         refine x_tn ?_
         replace hR := l_go hR hn312
         exact ⟨rest322, (by omega), z368, z370, hR, F.sub (sc rfl (sc rfl (sc rfl (sc rfl (sc rfl (sc rfl (sc rfl (sc rfl (sc rfl sn))))))))), hB, (ck64 c371), h28, h235⟩
        ·
         replace hR := ifF hb335 hR
         refine x_exit ?_
         refine x_te ?_
         refine x_te ?_
         replace hR := l_brk hR hn312
         refine x_be ?_
         refine x_tn ?_
         exact ⟨s315, s316, (Option.some.inj hR).symm, F.sub (sc rfl (sc rfl (sc rfl (sc rfl (sc rfl (sc rfl (sc rfl sn))))))), hB, i317, h28⟩
     ·
      intro a w ⟨s318, s319, ho311, F, hB, i320, h28⟩
      subst ho311
      have hR := then_nx hk310
      refine x_tn ?_
      refine x_seq ?_
      refine x_reg ?_
      refine o_move F rfl rfl (fun a F => ?_)
      refine x_end ?_
      refine x_tn ?_
      refine x_if F rfl (fun hb372 => ?_) (fun hb372 => ?_)
      ·
       replace hR := ifT hb372 hR
       refine x_seq ?_
       refine x_reg ?_
       refine o_assign F rfl rfl (fun a F => ?_)
       refine x_end ?_
       refine x_tn ?_
       refine x_ret ?_
       refine x_br ?_
       refine x_tr ?_
       refine x_tr ?_
       replace hR := l_ret hR hn203
       refine x_br ?_
       refine x_tr ?_
       replace hR := j_ret hR hk201
       refine x_tr ?_
       refine x_res1 F rfl (rv_t F rfl) ?_
       obtain rfl := Option.some.inj hR
       exact ⟨rfl, hB⟩
      ·
       replace hR := ifF hb372 hR
       refine x_skip ?_
       refine x_bn ?_
       refine x_tn ?_
       refine x_reg ?_
       refine o_move F rfl rfl (fun a F => ?_)
       refine o_inc F rfl rfl rfl ink206 (fun a F => ?_)
       refine o_assign F rfl rfl (fun a F => ?_)
       refine x_end ?_
       refine x_tn ?_
       replace hR := l_go hR hn203
       exact ⟨_, Nat.lt_succ_self _, k206 + 1, rest207, ⟨hd210.1, hd210.2.2⟩, rfl, hR, F.sub (sc rfl (sc rfl (sc rfl (sc rfl (sc rfl (sc rfl sn)))))), hB, h28⟩
 ·
  intro a w ⟨ho202, F, hB⟩
  subst ho202
  have hR := then_nx hk201
  refine x_tn ?_
  refine x_seq ?_
  refine x_reg ?_
  refine o_assign F rfl rfl (fun a F => ?_)
  refine x_end ?_
  refine x_tn ?_
  refine x_ret ?_
  refine x_res1 F rfl (rv_t F rfl) ?_
  obtain rfl := Option.some.inj hR
  exact ⟨rfl, hB⟩

def spec_l05Without (x0 : List Int) (x1 : Int) : Option (List Int) :=
 thn (σ := (List Int)) (
  forL (σ := (List Int)) (ρ := (List Int)) (fun (k61 : Nat) (x63 : Int) (s51 : (List Int)) =>
   if (x63 != x1) then
    bnd (ap s51 ([x63])) fun z85 =>
    some (.go z85)
   else
    some (.go s51)) x0 0 []) fun s56 =>
 some s56
set_option maxHeartbeats 1000000 in
theorem spec_l05Without_c {x0 : List Int} {x1 : Int} (r : (List Int)) (hR : spec_l05Without x0 x1 = some r) {v0 : Value} {b0 : List Nat} (w0 : World) (A0 : Rd (Sl 1 RInt) w0 v0 x0 b0) (hx1 : I64 x1) : Calls Tryz.prog 218 #[v0, .int .i64 x1] w0 (Gives (fun v w' => ∃ (v1' : Value) (rb2' : List Nat), v = v1' ∧ Row 1 RInt 2 w0.heap.size w' v1' r rb2' []) w0) := by
 unfold spec_l05Without at hR
 refine x_enter (L := [(0, v0), (1, .int .i64 x1)]) Tryz.func218 rfl rfl rfl (sc rfl (sc rfl sn)) (fun a F => ?_)
 have hB := Below.refl w0.heap.size w0
 refine x_seq ?_
 refine x_reg ?_
 refine o_assign F rfl rfl (fun a F => ?_)
 refine x_end ?_
 refine x_tn ?_
 refine x_seq ?_
 refine x_reg ?_
 refine o_lit0 (R := RInt) Tryz.underlying46 Tryz.sizeOf2 F rfl (fun a w v11 rb12 h13 l F => ?_)
 replace h13 := h13.base hB.size
 replace hB := Below.through l hB
 refine o_assign F rfl rfl (fun a F => ?_)
 refine x_end ?_
 refine x_tn ?_
 refine x_seq ?_
 refine x_seq ?_
 refine x_reg ?_
 refine o_assign F rfl rfl (fun a F => ?_)
 refine x_end ?_
 refine x_tn ?_
 obtain ⟨o45, hR, hk46⟩ := thn_some hR
 refine x_cutQ (fun a w => ∃ (s56 : List Int) (v59 : Value) (rb60 : List Nat), o45 = .nx s56 ∧ Sk a 28 [(5, v59)] ∧ Below w0.heap.size w0 w ∧ Row 1 RInt 2 w0.heap.size w v59 s56 rb60 ([])) ?_ ?_
 ·
  refine x_blk ?_
  obtain ⟨fl49, hf50, hR⟩ := forL_gen hR
  refine x_loop (fun g a w => ∃ (k61 : Nat) (rest62 : List Int) (s51 : List Int) (v54 : Value) (rb55 : List Nat), (k61 ≤ x0.length ∧ x0.drop k61 = rest62) ∧ rest62.length = g ∧ forL fl49 rest62 k61 s51 = some o45 ∧ Sk a 28 [(6, .int .i64 (k61 : Int)), (0, v0), (1, .int .i64 x1), (5, v54)] ∧ Below w0.heap.size w0 w ∧ Row 1 RInt 2 w0.heap.size w v54 s51 rb55 ([])) x0.length ?_ ?_
  ·
   exact ⟨0, x0, [], v11, rb12, ⟨Nat.zero_le _, rfl⟩, rfl, hR, F.sub (sc rfl (sc rfl (sc rfl (sc rfl sn)))), hB, h13⟩
  ·
   intro g64 a w ⟨k61, rest62, s51, v54, rb55, hd65, hg66, hR, F, hB, h53⟩
   cases rest62 with
   | nil =>
    replace hR := forL_nil hR
    have hkk61 := drop_nil hd65.1 hd65.2
    have hlk61 := dec_no hkk61
    refine x_seq ?_
    refine x_seq ?_
    refine x_reg ?_
    refine o_move F rfl rfl (fun a F => ?_)
    refine o_move F rfl rfl (fun a F => ?_)
    refine o_len Tryz.underlying46 F rfl rfl (A0.go hB) (fun a F => ?_)
    have i91 := ((A0.go hB)).r.len64
    refine o_lss F rfl rfl rfl (fun a F => ?_)
    refine x_end ?_
    refine x_tn ?_
    refine x_ifF F rfl hlk61 ?_
    refine x_exit ?_
    refine x_te ?_
    refine x_te ?_
    refine x_be ?_
    refine x_tn ?_
    exact ⟨s51, v54, rb55, (Option.some.inj hR).symm, F.sub (sc rfl sn), hB, h53⟩
   | cons x63 rest62 =>
    subst hg66
    replace hd65 := drop_cons hd65.2
    have hxk61 := ix_nat hd65.2.1
    obtain ⟨ck61, hR, hn48⟩ := forL_cons hR
    rw [hf50] at hR
    have hlk61 := dec_yes hd65.1
    refine x_seq ?_
    refine x_seq ?_
    refine x_reg ?_
    refine o_move F rfl rfl (fun a F => ?_)
    refine o_move F rfl rfl (fun a F => ?_)
    refine o_len Tryz.underlying46 F rfl rfl (A0.go hB) (fun a F => ?_)
    have i67 := ((A0.go hB)).r.len64
    refine o_lss F rfl rfl rfl (fun a F => ?_)
    refine x_end ?_
    refine x_tn ?_
    refine x_ifT F rfl hlk61 ?_
    refine x_skip ?_
    refine x_tn ?_
    refine x_seq ?_
    have ikk61 := k64 (Nat.le_of_lt hd65.1) i67
    have ink61 := inc64 hd65.1 i67
    refine x_blk ?_
    refine x_seq ?_
    refine x_reg ?_
    refine o_move F rfl rfl (fun a F => ?_)
    refine o_move F rfl rfl (fun a F => ?_)
    refine o_index Tryz.underlying46 Tryz.sizeOf2 F rfl rfl rfl (A0.go hB) hxk61 (fun a p68 b69 h70 s71 F => ?_)
    have i72 := (h70).i64
    refine o_loadI Tryz.isAgg2 F rfl rfl h70 (fun a F => ?_)
    refine o_move F rfl rfl (fun a F => ?_)
    refine o_neq F rfl rfl rfl (fun a F => ?_)
    refine x_end ?_
    refine x_tn ?_
    refine x_if F rfl (fun hb73 => ?_) (fun hb73 => ?_)
    ·
     replace hR := ifT hb73 hR
     refine x_reg ?_
     refine o_move F rfl rfl (fun a F => ?_)
     refine o_move F rfl rfl (fun a F => ?_)
     refine o_move F rfl rfl (fun a F => ?_)
     refine o_index Tryz.underlying46 Tryz.sizeOf2 F rfl rfl rfl (A0.go hB) hxk61 (fun a p74 b75 h76 s77 F => ?_)
     have i78 := (h76).i64
     refine o_loadI Tryz.isAgg2 F rfl rfl h76 (fun a F => ?_)
     refine o_lit1 (R := RInt) (y := x63) Tryz.underlying46 Tryz.sizeOf2 Tryz.zeroValue2 rfl (by decide) (by decide) F rfl rfl (El.int i78) (fun a w v79 rb80 h81 l F => ?_)
     have d83 := Dj.new h53.rd.m h81.ownR (Nat.le_refl _)
     have d84 := Dj.app' (Dj.new h53.memR h81.ownR (Nat.le_refl _)).symm (Dj.nil' _)
     replace h81 := h81.base hB.size
     replace hB := Below.through l hB
     replace h53 := h53.go l
     obtain ⟨z85, c86, hR⟩ := bnd_some hR
     refine o_append (sz := 1) (R := RInt) (z := (.int .i64 0)) (bytes := 8) Tryz.underlying46 (by kernel_rfl) rfl (by decide) (by decide) (by decide) F rfl rfl rfl h53 h81.src hB.size (Dj.nil _) c86 (fun a w v87 rb88 h89 l keep F => ?_)
     replace h89 := row_nil2 h89
     replace hB := hB.o l h53.lo hB.size
     refine o_assign F rfl rfl (fun a F => ?_)
     refine x_end ?_
     refine x_bn ?_
     refine x_tn ?_
     refine x_reg ?_
     refine o_move F rfl rfl (fun a F => ?_)
     refine o_inc F rfl rfl rfl ink61 (fun a F => ?_)
     refine o_assign F rfl rfl (fun a F => ?_)
     refine x_end ?_
     refine x_tn ?_
     replace hR := l_go hR hn48
     exact ⟨_, Nat.lt_succ_self _, k61 + 1, rest62, z85, v87, rb88, ⟨hd65.1, hd65.2.2⟩, rfl, hR, F.sub (sc rfl (sc rfl (sc rfl (sc rfl sn)))), hB, h89⟩
    ·
     replace hR := ifF hb73 hR
     refine x_skip ?_
     refine x_bn ?_
     refine x_tn ?_
     refine x_reg ?_
     refine o_move F rfl rfl (fun a F => ?_)
     refine o_inc F rfl rfl rfl ink61 (fun a F => ?_)
     refine o_assign F rfl rfl (fun a F => ?_)
     refine x_end ?_
     refine x_tn ?_
     replace hR := l_go hR hn48
     exact ⟨_, Nat.lt_succ_self _, k61 + 1, rest62, s51, v54, rb55, ⟨hd65.1, hd65.2.2⟩, rfl, hR, F.sub (sc rfl (sc rfl (sc rfl (sc rfl sn)))), hB, h53⟩
 ·
  intro a w ⟨s56, v59, rb60, ho47, F, hB, h58⟩
  subst ho47
  have hR := then_nx hk46
  refine x_tn ?_
  refine x_seq ?_
  refine x_reg ?_
  refine o_move F rfl rfl (fun a F => ?_)
  refine o_assign F rfl rfl (fun a F => ?_)
  refine x_end ?_
  refine x_tn ?_
  refine x_ret ?_
  refine x_res1 F rfl (rv_t F rfl) ?_
  obtain rfl := Option.some.inj hR
  exact ⟨_, rfl, hB, v59, rb60, rfl, h58⟩

def spec_l05Copies (x0 : List (List Int)) : Option (List (List Int)) :=
 thn (σ := (List (List Int))) (
  forL (σ := (List (List Int))) (ρ := (List (List Int))) (fun (k116 : Nat) (x118 : (List Int)) (s102 : (List (List Int))) =>
   bnd (spec_l00Own x118) fun z131 =>
   bnd (ap s102 ([z131])) fun z150 =>
   some (.go z150)) x0 0 []) fun s109 =>
 some s109
set_option maxHeartbeats 1000000 in
theorem spec_l05Copies_c {x0 : List (List Int)} (r : (List (List Int))) (hR : spec_l05Copies x0 = some r) {v0 : Value} {b0 : List Nat} (w0 : World) (A0 : Rd (Sl 1 (RSl 1 RInt)) w0 v0 x0 b0) : Calls Tryz.prog 217 #[v0] w0 (Gives (fun v w' => ∃ (v1' : Value) (rb2' : List Nat) (ib3' : List Nat), v = v1' ∧ Row 1 (RSl 1 RInt) 46 w0.heap.size w' v1' r rb2' ib3' ∧ Own w0.heap.size ib3' w') w0) := by
 unfold spec_l05Copies at hR
 refine x_enter (L := [(0, v0)]) Tryz.func217 rfl rfl rfl (sc rfl sn) (fun a F => ?_)
 have hB := Below.refl w0.heap.size w0
 refine x_seq ?_
 refine x_reg ?_
 refine o_assign F rfl rfl (fun a F => ?_)
 refine x_end ?_
 refine x_tn ?_
 refine x_seq ?_
 refine x_reg ?_
 refine o_lit0 (R := (RSl 1 RInt)) Tryz.underlying72 Tryz.sizeOf46 F rfl (fun a w v11 rb12 h13 l F => ?_)
 replace h13 := h13.base hB.size
 replace hB := Below.through l hB
 refine o_assign F rfl rfl (fun a F => ?_)
 refine x_end ?_
 refine x_tn ?_
 refine x_seq ?_
 refine x_seq ?_
 refine x_reg ?_
 refine o_assign F rfl rfl (fun a F => ?_)
 refine x_end ?_
 refine x_tn ?_
 obtain ⟨o96, hR, hk97⟩ := thn_some hR
 refine x_cutQ (fun a w => ∃ (s109 : List (List Int)) (v112 : Value) (rb113 : List Nat) (ib114 : List Nat), o96 = .nx s109 ∧ Sk a 21 [(3, v112)] ∧ Below w0.heap.size w0 w ∧ Row 1 (RSl 1 RInt) 46 w0.heap.size w v112 s109 rb113 ib114 ∧ Own w0.heap.size ib114 w) ?_ ?_
 ·
  refine x_blk ?_
  obtain ⟨fl100, hf101, hR⟩ := forL_gen hR
  refine x_loop (fun g a w => ∃ (k116 : Nat) (rest117 : List (List Int)) (s102 : List (List Int)) (v105 : Value) (rb106 : List Nat) (ib107 : List Nat), (k116 ≤ x0.length ∧ x0.drop k116 = rest117) ∧ rest117.length = g ∧ forL fl100 rest117 k116 s102 = some o96 ∧ Sk a 21 [(4, .int .i64 (k116 : Int)), (0, v0), (3, v105)] ∧ Below w0.heap.size w0 w ∧ Row 1 (RSl 1 RInt) 46 w0.heap.size w v105 s102 rb106 ib107 ∧ Own w0.heap.size ib107 w) x0.length ?_ ?_
  ·
   exact ⟨0, x0, [], v11, rb12, [], ⟨Nat.zero_le _, rfl⟩, rfl, hR, F.sub (sc rfl (sc rfl (sc rfl sn))), hB, h13, (Own.nil _ _)⟩
  ·
   intro g119 a w ⟨k116, rest117, s102, v105, rb106, ib107, hd120, hg121, hR, F, hB, h104, ow108⟩
   cases rest117 with
   | nil =>
    replace hR := forL_nil hR
    have hkk116 := drop_nil hd120.1 hd120.2
    have hlk116 := dec_no hkk116
    refine x_seq ?_
    refine x_seq ?_
    refine x_reg ?_
    refine o_move F rfl rfl (fun a F => ?_)
    refine o_move F rfl rfl (fun a F => ?_)
    refine o_len Tryz.underlying72 F rfl rfl (A0.go hB) (fun a F => ?_)
    have i157 := ((A0.go hB)).r.len64
    refine o_lss F rfl rfl rfl (fun a F => ?_)
    refine x_end ?_
    refine x_tn ?_
    refine x_ifF F rfl hlk116 ?_
    refine x_exit ?_
    refine x_te ?_
    refine x_te ?_
    refine x_be ?_
    refine x_tn ?_
    exact ⟨s102, v105, rb106, ib107, (Option.some.inj hR).symm, F.sub (sc rfl sn), hB, h104, ow108⟩
   | cons x118 rest117 =>
    subst hg121
    replace hd120 := drop_cons hd120.2
    have hxk116 := ix_nat hd120.2.1
    obtain ⟨ck116, hR, hn99⟩ := forL_cons hR
    rw [hf101] at hR
    have hlk116 := dec_yes hd120.1
    refine x_seq ?_
    refine x_seq ?_
    refine x_reg ?_
    refine o_move F rfl rfl (fun a F => ?_)
    refine o_move F rfl rfl (fun a F => ?_)
    refine o_len Tryz.underlying72 F rfl rfl (A0.go hB) (fun a F => ?_)
    have i122 := ((A0.go hB)).r.len64
    refine o_lss F rfl rfl rfl (fun a F => ?_)
    refine x_end ?_
    refine x_tn ?_
    refine x_ifT F rfl hlk116 ?_
    refine x_skip ?_
    refine x_tn ?_
    refine x_seq ?_
    have ikk116 := k64 (Nat.le_of_lt hd120.1) i122
    have ink116 := inc64 hd120.1 i122
    refine x_blk ?_
    refine x_reg ?_
    refine o_move F rfl rfl (fun a F => ?_)
    refine o_move F rfl rfl (fun a F => ?_)
    refine o_move F rfl rfl (fun a F => ?_)
    refine o_index Tryz.underlying72 Tryz.sizeOf46 F rfl rfl rfl (A0.go hB) hxk116 (fun a p123 b124 h125 s126 F => ?_)
    refine o_loadS Tryz.isAgg46 F rfl rfl h125 (fun a v127 b128 h129 s130 F => ?_)
    obtain ⟨z131, c132, hR⟩ := bnd_some hR
    refine o_gives F rfl Tryz.call174 rfl (spec_l00Own_c z131 c132 _ h129) (fun a vv w l ⟨v133, rb134, hv137, h136⟩ F => ?_)
    subst vv
    have d139 := Dj.new h104.rd.m h136.ownR (Nat.le_refl _)
    have d140 := Dj.app' (Dj.new h104.memR h136.ownR (Nat.le_refl _)).symm (Dj.nil' _)
    have d141 := Dj.app' (Dj.new h104.mem h136.ownR (Nat.le_refl _)).symm (Dj.nil' _)
    replace h136 := h136.base hB.size
    replace hB := Below.through l hB
    replace h104 := h104.go l
    replace ow108 := ow108.go l
    refine o_lit1 (R := (RSl 1 RInt)) (y := z131) Tryz.underlying72 Tryz.sizeOf46 Tryz.zeroValue46 rfl (by decide) (by decide) F rfl rfl (El.sl h136.rd) (fun a w v142 rb143 h144 l F => ?_)
    have ow145 := Own.go (h136.own (Own.nil _ _)) l
    have d147 := Dj.new h104.rd.m h144.ownR (Nat.le_refl _)
    have d148 := Dj.app' (Dj.new h104.memR h144.ownR (Nat.le_refl _)).symm d140
    have d149 := Dj.app' (Dj.new h104.mem h144.ownR (Nat.le_refl _)).symm d141
    replace h144 := h144.base hB.size
    replace hB := Below.through l hB
    replace h104 := h104.go l
    replace ow108 := ow108.go l
    obtain ⟨z150, c151, hR⟩ := bnd_some hR
    refine o_append (sz := 1) (R := (RSl 1 RInt)) (z := ((.slice none 0 0))) (bytes := 24) Tryz.underlying72 (by kernel_rfl) rfl (by decide) (by decide) (by decide) F rfl rfl rfl h104 h144.src hB.size (Dj.symm d148.r) c151 (fun a w v152 rb153 h154 l keep F => ?_)
    have ow155 := Own.append (Own.goO ow108 l h104.dj.symm) (Own.goO ow145 l (Dj.symm (Dj.symm d148.r))) (Dj.symm d149.r)
    replace hB := hB.o l h104.lo hB.size
    refine o_assign F rfl rfl (fun a F => ?_)
    refine x_end ?_
    refine x_bn ?_
    refine x_tn ?_
    refine x_reg ?_
    refine o_move F rfl rfl (fun a F => ?_)
    refine o_inc F rfl rfl rfl ink116 (fun a F => ?_)
    refine o_assign F rfl rfl (fun a F => ?_)
    refine x_end ?_
    refine x_tn ?_
    replace hR := l_go hR hn99
    exact ⟨_, Nat.lt_succ_self _, k116 + 1, rest117, z150, v152, rb153, (ib107 ++ (rb134 ++ [])), ⟨hd120.1, hd120.2.2⟩, rfl, hR, F.sub (sc rfl (sc rfl (sc rfl sn))), hB, h154, ow155⟩
 ·
  intro a w ⟨s109, v112, rb113, ib114, ho98, F, hB, h111, ow115⟩
  subst ho98
  have hR := then_nx hk97
  refine x_tn ?_
  refine x_seq ?_
  refine x_reg ?_
  refine o_move F rfl rfl (fun a F => ?_)
  refine o_assign F rfl rfl (fun a F => ?_)
  refine x_end ?_
  refine x_tn ?_
  refine x_ret ?_
  refine x_res1 F rfl (rv_t F rfl) ?_
  obtain rfl := Option.some.inj hR
  exact ⟨_, rfl, hB, v112, rb113, ib114, rfl, h111, ow115⟩

def impl_isVars (x0 : Int) : Option Bool :=
 bnd (impl_within x0 1 10) fun z11 =>
 some z11
set_option maxHeartbeats 1000000 in
theorem impl_isVars_c {x0 : Int} (r : Bool) (hR : impl_isVars x0 = some r)  (w0 : World) (hx0 : I64 x0) : Calls Tryz.prog 184 #[.int .i64 x0] w0 (Says (.bool r) w0) := by
 unfold impl_isVars at hR
 refine x_enter (L := [(0, .int .i64 x0)]) Tryz.func184 rfl rfl rfl (sc rfl sn) (fun a F => ?_)
 have hB := Below.refl w0.heap.size w0
 refine x_seq ?_
 refine x_reg ?_
 refine o_assign F rfl rfl (fun a F => ?_)
 refine x_end ?_
 refine x_tn ?_
 refine x_seq ?_
 refine x_reg ?_
 refine o_move F rfl rfl (fun a F => ?_)
 obtain ⟨z11, c12, hR⟩ := bnd_some hR
 refine o_says F rfl Tryz.call155 rfl (impl_within_c z11 c12 _ hx0 (show I64 (1) by decide) (show I64 (10) by decide)) (fun a w l F => ?_)
 replace hB := Below.through l hB
 refine o_assign F rfl rfl (fun a F => ?_)
 refine x_end ?_
 refine x_tn ?_
 refine x_ret ?_
 refine x_res1 F rfl (rv_t F rfl) ?_
 obtain rfl := Option.some.inj hR
 exact ⟨rfl, hB⟩

def impl_ValidInstance_1 (x0 : Con) (y0 : Template) (y1 : Instance) : Option Bool :=
 thn (σ := Bool) (
  bnd (ck ((y0.rels.length : Int) - 1)) fun z73 =>
  bnd (impl_within x0.rel 0 z73) fun z75 =>
  if (!z75) then  some (.nx true) else  bnd (ix y0.rels x0.rel) fun z91 =>
   bnd (impl_areValues y1.vars x0.scope z91.arity) fun z102 =>
   some (.nx (!z102))) fun s63 =>
 some s63
set_option maxHeartbeats 1000000 in
theorem impl_ValidInstance_1_c {x0 : Con} {y0 : Template} {y1 : Instance} (r : Bool) (hR : impl_ValidInstance_1 x0 y0 y1 = some r) {v0 : Value} {b0 : List Nat} {v1 : Value} {b1 : List Nat} {v2 : Value} {b2 : List Nat} (w0 : World) (A0 : Rd (Agg 2 RCon) w0 v0 x0 b0) (A1 : Rd (Pt 2 RTemplate) w0 v1 y0 b1) (A2 : Rd (Pt 2 RInstance) w0 v2 y1 b2) : Calls Tryz.prog 186 #[v0, v1, v2] w0 (Says (.bool r) w0) := by
 unfold impl_ValidInstance_1 at hR
 refine x_enter (L := [(0, v0), (1, v1), (2, v2)]) Tryz.func186 rfl rfl rfl (sc rfl (sc rfl (sc rfl sn))) (fun a F => ?_)
 have hB := Below.refl w0.heap.size w0
 refine x_seq ?_
 refine x_reg ?_
 obtain ⟨v15, b16, e18, i14, h17, eb13⟩ := RCon.rd (A0.go hB)
 subst e18
 refine o_box F rfl rfl rfl (fun a w b11 K12 l BK12 F => ?_)
 have d19 := (dj1 h17.m BK12).symm
 have CK12 := Nat.le_trans hB.size BK12
 replace hB := Below.through l hB
 replace h17 := h17.go l
 refine o_assign F rfl rfl (fun a F => ?_)
 refine x_end ?_
 refine x_tn ?_
 refine x_seq ?_
 obtain ⟨o60, hR, hk61⟩ := thn_some hR
 refine x_cutQ (fun a w => ∃ (s63 : Bool), o60 = .nx s63 ∧ Sk a 28 [(4, .bool s63)] ∧ Below w0.heap.size w0 w) ?_ ?_
 ·
  refine x_draw (by kernel_rfl) (by kernel_rfl) ?_
  refine q_val F rfl (fun w l => r_bfield fa194_0 F rfl rfl) (fun a F => ?_)
  refine q_val F rfl (fun w l => r_load1 Tryz.isAgg2 F rfl (((K12.thru l).cell _).trans rfl)) (fun a F => ?_)
  refine q_field (s' := 1) fa33_1 F rfl rfl (A1.go hB) RTemplate.f1 (fun a p64 b65 h66 s67 F => ?_)
  refine q_loadS (fun _ l => l) Tryz.isAgg31 F rfl rfl h66 (fun a v68 b69 h70 s71 F => ?_)
  refine q_val F rfl (fun w l => r_len Tryz.underlying31 F rfl (h70).r w) (fun a F => ?_)
  have i72 := (h70).r.len64
  obtain ⟨z73, c74, hR⟩ := bnd_some hR
  refine q_val F rfl (fun w l => r_sub F rfl rfl c74) (fun a F => ?_)
  obtain ⟨z75, c76, hR⟩ := bnd_some hR
  refine q_says F rfl Tryz.call155 rfl (fun w w' h l => l.through h) (fun w l => impl_within_c z75 c76 w i14 (show I64 (0) by decide) (ck64 c74)) (fun a F => ?_)
  refine q_val F rfl (fun w l => r_not F rfl) (fun a F => ?_)
  refine q_val F rfl (fun w l => r_move F rfl) (fun a F => ?_)
  rcases bcases (!z75) with hb77 | hb77
  ·
   replace hR := ifT hb77 hR
   have F := F.eq (t := 13) rfl (congrArg Value.bool hb77)
   refine q_no F rfl rfl (fun a F => ?_)
   refine q_no F rfl rfl (fun a F => ?_)
   refine q_no F rfl rfl (fun a F => ?_)
   refine q_no F rfl rfl (fun a F => ?_)
   refine q_no F rfl rfl (fun a F => ?_)
   refine q_no F rfl rfl (fun a F => ?_)
   refine q_no F rfl rfl (fun a F => ?_)
   refine q_no F rfl rfl (fun a F => ?_)
   refine q_no F rfl rfl (fun a F => ?_)
   refine q_no F rfl rfl (fun a F => ?_)
   refine q_no F rfl rfl (fun a F => ?_)
   refine q_no F rfl rfl (fun a F => ?_)
   refine q_no F rfl rfl (fun a F => ?_)
   refine q_val F rfl (fun w l => r_pickt F rfl rfl) (fun a F => ?_)
   refine q_val F rfl (fun w l => r_assign F rfl) (fun a F => ?_)
   refine q_end (fun w l => ?_)
   replace hB := Below.through l hB
   refine x_tn ?_
   exact ⟨true, (Option.some.inj hR).symm, F.sub (sc rfl sn), hB⟩
  ·
   replace hR := ifF hb77 hR
   have F := F.eq (t := 13) rfl (congrArg Value.bool hb77)
   refine q_field (s' := 1) fa51_0 F rfl rfl (A2.go hB) RInstance.f0 (fun a p78 b79 h80 s81 F => ?_)
   have i82 := (h80).i64
   refine q_val F rfl (fun w l => r_loadI Tryz.isAgg2 F rfl ((h80).go l)) (fun a F => ?_)
   refine q_val F rfl (fun w l => r_bfield fa194_1 F rfl rfl) (fun a F => ?_)
   refine q_val F rfl (fun w l => r_load1 Tryz.isAgg46 F rfl (((K12.thru l).cell _).trans rfl)) (fun a F => ?_)
   refine q_field (s' := 1) fa33_1 F rfl rfl (A1.go hB) RTemplate.f1 (fun a p83 b84 h85 s86 F => ?_)
   refine q_loadS (fun _ l => l) Tryz.isAgg31 F rfl rfl h85 (fun a v87 b88 h89 s90 F => ?_)
   refine q_val F rfl (fun w l => r_bfield fa194_0 F rfl rfl) (fun a F => ?_)
   refine q_val F rfl (fun w l => r_load1 Tryz.isAgg2 F rfl (((K12.thru l).cell _).trans rfl)) (fun a F => ?_)
   obtain ⟨z91, c92, hR⟩ := bnd_some hR
   refine q_index Tryz.underlying31 Tryz.sizeOf142 F rfl rfl rfl h89 c92 (fun a p93 b94 h95 s96 F => ?_)
   refine q_field (s' := 1) fa142_0 F rfl rfl h95 RRel.f0 (fun a p97 b98 h99 s100 F => ?_)
   have i101 := (h99).i64
   refine q_val F rfl (fun w l => r_loadI Tryz.isAgg2 F rfl ((h99).go l)) (fun a F => ?_)
   obtain ⟨z102, c103, hR⟩ := bnd_some hR
   refine q_says F rfl Tryz.call187 rfl (fun w w' h l => l.through h) (fun w l => impl_areValues_c z102 c103 w i82 (h17.go l) i101) (fun a F => ?_)
   refine q_val F rfl (fun w l => r_not F rfl) (fun a F => ?_)
   refine q_val F rfl (fun w l => r_pickf F rfl rfl) (fun a F => ?_)
   refine q_val F rfl (fun w l => r_assign F rfl) (fun a F => ?_)
   refine q_end (fun w l => ?_)
   replace hB := Below.through l hB
   refine x_tn ?_
   exact ⟨(!z102), (Option.some.inj hR).symm, F.sub (sc rfl sn), hB⟩
 ·
  intro a w ⟨s63, ho62, F, hB⟩
  subst ho62
  have hR := then_nx hk61
  refine x_tn ?_
  refine x_ret ?_
  refine x_res1 F rfl (rv_t F rfl) ?_
  obtain rfl := Option.some.inj hR
  exact ⟨rfl, hB⟩

def slices_IndexFunc_s_Con_Con (x0 : List Con) (x1 : Con → Option Bool) : Option Int :=
 thn (σ := Unit) (
  forL (σ := Unit) (ρ := Int) (fun (k29 : Nat) (x31 : Con) (s : Unit) =>
    match s with
    | _ =>
    bnd (x1 x31) fun z43 =>
    if z43 then
     some (.ret ((k29 : Int)))
    else
     some (.go ())) x0 0 ()) fun _ =>
 some ((-1))
set_option maxHeartbeats 1000000 in
theorem slices_IndexFunc_s_Con_Con_c {x0 : List Con} {x1 : Con → Option Bool} (r : Int) (hR : slices_IndexFunc_s_Con_Con x0 x1 = some r) {v0 : Value} {b0 : List Nat} {g1 : FuncId} {lb1 : List Value} (w0 : World) (A0 : Rd (Sl 2 RCon) w0 v0 x0 b0) (hg1 : ∀ args w, (callFunc g1 args).run Tryz.prog w = .ok (.enter g1 args) w) (hp1 : ∀ (a0 : Con) (r : Bool), x1 a0 = some r → ∀ W, Below w0.heap.size w0 W → ∀ (u0 : Value) (c0 : List Nat), Rd (Agg 2 RCon) W u0 a0 c0 → Calls Tryz.prog g1 ([u0] ++ lb1 : List Value).toArray W (Says (.bool r) W)) : Calls Tryz.prog 235 #[v0, .func (.func g1) #[] lb1.toArray] w0 (SaysI r w0) := by
 unfold slices_IndexFunc_s_Con_Con at hR
 refine x_enter (L := [(0, v0), (1, .func (.func g1) #[] lb1.toArray)]) Tryz.func235 rfl rfl rfl (sc rfl (sc rfl sn)) (fun a F => ?_)
 have hB := Below.refl w0.heap.size w0
 refine x_seq ?_
 refine x_reg ?_
 refine o_assign F rfl rfl (fun a F => ?_)
 refine x_end ?_
 refine x_tn ?_
 refine x_seq ?_
 refine x_seq ?_
 refine x_reg ?_
 refine o_move F rfl rfl (fun a F => ?_)
 refine o_len Tryz.underlying49 F rfl rfl (A0.go hB) (fun a F => ?_)
 have i11 := ((A0.go hB)).r.len64
 refine o_move F rfl rfl (fun a F => ?_)
 refine x_end ?_
 refine x_tn ?_
 obtain ⟨o23, hR, hk24⟩ := thn_some hR
 refine x_cutQ (fun a w => o23 = .nx () ∧ Sk a 19 [] ∧ Below w0.heap.size w0 w) ?_ ?_
 ·
  refine x_blk ?_
  obtain ⟨fl27, hf28, hR⟩ := forL_gen hR
  refine x_loop (fun g a w => ∃ (k29 : Nat) (rest30 : List Con), (k29 ≤ x0.length ∧ x0.drop k29 = rest30) ∧ rest30.length = g ∧ forL fl27 rest30 k29 () = some o23 ∧ Sk a 19 [(8, .int .i64 (k29 : Int)), (0, v0), (1, .func (.func g1) #[] lb1.toArray), (7, .int .i64 (x0.length : Int))] ∧ Below w0.heap.size w0 w) x0.length ?_ ?_
  ·
   exact ⟨0, x0, ⟨Nat.zero_le _, rfl⟩, rfl, hR, F.sub (sc rfl (sc rfl (sc rfl (sc rfl sn)))), hB⟩
  ·
   intro g32 a w ⟨k29, rest30, hd33, hg34, hR, F, hB⟩
   cases rest30 with
   | nil =>
    replace hR := forL_nil hR
    have hkk29 := drop_nil hd33.1 hd33.2
    have hlk29 := dec_no hkk29
    refine x_seq ?_
    refine x_reg ?_
    refine o_lss F rfl rfl rfl (fun a F => ?_)
    refine x_end ?_
    refine x_tn ?_
    refine x_seq ?_
    refine x_ifF F rfl hlk29 ?_
    refine x_exit ?_
    refine x_te ?_
    refine x_te ?_
    refine x_be ?_
    refine x_tn ?_
    exact ⟨(Option.some.inj hR).symm, F.sub sn, hB⟩
   | cons x31 rest30 =>
    subst hg34
    replace hd33 := drop_cons hd33.2
    have hxk29 := ix_nat hd33.2.1
    obtain ⟨ck29, hR, hn26⟩ := forL_cons hR
    rw [hf28] at hR
    have hlk29 := dec_yes hd33.1
    refine x_seq ?_
    refine x_reg ?_
    refine o_lss F rfl rfl rfl (fun a F => ?_)
    refine x_end ?_
    refine x_tn ?_
    refine x_seq ?_
    refine x_ifT F rfl hlk29 ?_
    refine x_skip ?_
    refine x_tn ?_
    refine x_seq ?_
    have ikk29 := k64 (Nat.le_of_lt hd33.1) i11
    have ink29 := inc64 hd33.1 i11
    refine x_blk ?_
    refine x_seq ?_
    refine x_reg ?_
    refine o_move F rfl rfl (fun a F => ?_)
    refine o_assign F rfl rfl (fun a F => ?_)
    refine x_end ?_
    refine x_tn ?_
    refine x_seq ?_
    refine x_reg ?_
    refine o_move F rfl rfl (fun a F => ?_)
    refine o_move F rfl rfl (fun a F => ?_)
    refine o_move F rfl rfl (fun a F => ?_)
    refine o_index Tryz.underlying49 Tryz.sizeOf194 F rfl rfl rfl (A0.go hB) hxk29 (fun a p35 b36 h37 s38 F => ?_)
    refine o_loadA Tryz.isAgg194 Tryz.sizeOf194 F rfl rfl h37 (fun a v39 b40 h41 s42 F => ?_)
    obtain ⟨z43, c44, hR⟩ := bnd_some hR
    refine o_saysV F rfl rfl hg1 rfl (hp1 _ z43 c44 _ hB _ _ h41) (fun a w l F => ?_)
    replace hB := Below.through l hB
    refine x_end ?_
    refine x_tn ?_
    refine x_if F rfl (fun hb45 => ?_) (fun hb45 => ?_)
    ·
     replace hR := ifT hb45 hR
     refine x_seq ?_
     refine x_reg ?_
     refine o_move F rfl rfl (fun a F => ?_)
     refine o_assign F rfl rfl (fun a F => ?_)
     refine x_end ?_
     refine x_tn ?_
     refine x_ret ?_
     refine x_br ?_
     refine x_tr ?_
     refine x_tr ?_
     replace hR := l_ret hR hn26
     refine x_br ?_
     refine x_tr ?_
     replace hR := j_ret hR hk24
     refine x_tr ?_
     refine x_res1 F rfl (rv_t F rfl) ?_
     obtain rfl := Option.some.inj hR
     exact ⟨⟨rfl, hB⟩, ikk29⟩
    ·
     replace hR := ifF hb45 hR
     refine x_skip ?_
     refine x_bn ?_
     refine x_tn ?_
     refine x_reg ?_
     refine o_inc F rfl rfl rfl ink29 (fun a F => ?_)
     refine o_move F rfl rfl (fun a F => ?_)
     refine x_end ?_
     refine x_tn ?_
     replace hR := l_go hR hn26
     exact ⟨_, Nat.lt_succ_self _, k29 + 1, rest30, ⟨hd33.1, hd33.2.2⟩, rfl, hR, F.sub (sc rfl (sc rfl (sc rfl (sc rfl sn)))), hB⟩
 ·
  intro a w ⟨ho25, F, hB⟩
  subst ho25
  have hR := then_nx hk24
  refine x_tn ?_
  refine x_seq ?_
  refine x_reg ?_
  refine o_assign F rfl rfl (fun a F => ?_)
  refine x_end ?_
  refine x_tn ?_
  refine x_ret ?_
  refine x_res1 F rfl (rv_t F rfl) ?_
  obtain rfl := Option.some.inj hR
  exact ⟨⟨rfl, hB⟩, (show I64 (-1) by decide)⟩

def slices_ContainsFunc_s_Con_Con (x0 : List Con) (x1 : Con → Option Bool) : Option Bool :=
 bnd (slices_IndexFunc_s_Con_Con x0 x1) fun z11 =>
 some ((decide (0 ≤ z11)))
set_option maxHeartbeats 1000000 in
theorem slices_ContainsFunc_s_Con_Con_c {x0 : List Con} {x1 : Con → Option Bool} (r : Bool) (hR : slices_ContainsFunc_s_Con_Con x0 x1 = some r) {v0 : Value} {b0 : List Nat} {g1 : FuncId} {lb1 : List Value} (w0 : World) (A0 : Rd (Sl 2 RCon) w0 v0 x0 b0) (hg1 : ∀ args w, (callFunc g1 args).run Tryz.prog w = .ok (.enter g1 args) w) (hp1 : ∀ (a0 : Con) (r : Bool), x1 a0 = some r → ∀ W, Below w0.heap.size w0 W → ∀ (u0 : Value) (c0 : List Nat), Rd (Agg 2 RCon) W u0 a0 c0 → Calls Tryz.prog g1 ([u0] ++ lb1 : List Value).toArray W (Says (.bool r) W)) : Calls Tryz.prog 185 #[v0, .func (.func g1) #[] lb1.toArray] w0 (Says (.bool r) w0) := by
 unfold slices_ContainsFunc_s_Con_Con at hR
 refine x_enter (L := [(0, v0), (1, .func (.func g1) #[] lb1.toArray)]) Tryz.func185 rfl rfl rfl (sc rfl (sc rfl sn)) (fun a F => ?_)
 have hB := Below.refl w0.heap.size w0
 refine x_seq ?_
 refine x_reg ?_
 refine o_assign F rfl rfl (fun a F => ?_)
 refine x_end ?_
 refine x_tn ?_
 refine x_seq ?_
 refine x_reg ?_
 refine o_move F rfl rfl (fun a F => ?_)
 refine o_move F rfl rfl (fun a F => ?_)
 obtain ⟨z11, c12, hR⟩ := bnd_some hR
 refine o_saysI F rfl Tryz.call235 rfl (slices_IndexFunc_s_Con_Con_c z11 c12 _ (A0.go hB) hg1 (fun a0 r h W l => hp1 a0 r h W (hB.through' l))) (fun a w l iz11 F => ?_)
 replace hB := Below.through l hB
 refine o_geq F rfl rfl rfl (fun a F => ?_)
 refine o_assign F rfl rfl (fun a F => ?_)
 refine x_end ?_
 refine x_tn ?_
 refine x_ret ?_
 refine x_res1 F rfl (rv_t F rfl) ?_
 obtain rfl := Option.some.inj hR
 exact ⟨rfl, hB⟩

def impl_ValidInstance (x0 : Template) (x1 : Instance) : Option Bool :=
 thn (σ := Bool) (
  bnd (impl_ValidTemplate (Template.mk x0.size x0.rels)) fun z47 =>
  if z47 then  bnd (impl_isVars x1.vars) fun z50 =>
   if z50 then  if (decide ((x1.cons.length : Int) ≤ 24)) then  bnd (slices_ContainsFunc_s_Con_Con x1.cons (fun a0 => impl_ValidInstance_1 a0 (Template.mk x0.size x0.rels) (Instance.mk x1.vars x1.cons))) fun z55 =>
     some (.nx (!z55)) else  some (.nx false) else  some (.nx false) else  some (.nx false)) fun s45 =>
 some s45
set_option maxHeartbeats 1000000 in
theorem impl_ValidInstance_c {x0 : Template} {x1 : Instance} (r : Bool) (hR : impl_ValidInstance x0 x1 = some r) {v0 : Value} {b0 : List Nat} {v1 : Value} {b1 : List Nat} (w0 : World) (A0 : Rd (Agg 2 RTemplate) w0 v0 x0 b0) (A1 : Rd (Agg 2 RInstance) w0 v1 x1 b1) : Calls Tryz.prog 129 #[v0, v1] w0 (Says (.bool r) w0) := by
 unfold impl_ValidInstance at hR
 refine x_enter (L := [(0, v0), (1, v1)]) Tryz.func129 rfl rfl rfl (sc rfl (sc rfl sn)) (fun a F => ?_)
 have hB := Below.refl w0.heap.size w0
 refine x_seq ?_
 refine x_reg ?_
 obtain ⟨v15, b16, e18, i14, h17, eb13⟩ := RTemplate.rd (A0.go hB)
 subst e18
 refine o_box F rfl rfl rfl (fun a w b11 K12 l BK12 F => ?_)
 have d19 := (dj1 h17.m BK12).symm
 have CK12 := Nat.le_trans hB.size BK12
 replace hB := Below.through l hB
 replace h17 := h17.go l
 obtain ⟨v24, b25, e27, i23, h26, eb22⟩ := RInstance.rd (A1.go hB)
 subst e27
 refine o_box F rfl rfl rfl (fun a w b20 K21 l BK21 F => ?_)
 have nb28 := Dj.bb K12 BK21
 have d29 := (dj1 h17.m BK21).symm
 have d30 := (dj1 h26.m BK21).symm
 have CK21 := Nat.le_trans hB.size BK21
 replace hB := Below.through l hB
 replace h17 := h17.go l
 replace h26 := h26.go l
 replace K12 := K12.thru l
 refine o_assign F rfl rfl (fun a F => ?_)
 refine x_end ?_
 refine x_tn ?_
 refine x_seq ?_
 obtain ⟨o42, hR, hk43⟩ := thn_some hR
 refine x_cutQ (fun a w => ∃ (s45 : Bool), o42 = .nx s45 ∧ Sk a 25 [(4, .bool s45)] ∧ Below w0.heap.size w0 w) ?_ ?_
 ·
  refine x_reg ?_
  refine o_bloadA (cs := [.int .i64 x0.size, v15]) Tryz.isAgg33 Tryz.sizeOf33 F rfl rfl K12 rfl (fun j hj => by match j, hj with | 0, _ => rfl | 1, _ => rfl) (fun a F => ?_)
  have h46 := RTemplate.mk2 (w := w) i14 h17
  obtain ⟨z47, c48, hR⟩ := bnd_some hR
  refine o_says F rfl Tryz.call144 rfl (impl_ValidTemplate_c z47 c48 _ h46) (fun a w l F => ?_)
  replace hB := Below.through l hB
  replace h17 := h17.go l
  replace h26 := h26.go l
  replace K12 := K12.thru l
  replace K21 := K21.thru l
  refine o_move F rfl rfl (fun a F => ?_)
  rcases bcases z47 with hb49 | hb49
  ·
   replace hR := ifT hb49 hR
   have F := F.eq (t := 7) rfl (congrArg Value.bool hb49)
   refine o_bfield fa51_0 F rfl rfl rfl (fun a F => ?_)
   refine o_bload Tryz.isAgg2 F rfl rfl K21 rfl (fun a F => ?_)
   obtain ⟨z50, c51, hR⟩ := bnd_some hR
   refine o_says F rfl Tryz.call184 rfl (impl_isVars_c z50 c51 _ i23) (fun a w l F => ?_)
   replace hB := Below.through l hB
   replace h17 := h17.go l
   replace h26 := h26.go l
   replace K12 := K12.thru l
   replace K21 := K21.thru l
   refine o_pickt F rfl rfl rfl (fun a F => ?_)
   refine o_move F rfl rfl (fun a F => ?_)
   rcases bcases z50 with hb52 | hb52
   ·
    replace hR := ifT hb52 hR
    have F := F.eq (t := 12) rfl (congrArg Value.bool hb52)
    refine o_bfield fa51_1 F rfl rfl rfl (fun a F => ?_)
    refine o_bload Tryz.isAgg49 F rfl rfl K21 rfl (fun a F => ?_)
    refine o_len Tryz.underlying49 F rfl rfl h26 (fun a F => ?_)
    have i53 := (h26).r.len64
    refine o_leq F rfl rfl rfl (fun a F => ?_)
    refine o_pickt F rfl rfl rfl (fun a F => ?_)
    refine o_move F rfl rfl (fun a F => ?_)
    rcases bcases (decide ((x1.cons.length : Int) ≤ 24)) with hb54 | hb54
    ·
     replace hR := ifT hb54 hR
     have F := F.eq (t := 18) rfl (congrArg Value.bool hb54)
     refine o_bfield fa51_1 F rfl rfl rfl (fun a F => ?_)
     refine o_bload Tryz.isAgg49 F rfl rfl K21 rfl (fun a F => ?_)
     refine o_func F rfl rfl rfl (fun a F => ?_)
     obtain ⟨z55, c56, hR⟩ := bnd_some hR
     refine o_says F rfl Tryz.call185 rfl (slices_ContainsFunc_s_Con_Con_c z55 c56 _ h26 Tryz.call186 (fun a0 r h W l u0 c0 f0 => impl_ValidInstance_1_c r h W f0 ((RTemplate.blk K12 i14 h17).go l) ((RInstance.blk K21 i23 h26).go l))) (fun a w l F => ?_)
     replace hB := Below.through l hB
     refine o_not F rfl rfl (fun a F => ?_)
     refine o_pickt F rfl rfl rfl (fun a F => ?_)
     refine o_assign F rfl rfl (fun a F => ?_)
     refine x_end ?_
     refine x_tn ?_
     exact ⟨(!z55), (Option.some.inj hR).symm, F.sub (sc rfl sn), hB⟩
    ·
     replace hR := ifF hb54 hR
     have F := F.eq (t := 18) rfl (congrArg Value.bool hb54)
     refine o_no F rfl rfl (fun a F => ?_)
     refine o_no F rfl rfl (fun a F => ?_)
     refine o_no F rfl rfl (fun a F => ?_)
     refine o_no F rfl rfl (fun a F => ?_)
     refine o_no F rfl rfl (fun a F => ?_)
     refine o_pickf F rfl rfl rfl (fun a F => ?_)
     refine o_assign F rfl rfl (fun a F => ?_)
     refine x_end ?_
     refine x_tn ?_
     exact ⟨false, (Option.some.inj hR).symm, F.sub (sc rfl sn), hB⟩
   ·
    replace hR := ifF hb52 hR
    have F := F.eq (t := 12) rfl (congrArg Value.bool hb52)
    refine o_no F rfl rfl (fun a F => ?_)
    refine o_no F rfl rfl (fun a F => ?_)
    refine o_no F rfl rfl (fun a F => ?_)
    refine o_no F rfl rfl (fun a F => ?_)
    refine o_pickf F rfl rfl rfl (fun a F => ?_)
    refine o_move F rfl rfl (fun a F => ?_)
    refine o_no F rfl rfl (fun a F => ?_)
    refine o_no F rfl rfl (fun a F => ?_)
    refine o_no F rfl rfl (fun a F => ?_)
    refine o_no F rfl rfl (fun a F => ?_)
    refine o_no F rfl rfl (fun a F => ?_)
    refine o_pickf F rfl rfl rfl (fun a F => ?_)
    refine o_assign F rfl rfl (fun a F => ?_)
    refine x_end ?_
    refine x_tn ?_
    exact ⟨false, (Option.some.inj hR).symm, F.sub (sc rfl sn), hB⟩
  ·
   replace hR := ifF hb49 hR
   have F := F.eq (t := 7) rfl (congrArg Value.bool hb49)
   refine o_no F rfl rfl (fun a F => ?_)
   refine o_no F rfl rfl (fun a F => ?_)
   refine o_no F rfl rfl (fun a F => ?_)
   refine o_pickf F rfl rfl rfl (fun a F => ?_)
   refine o_move F rfl rfl (fun a F => ?_)
   refine o_no F rfl rfl (fun a F => ?_)
   refine o_no F rfl rfl (fun a F => ?_)
   refine o_no F rfl rfl (fun a F => ?_)
   refine o_no F rfl rfl (fun a F => ?_)
   refine o_pickf F rfl rfl rfl (fun a F => ?_)
   refine o_move F rfl rfl (fun a F => ?_)
   refine o_no F rfl rfl (fun a F => ?_)
   refine o_no F rfl rfl (fun a F => ?_)
   refine o_no F rfl rfl (fun a F => ?_)
   refine o_no F rfl rfl (fun a F => ?_)
   refine o_no F rfl rfl (fun a F => ?_)
   refine o_pickf F rfl rfl rfl (fun a F => ?_)
   refine o_assign F rfl rfl (fun a F => ?_)
   refine x_end ?_
   refine x_tn ?_
   exact ⟨false, (Option.some.inj hR).symm, F.sub (sc rfl sn), hB⟩
 ·
  intro a w ⟨s45, ho44, F, hB⟩
  subst ho44
  have hR := then_nx hk43
  refine x_tn ?_
  refine x_ret ?_
  refine x_res1 F rfl (rv_t F rfl) ?_
  obtain rfl := Option.some.inj hR
  exact ⟨rfl, hB⟩

def impl_budgetFault (x0 : Template) (x1 : Instance) (x2 : Int) : Option Int :=
 bnd (impl_ValidInstance (Template.mk x0.size x0.rels) (Instance.mk x1.vars x1.cons)) fun z33 =>
 if (!z33) then
  some 1
 else
  bnd (impl_within x2 0 5000) fun z36 =>
  if (!z36) then
   some 2
  else
   some 0
set_option maxHeartbeats 1000000 in
theorem impl_budgetFault_c {x0 : Template} {x1 : Instance} {x2 : Int} (r : Int) (hR : impl_budgetFault x0 x1 x2 = some r) {v0 : Value} {b0 : List Nat} {v1 : Value} {b1 : List Nat} (w0 : World) (A0 : Rd (Agg 2 RTemplate) w0 v0 x0 b0) (A1 : Rd (Agg 2 RInstance) w0 v1 x1 b1) (hx2 : I64 x2) : Calls Tryz.prog 86 #[v0, v1, .int .i64 x2] w0 (SaysI r w0) := by
 unfold impl_budgetFault at hR
 refine x_enter (L := [(0, v0), (1, v1), (2, .int .i64 x2)]) Tryz.func86 rfl rfl rfl (sc rfl (sc rfl (sc rfl sn))) (fun a F => ?_)
 have hB := Below.refl w0.heap.size w0
 refine x_seq ?_
 refine x_reg ?_
 obtain ⟨v15, b16, e18, i14, h17, eb13⟩ := RTemplate.rd (A0.go hB)
 subst e18
 refine o_box F rfl rfl rfl (fun a w b11 K12 l BK12 F => ?_)
 have d19 := (dj1 h17.m BK12).symm
 have CK12 := Nat.le_trans hB.size BK12
 replace hB := Below.through l hB
 replace h17 := h17.go l
 obtain ⟨v24, b25, e27, i23, h26, eb22⟩ := RInstance.rd (A1.go hB)
 subst e27
 refine o_box F rfl rfl rfl (fun a w b20 K21 l BK21 F => ?_)
 have nb28 := Dj.bb K12 BK21
 have d29 := (dj1 h17.m BK21).symm
 have d30 := (dj1 h26.m BK21).symm
 have CK21 := Nat.le_trans hB.size BK21
 replace hB := Below.through l hB
 replace h17 := h17.go l
 replace h26 := h26.go l
 replace K12 := K12.thru l
 refine o_assign F rfl rfl (fun a F => ?_)
 refine x_end ?_
 refine x_tn ?_
 refine x_seq ?_
 refine x_blk ?_
 refine x_seq ?_
 refine x_reg ?_
 refine o_bloadA (cs := [.int .i64 x0.size, v15]) Tryz.isAgg33 Tryz.sizeOf33 F rfl rfl K12 rfl (fun j hj => by match j, hj with | 0, _ => rfl | 1, _ => rfl) (fun a F => ?_)
 have h31 := RTemplate.mk2 (w := w) i14 h17
 refine o_bloadA (cs := [.int .i64 x1.vars, v24]) Tryz.isAgg51 Tryz.sizeOf51 F rfl rfl K21 rfl (fun j hj => by match j, hj with | 0, _ => rfl | 1, _ => rfl) (fun a F => ?_)
 have h32 := RInstance.mk2 (w := w) i23 h26
 obtain ⟨z33, c34, hR⟩ := bnd_some hR
 refine o_says F rfl Tryz.call129 rfl (impl_ValidInstance_c z33 c34 _ h31 h32) (fun a w l F => ?_)
 replace hB := Below.through l hB
 refine o_not F rfl rfl (fun a F => ?_)
 refine o_assign F rfl rfl (fun a F => ?_)
 refine x_end ?_
 refine x_tn ?_
 refine x_if F rfl (fun hb35 => ?_) (fun hb35 => ?_)
 ·
  replace hR := ifT hb35 hR
  refine x_seq ?_
  refine x_reg ?_
  refine o_assign F rfl rfl (fun a F => ?_)
  refine x_end ?_
  refine x_tn ?_
  refine x_ret ?_
  refine x_br ?_
  refine x_tr ?_
  refine x_res1 F rfl (rv_t F rfl) ?_
  obtain rfl := Option.some.inj hR
  exact ⟨⟨rfl, hB⟩, (show I64 (1) by decide)⟩
 ·
  replace hR := ifF hb35 hR
  refine x_seq ?_
  refine x_reg ?_
  refine o_move F rfl rfl (fun a F => ?_)
  obtain ⟨z36, c37, hR⟩ := bnd_some hR
  refine o_says F rfl Tryz.call155 rfl (impl_within_c z36 c37 _ hx2 (show I64 (0) by decide) (show I64 (5000) by decide)) (fun a w l F => ?_)
  replace hB := Below.through l hB
  refine o_not F rfl rfl (fun a F => ?_)
  refine o_assign F rfl rfl (fun a F => ?_)
  refine x_end ?_
  refine x_tn ?_
  refine x_if F rfl (fun hb38 => ?_) (fun hb38 => ?_)
  ·
   replace hR := ifT hb38 hR
   refine x_seq ?_
   refine x_reg ?_
   refine o_assign F rfl rfl (fun a F => ?_)
   refine x_end ?_
   refine x_tn ?_
   refine x_ret ?_
   refine x_br ?_
   refine x_tr ?_
   refine x_res1 F rfl (rv_t F rfl) ?_
   obtain rfl := Option.some.inj hR
   exact ⟨⟨rfl, hB⟩, (show I64 (2) by decide)⟩
  ·
   replace hR := ifF hb38 hR
   refine x_skip ?_
   refine x_bn ?_
   refine x_tn ?_
   refine x_seq ?_
   refine x_reg ?_
   refine o_assign F rfl rfl (fun a F => ?_)
   refine x_end ?_
   refine x_tn ?_
   refine x_ret ?_
   refine x_res1 F rfl (rv_t F rfl) ?_
   obtain rfl := Option.some.inj hR
   exact ⟨⟨rfl, hB⟩, (show I64 (0) by decide)⟩

def impl_fullDomains (x0 : Template) (x1 : Instance) : Option (List (List Int)) :=
 thn (σ := (List (List Int))) (
  forI (σ := (List (List Int))) (ρ := (List (List Int))) (fun (k143 : Nat) (s127 : (List (List Int))) =>
   bnd (impl_upTo 0 x0.size) fun z149 =>
   bnd (ap s127 ([z149])) fun z173 =>
   some (.go z173)) x1.vars.toNat 0 []) fun s136 =>
 some s136
set_option maxHeartbeats 1000000 in
theorem impl_fullDomains_c {x0 : Template} {x1 : Instance} (r : (List (List Int))) (hR : impl_fullDomains x0 x1 = some r) {v0 : Value} {b0 : List Nat} {v1 : Value} {b1 : List Nat} (w0 : World) (A0 : Rd (Agg 2 RTemplate) w0 v0 x0 b0) (A1 : Rd (Agg 2 RInstance) w0 v1 x1 b1) : Calls Tryz.prog 88 #[v0, v1] w0 (Gives (fun v w' => ∃ (v1' : Value) (rb2' : List Nat) (ib3' : List Nat), v = v1' ∧ Row 1 (RSl 1 RInt) 46 w0.heap.size w' v1' r rb2' ib3' ∧ Own w0.heap.size ib3' w') w0) := by
 unfold impl_fullDomains at hR
 refine x_enter (L := [(0, v0), (1, v1)]) Tryz.func88 rfl rfl rfl (sc rfl (sc rfl sn)) (fun a F => ?_)
 have hB := Below.refl w0.heap.size w0
 refine x_seq ?_
 refine x_reg ?_
 obtain ⟨v15, b16, e18, i14, h17, eb13⟩ := RTemplate.rd (A0.go hB)
 subst e18
 refine o_box F rfl rfl rfl (fun a w b11 K12 l BK12 F => ?_)
 have d19 := (dj1 h17.m BK12).symm
 have CK12 := Nat.le_trans hB.size BK12
 replace hB := Below.through l hB
 replace h17 := h17.go l
 obtain ⟨v24, b25, e27, i23, h26, eb22⟩ := RInstance.rd (A1.go hB)
 subst e27
 refine o_box F rfl rfl rfl (fun a w b20 K21 l BK21 F => ?_)
 have nb28 := Dj.bb K12 BK21
 have d29 := (dj1 h17.m BK21).symm
 have d30 := (dj1 h26.m BK21).symm
 have CK21 := Nat.le_trans hB.size BK21
 replace hB := Below.through l hB
 replace h17 := h17.go l
 replace h26 := h26.go l
 replace K12 := K12.thru l
 refine o_assign F rfl rfl (fun a F => ?_)
 refine x_end ?_
 refine x_tn ?_
 refine x_seq ?_
 refine x_reg ?_
 refine o_lit0 (R := (RSl 1 RInt)) Tryz.underlying72 Tryz.sizeOf46 F rfl (fun a w v31 rb32 h33 l F => ?_)
 have d35 := Dj.new h17.m h33.ownR (Nat.le_refl _)
 have d36 := Dj.new h26.m h33.ownR (Nat.le_refl _)
 have d37 := Dj.new (inm1 K12) h33.ownR (Nat.le_refl _)
 have d38 := Dj.new (inm1 K21) h33.ownR (Nat.le_refl _)
 replace h33 := h33.base hB.size
 replace hB := Below.through l hB
 replace h17 := h17.go l
 replace h26 := h26.go l
 replace K12 := K12.thru l
 replace K21 := K21.thru l
 refine o_assign F rfl rfl (fun a F => ?_)
 refine x_end ?_
 refine x_tn ?_
 refine x_seq ?_
 refine x_seq ?_
 refine x_reg ?_
 refine o_bfield fa51_0 F rfl rfl rfl (fun a F => ?_)
 refine o_bload Tryz.isAgg2 F rfl rfl K21 rfl (fun a F => ?_)
 refine o_move F rfl rfl (fun a F => ?_)
 refine x_end ?_
 refine x_tn ?_
 obtain ⟨o121, hR, hk122⟩ := thn_some hR
 refine x_cutQ (fun a w => ∃ (s136 : List (List Int)) (v139 : Value) (rb140 : List Nat) (ib141 : List Nat), o121 = .nx s136 ∧ Sk a 19 [(5, v139)] ∧ Below w0.heap.size w0 w ∧ Row 1 (RSl 1 RInt) 46 w0.heap.size w v139 s136 rb140 ib141 ∧ Own w0.heap.size ib141 w) ?_ ?_
 ·
  refine x_blk ?_
  obtain ⟨fl125, hf126, hR⟩ := forI_gen hR
  refine x_loop (fun g a w => ∃ (k143 : Nat) (s127 : List (List Int)) (v130 : Value) (rb131 : List Nat) (ib132 : List Nat), k143 + g = x1.vars.toNat ∧ forI fl125 g k143 s127 = some o121 ∧ Sk a 19 [(9, .int .i64 (k143 : Int)), (2, .pointer (some ⟨b11, 0, none⟩)), (5, v130), (8, .int .i64 x1.vars)] ∧ Below w0.heap.size w0 w ∧ Row 1 (RSl 1 RInt) 46 w0.heap.size w v130 s127 rb131 ib132 ∧ Own w0.heap.size ib132 w ∧ Rd (Sl 2 RRel) w v15 x0.rels b16 ∧ Blk w b11 #[.int .i64 x0.size, v15] 33 ∧ Dj b16 rb131 ∧ Dj (rb131 ++ ib132) [b11]) x1.vars.toNat ?_ ?_
  ·
   exact ⟨0, [], v31, rb32, [], (Nat.zero_add _), hR, F.sub (sc rfl (sc rfl (sc rfl (sc rfl sn)))), hB, h33, (Own.nil _ _), h17, K12, d35, (Dj.app' (Dj.symm d37) (Dj.nil' _))⟩
  ·
   intro g146 a w ⟨k143, s127, v130, rb131, ib132, hd147, hR, F, hB, h129, ow133, h17, K12, d134, d135⟩
   cases g146 with
   | zero =>
    replace hR := forI_zero hR
    have hlk143 := dec_noI hd147
    refine x_seq ?_
    refine x_reg ?_
    refine o_lss F rfl rfl rfl (fun a F => ?_)
    refine x_end ?_
    refine x_tn ?_
    refine x_seq ?_
    refine x_ifF F rfl hlk143 ?_
    refine x_exit ?_
    refine x_te ?_
    refine x_te ?_
    refine x_be ?_
    refine x_tn ?_
    exact ⟨s127, v130, rb131, ib132, (Option.some.inj hR).symm, F.sub (sc rfl sn), hB, h129, ow133⟩
   | succ g146 =>
    obtain ⟨ck143, hR, hn124⟩ := forI_succ hR
    rw [hf126] at hR
    have hlk143 := dec_yesI hd147
    refine x_seq ?_
    refine x_reg ?_
    refine o_lss F rfl rfl rfl (fun a F => ?_)
    refine x_end ?_
    refine x_tn ?_
    refine x_seq ?_
    refine x_ifT F rfl hlk143 ?_
    refine x_skip ?_
    refine x_tn ?_
    refine x_seq ?_
    have ikk143 := k64I hd147 i23
    have ink143 := inc64I hd147 i23
    refine x_blk ?_
    refine x_reg ?_
    refine o_move F rfl rfl (fun a F => ?_)
    refine o_bfield fa33_0 F rfl rfl rfl (fun a F => ?_)
    refine o_bload Tryz.isAgg2 F rfl rfl K12 rfl (fun a F => ?_)
    obtain ⟨z149, c150, hR⟩ := bnd_some hR
    refine o_gives F rfl Tryz.call113 rfl (impl_upTo_c z149 c150 _ (show I64 (0) by decide) i14) (fun a vv w l ⟨v151, rb152, hv155, h154⟩ F => ?_)
    subst vv
    have d157 := Dj.new h17.m h154.ownR (Nat.le_refl _)
    have d158 := Dj.new h129.rd.m h154.ownR (Nat.le_refl _)
    have d159 := Dj.new (inm1 K12) h154.ownR (Nat.le_refl _)
    have d160 := Dj.app' (Dj.new h129.memR h154.ownR (Nat.le_refl _)).symm (Dj.nil' _)
    have d161 := Dj.app' (Dj.new h129.mem h154.ownR (Nat.le_refl _)).symm (Dj.nil' _)
    replace h154 := h154.base hB.size
    replace hB := Below.through l hB
    replace h17 := h17.go l
    replace h129 := h129.go l
    replace ow133 := ow133.go l
    replace K12 := K12.thru l
    refine o_lit1 (R := (RSl 1 RInt)) (y := z149) Tryz.underlying72 Tryz.sizeOf46 Tryz.zeroValue46 rfl (by decide) (by decide) F rfl rfl (El.sl h154.rd) (fun a w v162 rb163 h164 l F => ?_)
    have ow165 := Own.go (h154.own (Own.nil _ _)) l
    have d167 := Dj.new h17.m h164.ownR (Nat.le_refl _)
    have d168 := Dj.new h129.rd.m h164.ownR (Nat.le_refl _)
    have d169 := Dj.new (inm1 K12) h164.ownR (Nat.le_refl _)
    have d170 := Dj.app' (Dj.new h129.memR h164.ownR (Nat.le_refl _)).symm d160
    have d171 := Dj.app' (Dj.new h129.mem h164.ownR (Nat.le_refl _)).symm d161
    have d172 := Dj.app' (Dj.symm d169) (Dj.app' (Dj.symm d159) (Dj.nil' _))
    replace h164 := h164.base hB.size
    replace hB := Below.through l hB
    replace h17 := h17.go l
    replace h129 := h129.go l
    replace ow133 := ow133.go l
    replace K12 := K12.thru l
    obtain ⟨z173, c174, hR⟩ := bnd_some hR
    refine o_append (sz := 1) (R := (RSl 1 RInt)) (z := ((.slice none 0 0))) (bytes := 24) Tryz.underlying72 (by kernel_rfl) rfl (by decide) (by decide) (by decide) F rfl rfl rfl h129 h164.src hB.size (Dj.symm d170.r) c174 (fun a w v175 rb176 h177 l keep F => ?_)
    have ow178 := Own.append (Own.goO ow133 l h129.dj.symm) (Own.goO ow165 l (Dj.symm (Dj.symm d170.r))) (Dj.symm d171.r)
    have d180 := keep _ h17.m d134
    have d181 := keep _ (inm1 K12) (Dj.symm (Dj.l d135))
    replace hB := hB.o l h129.lo hB.size
    replace h17 := h17.goO l d134
    replace K12 := K12.only l (Dj.symm (Dj.l d135)).not
    have d182 := Dj.app' (Dj.symm d181) (Dj.app' (Dj.r d135) (Dj.r d172))
    refine o_assign F rfl rfl (fun a F => ?_)
    refine x_end ?_
    refine x_bn ?_
    refine x_tn ?_
    refine x_reg ?_
    refine o_inc F rfl rfl rfl ink143 (fun a F => ?_)
    refine o_move F rfl rfl (fun a F => ?_)
    refine x_end ?_
    refine x_tn ?_
    replace hR := l_go hR hn124
    exact ⟨_, Nat.lt_succ_self _, k143 + 1, z173, v175, rb176, (ib132 ++ (rb152 ++ [])), (by omega), hR, F.sub (sc rfl (sc rfl (sc rfl (sc rfl sn)))), hB, h177, ow178, h17, K12, d180, d182⟩
 ·
  intro a w ⟨s136, v139, rb140, ib141, ho123, F, hB, h138, ow142⟩
  subst ho123
  have hR := then_nx hk122
  refine x_tn ?_
  refine x_seq ?_
  refine x_reg ?_
  refine o_move F rfl rfl (fun a F => ?_)
  refine o_assign F rfl rfl (fun a F => ?_)
  refine x_end ?_
  refine x_tn ?_
  refine x_ret ?_
  refine x_res1 F rfl (rv_t F rfl) ?_
  obtain rfl := Option.some.inj hR
  exact ⟨_, rfl, hB, v139, rb140, ib141, rfl, h138, ow142⟩

def impl_isEmpty (x0 : List Int) : Option Bool :=
 some (((x0.length : Int) == 0))
set_option maxHeartbeats 1000000 in
theorem impl_isEmpty_c {x0 : List Int} (r : Bool) (hR : impl_isEmpty x0 = some r) {v0 : Value} {b0 : List Nat} (w0 : World) (A0 : Rd (Sl 1 RInt) w0 v0 x0 b0) : Calls Tryz.prog 222 #[v0] w0 (Says (.bool r) w0) := by
 unfold impl_isEmpty at hR
 refine x_enter (L := [(0, v0)]) Tryz.func222 rfl rfl rfl (sc rfl sn) (fun a F => ?_)
 have hB := Below.refl w0.heap.size w0
 refine x_seq ?_
 refine x_reg ?_
 refine o_assign F rfl rfl (fun a F => ?_)
 refine x_end ?_
 refine x_tn ?_
 refine x_seq ?_
 refine x_reg ?_
 refine o_move F rfl rfl (fun a F => ?_)
 refine o_len Tryz.underlying46 F rfl rfl (A0.go hB) (fun a F => ?_)
 have i11 := ((A0.go hB)).r.len64
 refine o_eql F rfl rfl rfl (fun a F => ?_)
 refine o_assign F rfl rfl (fun a F => ?_)
 refine x_end ?_
 refine x_tn ?_
 refine x_ret ?_
 refine x_res1 F rfl (rv_t F rfl) ?_
 obtain rfl := Option.some.inj hR
 exact ⟨rfl, hB⟩

def impl_searcher_arcs_1 (y0 : (List (List Int))) : Option Bool :=
 bnd (slices_ContainsFunc_s_s_int64_s_int64 y0 (fun a0 => impl_isEmpty a0)) fun z15 =>
 some z15
set_option maxHeartbeats 1000000 in
theorem impl_searcher_arcs_1_c {y0 : (List (List Int))} (r : Bool) (hR : impl_searcher_arcs_1 y0 = some r) {v0 : Value} {b0 : List Nat} (w0 : World) (A0 : Rd (Pt 1 (RSl 1 (RSl 1 RInt))) w0 v0 y0 b0) : Calls Tryz.prog 251 #[v0] w0 (Says (.bool r) w0) := by
 unfold impl_searcher_arcs_1 at hR
 refine x_enter (L := [(0, v0)]) Tryz.func251 rfl rfl rfl (sc rfl sn) (fun a F => ?_)
 have hB := Below.refl w0.heap.size w0
 refine x_seq ?_
 refine x_reg ?_
 refine o_assign F rfl rfl (fun a F => ?_)
 refine x_end ?_
 refine x_tn ?_
 refine x_seq ?_
 refine x_reg ?_
 refine o_loadS Tryz.isAgg72 F rfl rfl (A0.go hB) (fun a v11 b12 h13 s14 F => ?_)
 obtain ⟨z15, c16, hR⟩ := bnd_some hR
 refine o_says F rfl Tryz.call252 rfl (slices_ContainsFunc_s_s_int64_s_int64_c z15 c16 _ h13 Tryz.call222 (fun a0 r h W l u0 c0 f0 => impl_isEmpty_c r h W f0)) (fun a w l F => ?_)
 replace hB := Below.through l hB
 refine o_assign F rfl rfl (fun a F => ?_)
 refine x_end ?_
 refine x_tn ?_
 refine x_ret ?_
 refine x_res1 F rfl (rv_t F rfl) ?_
 obtain rfl := Option.some.inj hR
 exact ⟨rfl, hB⟩

def impl_Con_agrees (x0 : Con) (x1 : List Int) : Option Bool :=
 thn (σ := Unit) (
  forL (σ := Unit) (ρ := Bool) (fun (k134 : Nat) (x136 : Int) (s : Unit) =>
    match s with
    | _ =>
    thn (σ := Unit) (
     forI (σ := Unit) (ρ := (Ctl (Unit) Bool)) (fun (k200 : Nat) (s : Unit) =>
       match s with
       | _ =>
       thn (σ := Bool) (
        bnd (ix x0.scope (k200 : Int)) fun z232 =>
        if (z232 == x136) then  bnd (ix x1 (k200 : Int)) fun z240 =>
         bnd (ix x1 (k134 : Int)) fun z247 =>
         some (.nx (z240 != z247)) else  some (.nx false)) fun s231 =>
       if s231 then
        some (.ret (.ret false))
       else
        some (.go ())) (k134 : Int).toNat 0 ()) fun _ =>
    some (.go ())) x0.scope 0 ()) fun _ =>
 some true
set_option maxHeartbeats 1000000 in
theorem impl_Con_agrees_c {x0 : Con} {x1 : List Int} (r : Bool) (hR : impl_Con_agrees x0 x1 = some r) {v0 : Value} {b0 : List Nat} {v1 : Value} {b1 : List Nat} (w0 : World) (A0 : Rd (Agg 2 RCon) w0 v0 x0 b0) (A1 : Rd (Sl 1 RInt) w0 v1 x1 b1) : Calls Tryz.prog 271 #[v0, v1] w0 (Says (.bool r) w0) := by
 unfold impl_Con_agrees at hR
 refine x_enter (L := [(0, v0), (1, v1)]) Tryz.func271 rfl rfl rfl (sc rfl (sc rfl sn)) (fun a F => ?_)
 have hB := Below.refl w0.heap.size w0
 refine x_seq ?_
 refine x_reg ?_
 obtain ⟨v15, b16, e18, i14, h17, eb13⟩ := RCon.rd (A0.go hB)
 subst e18
 refine o_box F rfl rfl rfl (fun a w b11 K12 l BK12 F => ?_)
 have d19 := (dj1 h17.m BK12).symm
 have CK12 := Nat.le_trans hB.size BK12
 replace hB := Below.through l hB
 replace h17 := h17.go l
 refine o_assign F rfl rfl (fun a F => ?_)
 refine x_end ?_
 refine x_tn ?_
 refine x_seq ?_
 refine x_seq ?_
 refine x_reg ?_
 refine o_bfield fa194_1 F rfl rfl rfl (fun a F => ?_)
 refine o_bload Tryz.isAgg46 F rfl rfl K12 rfl (fun a F => ?_)
 refine o_len Tryz.underlying46 F rfl rfl h17 (fun a F => ?_)
 have i20 := (h17).r.len64
 refine o_move F rfl rfl (fun a F => ?_)
 refine x_end ?_
 refine x_tn ?_
 obtain ⟨o128, hR, hk129⟩ := thn_some hR
 refine x_cutQ (fun a w => o128 = .nx () ∧ Sk a 40 [] ∧ Below w0.heap.size w0 w) ?_ ?_
 ·
  refine x_blk ?_
  obtain ⟨fl132, hf133, hR⟩ := forL_gen hR
  refine x_loop (fun g a w => ∃ (k134 : Nat) (rest135 : List Int), (k134 ≤ x0.scope.length ∧ x0.scope.drop k134 = rest135) ∧ rest135.length = g ∧ forL fl132 rest135 k134 () = some o128 ∧ Sk a 40 [(11, .int .i64 (k134 : Int)), (1, v1), (2, .pointer (some ⟨b11, 0, none⟩)), (9, v15), (10, .int .i64 (x0.scope.length : Int))] ∧ Below w0.heap.size w0 w ∧ Rd (Sl 1 RInt) w v15 x0.scope b16 ∧ Blk w b11 #[.int .i64 x0.rel, v15] 194) x0.scope.length ?_ ?_
  ·
   exact ⟨0, x0.scope, ⟨Nat.zero_le _, rfl⟩, rfl, hR, F.sub (sc rfl (sc rfl (sc rfl (sc rfl (sc rfl sn))))), hB, h17, K12⟩
  ·
   intro g137 a w ⟨k134, rest135, hd138, hg139, hR, F, hB, h17, K12⟩
   cases rest135 with
   | nil =>
    replace hR := forL_nil hR
    have hkk134 := drop_nil hd138.1 hd138.2
    have hlk134 := dec_no hkk134
    refine x_seq ?_
    refine x_reg ?_
    refine o_lss F rfl rfl rfl (fun a F => ?_)
    refine x_end ?_
    refine x_tn ?_
    refine x_seq ?_
    refine x_ifF F rfl hlk134 ?_
    refine x_exit ?_
    refine x_te ?_
    refine x_te ?_
    refine x_be ?_
    refine x_tn ?_
    exact ⟨(Option.some.inj hR).symm, F.sub sn, hB⟩
   | cons x136 rest135 =>
    subst hg139
    replace hd138 := drop_cons hd138.2
    have hxk134 := ix_nat hd138.2.1
    obtain ⟨ck134, hR, hn131⟩ := forL_cons hR
    rw [hf133] at hR
    have hlk134 := dec_yes hd138.1
    refine x_seq ?_
    refine x_reg ?_
    refine o_lss F rfl rfl rfl (fun a F => ?_)
    refine x_end ?_
    refine x_tn ?_
    refine x_seq ?_
    refine x_ifT F rfl hlk134 ?_
    refine x_skip ?_
    refine x_tn ?_
    refine x_seq ?_
    have ikk134 := k64 (Nat.le_of_lt hd138.1) i20
    have ink134 := inc64 hd138.1 i20
    refine x_blk ?_
    refine x_seq ?_
    refine x_reg ?_
    refine o_move F rfl rfl (fun a F => ?_)
    refine o_index Tryz.underlying46 Tryz.sizeOf2 F rfl rfl rfl h17 hxk134 (fun a p140 b141 h142 s143 F => ?_)
    have i144 := (h142).i64
    refine o_loadI Tryz.isAgg2 F rfl rfl h142 (fun a F => ?_)
    refine o_assign F rfl rfl (fun a F => ?_)
    refine o_assign F rfl rfl (fun a F => ?_)
    refine x_end ?_
    refine x_tn ?_
    refine x_seq ?_
    refine x_reg ?_
    refine o_move F rfl rfl (fun a F => ?_)
    refine o_move F rfl rfl (fun a F => ?_)
    refine x_end ?_
    refine x_tn ?_
    obtain ⟨o194, hR, hk195⟩ := thn_some hR
    refine x_cutQ (fun a w => o194 = .nx () ∧ Sk a 40 [(1, v1), (2, .pointer (some ⟨b11, 0, none⟩)), (9, v15), (10, .int .i64 (x0.scope.length : Int)), (11, .int .i64 (k134 : Int))] ∧ Below w0.heap.size w0 w ∧ Rd (Sl 1 RInt) w v15 x0.scope b16 ∧ Blk w b11 #[.int .i64 x0.rel, v15] 194) ?_ ?_
    ·
     refine x_blk ?_
     obtain ⟨fl198, hf199, hR⟩ := forI_gen hR
     refine x_loop (fun g a w => ∃ (k200 : Nat), k200 + g = (k134 : Int).toNat ∧ forI fl198 g k200 () = some o194 ∧ Sk a 40 [(17, .int .i64 (k200 : Int)), (1, v1), (2, .pointer (some ⟨b11, 0, none⟩)), (5, .int .i64 (k134 : Int)), (6, .int .i64 x136), (9, v15), (10, .int .i64 (x0.scope.length : Int)), (11, .int .i64 (k134 : Int)), (16, .int .i64 (k134 : Int))] ∧ Below w0.heap.size w0 w ∧ Rd (Sl 1 RInt) w v15 x0.scope b16 ∧ Blk w b11 #[.int .i64 x0.rel, v15] 194) (k134 : Int).toNat ?_ ?_
     ·
      exact ⟨0, (Nat.zero_add _), hR, F.sub (sc rfl (sc rfl (sc rfl (sc rfl (sc rfl (sc rfl (sc rfl (sc rfl (sc rfl sn))))))))), hB, h17, K12⟩
     ·
      intro g203 a w ⟨k200, hd204, hR, F, hB, h17, K12⟩
      cases g203 with
      | zero =>
       replace hR := forI_zero hR
       have hlk200 := dec_noI hd204
       refine x_seq ?_
       refine x_reg ?_
       refine o_lss F rfl rfl rfl (fun a F => ?_)
       refine x_end ?_
       refine x_tn ?_
       refine x_seq ?_
       refine x_ifF F rfl hlk200 ?_
       refine x_exit ?_
       refine x_te ?_
       refine x_te ?_
       refine x_be ?_
       refine x_tn ?_
       exact ⟨(Option.some.inj hR).symm, F.sub (sc rfl (sc rfl (sc rfl (sc rfl (sc rfl sn))))), hB, h17, K12⟩
      | succ g203 =>
       obtain ⟨ck200, hR, hn197⟩ := forI_succ hR
       rw [hf199] at hR
       have hlk200 := dec_yesI hd204
       refine x_seq ?_
       refine x_reg ?_
       refine o_lss F rfl rfl rfl (fun a F => ?_)
       refine x_end ?_
       refine x_tn ?_
       refine x_seq ?_
       refine x_ifT F rfl hlk200 ?_
       refine x_skip ?_
       refine x_tn ?_
       refine x_seq ?_
       have ikk200 := k64I hd204 ikk134
       have ink200 := inc64I hd204 ikk134
       refine x_blk ?_
       refine x_seq ?_
       refine x_reg ?_
       refine o_move F rfl rfl (fun a F => ?_)
       refine o_assign F rfl rfl (fun a F => ?_)
       refine x_end ?_
       refine x_tn ?_
       refine x_seq ?_
       obtain ⟨o228, hR, hk229⟩ := thn_some hR
       refine x_cutQ (fun a w => ∃ (s231 : Bool), o228 = .nx s231 ∧ Sk a 40 [(1, v1), (2, .pointer (some ⟨b11, 0, none⟩)), (5, .int .i64 (k134 : Int)), (6, .int .i64 x136), (9, v15), (10, .int .i64 (x0.scope.length : Int)), (11, .int .i64 (k134 : Int)), (16, .int .i64 (k134 : Int)), (17, .int .i64 (k200 : Int)), (37, .bool s231)] ∧ Below w0.heap.size w0 w ∧ Rd (Sl 1 RInt) w v15 x0.scope b16 ∧ Blk w b11 #[.int .i64 x0.rel, v15] 194) ?_ ?_
       ·
        refine x_draw (by kernel_rfl) (by kernel_rfl) ?_
        refine q_val F rfl (fun w l => r_bfield fa194_1 F rfl rfl) (fun a F => ?_)
        refine q_val F rfl (fun w l => r_load1 Tryz.isAgg46 F rfl (((K12.thru l).cell _).trans rfl)) (fun a F => ?_)
        refine q_val F rfl (fun w l => r_move F rfl) (fun a F => ?_)
        obtain ⟨z232, c233, hR⟩ := bnd_some hR
        refine q_index Tryz.underlying46 Tryz.sizeOf2 F rfl rfl rfl h17 c233 (fun a p234 b235 h236 s237 F => ?_)
        have i238 := (h236).i64
        refine q_val F rfl (fun w l => r_loadI Tryz.isAgg2 F rfl ((h236).go l)) (fun a F => ?_)
        refine q_val F rfl (fun w l => r_move F rfl) (fun a F => ?_)
        refine q_val F rfl (fun w l => r_eql F rfl rfl) (fun a F => ?_)
        refine q_val F rfl (fun w l => r_move F rfl) (fun a F => ?_)
        rcases bcases (z232 == x136) with hb239 | hb239
        ·
         replace hR := ifT hb239 hR
         have F := F.eq (t := 27) rfl (congrArg Value.bool hb239)
         refine q_val F rfl (fun w l => r_move F rfl) (fun a F => ?_)
         refine q_val F rfl (fun w l => r_move F rfl) (fun a F => ?_)
         obtain ⟨z240, c241, hR⟩ := bnd_some hR
         refine q_index Tryz.underlying46 Tryz.sizeOf2 F rfl rfl rfl (A1.go hB) c241 (fun a p242 b243 h244 s245 F => ?_)
         have i246 := (h244).i64
         refine q_val F rfl (fun w l => r_loadI Tryz.isAgg2 F rfl ((h244).go l)) (fun a F => ?_)
         refine q_val F rfl (fun w l => r_move F rfl) (fun a F => ?_)
         refine q_val F rfl (fun w l => r_move F rfl) (fun a F => ?_)
         obtain ⟨z247, c248, hR⟩ := bnd_some hR
         refine q_index Tryz.underlying46 Tryz.sizeOf2 F rfl rfl rfl (A1.go hB) c248 (fun a p249 b250 h251 s252 F => ?_)
         have i253 := (h251).i64
         refine q_val F rfl (fun w l => r_loadI Tryz.isAgg2 F rfl ((h251).go l)) (fun a F => ?_)
         refine q_val F rfl (fun w l => r_neq F rfl rfl) (fun a F => ?_)
         refine q_val F rfl (fun w l => r_pickt F rfl rfl) (fun a F => ?_)
         refine q_end (fun w l => ?_)
         replace hB := Below.through l hB
         replace h17 := h17.go l
         replace K12 := K12.thru l
         refine x_tn ?_
         exact ⟨(z240 != z247), (Option.some.inj hR).symm, F.sub (sc rfl (sc rfl (sc rfl (sc rfl (sc rfl (sc rfl (sc rfl (sc rfl (sc rfl (sc rfl sn)))))))))), hB, h17, K12⟩
        ·
         replace hR := ifF hb239 hR
         have F := F.eq (t := 27) rfl (congrArg Value.bool hb239)
         refine q_no F rfl rfl (fun a F => ?_)
         refine q_no F rfl rfl (fun a F => ?_)
         refine q_no F rfl rfl (fun a F => ?_)
         refine q_no F rfl rfl (fun a F => ?_)
         refine q_no F rfl rfl (fun a F => ?_)
         refine q_no F rfl rfl (fun a F => ?_)
         refine q_no F rfl rfl (fun a F => ?_)
         refine q_no F rfl rfl (fun a F => ?_)
         refine q_no F rfl rfl (fun a F => ?_)
         refine q_val F rfl (fun w l => r_pickf F rfl rfl) (fun a F => ?_)
         refine q_end (fun w l => ?_)
         replace hB := Below.through l hB
         replace h17 := h17.go l
         replace K12 := K12.thru l
         refine x_tn ?_
         exact ⟨false, (Option.some.inj hR).symm, F.sub (sc rfl (sc rfl (sc rfl (sc rfl (sc rfl (sc rfl (sc rfl (sc rfl (sc rfl (sc rfl sn)))))))))), hB, h17, K12⟩
       ·
        intro a w ⟨s231, ho230, F, hB, h17, K12⟩
        subst ho230
        have hR := then_nx hk229
        refine x_tn ?_
        refine x_if F rfl (fun hb254 => ?_) (fun hb254 => ?_)
        ·
         replace hR := ifT hb254 hR
         refine x_seq ?_
         refine x_reg ?_
         refine o_assign F rfl rfl (fun a F => ?_)
         refine x_end ?_
         refine x_tn ?_
         refine x_ret ?_
         refine x_br ?_
         refine x_tr ?_
         refine x_tr ?_
         replace hR := l_ret hR hn197
         refine x_br ?_
         refine x_tr ?_
         replace hR := j_ret hR hk195
         refine x_br ?_
         refine x_tr ?_
         refine x_tr ?_
         replace hR := l_ret hR hn131
         refine x_br ?_
         refine x_tr ?_
         replace hR := j_ret hR hk129
         refine x_tr ?_
         refine x_res1 F rfl (rv_t F rfl) ?_
         obtain rfl := Option.some.inj hR
         exact ⟨rfl, hB⟩
        ·
         replace hR := ifF hb254 hR
         refine x_skip ?_
         refine x_bn ?_
         refine x_tn ?_
         refine x_reg ?_
         refine o_inc F rfl rfl rfl ink200 (fun a F => ?_)
         refine o_move F rfl rfl (fun a F => ?_)
         refine x_end ?_
         refine x_tn ?_
         replace hR := l_go hR hn197
         exact ⟨_, Nat.lt_succ_self _, k200 + 1, (by omega), hR, F.sub (sc rfl (sc rfl (sc rfl (sc rfl (sc rfl (sc rfl (sc rfl (sc rfl (sc rfl sn))))))))), hB, h17, K12⟩
    ·
     intro a w ⟨ho196, F, hB, h17, K12⟩
     subst ho196
     have hR := then_nx hk195
     refine x_bn ?_
     refine x_tn ?_
     refine x_reg ?_
     refine o_inc F rfl rfl rfl ink134 (fun a F => ?_)
     refine o_move F rfl rfl (fun a F => ?_)
     refine x_end ?_
     refine x_tn ?_
     replace hR := l_go hR hn131
     exact ⟨_, Nat.lt_succ_self _, k134 + 1, rest135, ⟨hd138.1, hd138.2.2⟩, rfl, hR, F.sub (sc rfl (sc rfl (sc rfl (sc rfl (sc rfl sn))))), hB, h17, K12⟩
 ·
  intro a w ⟨ho130, F, hB⟩
  subst ho130
  have hR := then_nx hk129
  refine x_tn ?_
  refine x_seq ?_
  refine x_reg ?_
  refine o_assign F rfl rfl (fun a F => ?_)
  refine x_end ?_
  refine x_tn ?_
  refine x_ret ?_
  refine x_res1 F rfl (rv_t F rfl) ?_
  obtain rfl := Option.some.inj hR
  exact ⟨rfl, hB⟩

def slices_Index_s_int64_int64 (x0 : List Int) (x1 : Int) : Option Int :=
 thn (σ := Unit) (
  forL (σ := Unit) (ρ := Int) (fun (k24 : Nat) (x26 : Int) (s : Unit) =>
    match s with
    | _ =>
    if (x1 == x26) then
     some (.ret ((k24 : Int)))
    else
     some (.go ())) x0 0 ()) fun _ =>
 some ((-1))
set_option maxHeartbeats 1000000 in
theorem slices_Index_s_int64_int64_c {x0 : List Int} {x1 : Int} (r : Int) (hR : slices_Index_s_int64_int64 x0 x1 = some r) {v0 : Value} {b0 : List Nat} (w0 : World) (A0 : Rd (Sl 1 RInt) w0 v0 x0 b0) (hx1 : I64 x1) : Calls Tryz.prog 225 #[v0, .int .i64 x1] w0 (SaysI r w0) := by
 unfold slices_Index_s_int64_int64 at hR
 refine x_enter (L := [(0, v0), (1, .int .i64 x1)]) Tryz.func225 rfl rfl rfl (sc rfl (sc rfl sn)) (fun a F => ?_)
 have hB := Below.refl w0.heap.size w0
 refine x_seq ?_
 refine x_reg ?_
 refine o_assign F rfl rfl (fun a F => ?_)
 refine x_end ?_
 refine x_tn ?_
 refine x_seq ?_
 refine x_seq ?_
 refine x_reg ?_
 refine o_move F rfl rfl (fun a F => ?_)
 refine o_len Tryz.underlying46 F rfl rfl (A0.go hB) (fun a F => ?_)
 have i11 := ((A0.go hB)).r.len64
 refine o_move F rfl rfl (fun a F => ?_)
 refine x_end ?_
 refine x_tn ?_
 obtain ⟨o18, hR, hk19⟩ := thn_some hR
 refine x_cutQ (fun a w => o18 = .nx () ∧ Sk a 19 [] ∧ Below w0.heap.size w0 w) ?_ ?_
 ·
  refine x_blk ?_
  obtain ⟨fl22, hf23, hR⟩ := forL_gen hR
  refine x_loop (fun g a w => ∃ (k24 : Nat) (rest25 : List Int), (k24 ≤ x0.length ∧ x0.drop k24 = rest25) ∧ rest25.length = g ∧ forL fl22 rest25 k24 () = some o18 ∧ Sk a 19 [(8, .int .i64 (k24 : Int)), (0, v0), (1, .int .i64 x1), (7, .int .i64 (x0.length : Int))] ∧ Below w0.heap.size w0 w) x0.length ?_ ?_
  ·
   exact ⟨0, x0, ⟨Nat.zero_le _, rfl⟩, rfl, hR, F.sub (sc rfl (sc rfl (sc rfl (sc rfl sn)))), hB⟩
  ·
   intro g27 a w ⟨k24, rest25, hd28, hg29, hR, F, hB⟩
   cases rest25 with
   | nil =>
    replace hR := forL_nil hR
    have hkk24 := drop_nil hd28.1 hd28.2
    have hlk24 := dec_no hkk24
    refine x_seq ?_
    refine x_reg ?_
    refine o_lss F rfl rfl rfl (fun a F => ?_)
    refine x_end ?_
    refine x_tn ?_
    refine x_seq ?_
    refine x_ifF F rfl hlk24 ?_
    refine x_exit ?_
    refine x_te ?_
    refine x_te ?_
    refine x_be ?_
    refine x_tn ?_
    exact ⟨(Option.some.inj hR).symm, F.sub sn, hB⟩
   | cons x26 rest25 =>
    subst hg29
    replace hd28 := drop_cons hd28.2
    have hxk24 := ix_nat hd28.2.1
    obtain ⟨ck24, hR, hn21⟩ := forL_cons hR
    rw [hf23] at hR
    have hlk24 := dec_yes hd28.1
    refine x_seq ?_
    refine x_reg ?_
    refine o_lss F rfl rfl rfl (fun a F => ?_)
    refine x_end ?_
    refine x_tn ?_
    refine x_seq ?_
    refine x_ifT F rfl hlk24 ?_
    refine x_skip ?_
    refine x_tn ?_
    refine x_seq ?_
    have ikk24 := k64 (Nat.le_of_lt hd28.1) i11
    have ink24 := inc64 hd28.1 i11
    refine x_blk ?_
    refine x_seq ?_
    refine x_reg ?_
    refine o_move F rfl rfl (fun a F => ?_)
    refine o_assign F rfl rfl (fun a F => ?_)
    refine x_end ?_
    refine x_tn ?_
    refine x_seq ?_
    refine x_reg ?_
    refine o_move F rfl rfl (fun a F => ?_)
    refine o_move F rfl rfl (fun a F => ?_)
    refine o_move F rfl rfl (fun a F => ?_)
    refine o_index Tryz.underlying46 Tryz.sizeOf2 F rfl rfl rfl (A0.go hB) hxk24 (fun a p30 b31 h32 s33 F => ?_)
    have i34 := (h32).i64
    refine o_loadI Tryz.isAgg2 F rfl rfl h32 (fun a F => ?_)
    refine o_eql F rfl rfl rfl (fun a F => ?_)
    refine x_end ?_
    refine x_tn ?_
    refine x_if F rfl (fun hb35 => ?_) (fun hb35 => ?_)
    ·
     replace hR := ifT hb35 hR
     refine x_seq ?_
     refine x_reg ?_
     refine o_move F rfl rfl (fun a F => ?_)
     refine o_assign F rfl rfl (fun a F => ?_)
     refine x_end ?_
     refine x_tn ?_
     refine x_ret ?_
     refine x_br ?_
     refine x_tr ?_
     refine x_tr ?_
     replace hR := l_ret hR hn21
     refine x_br ?_
     refine x_tr ?_
     replace hR := j_ret hR hk19
     refine x_tr ?_
     refine x_res1 F rfl (rv_t F rfl) ?_
     obtain rfl := Option.some.inj hR
     exact ⟨⟨rfl, hB⟩, ikk24⟩
    ·
     replace hR := ifF hb35 hR
     refine x_skip ?_
     refine x_bn ?_
     refine x_tn ?_
     refine x_reg ?_
     refine o_inc F rfl rfl rfl ink24 (fun a F => ?_)
     refine o_move F rfl rfl (fun a F => ?_)
     refine x_end ?_
     refine x_tn ?_
     replace hR := l_go hR hn21
     exact ⟨_, Nat.lt_succ_self _, k24 + 1, rest25, ⟨hd28.1, hd28.2.2⟩, rfl, hR, F.sub (sc rfl (sc rfl (sc rfl (sc rfl sn)))), hB⟩
 ·
  intro a w ⟨ho20, F, hB⟩
  subst ho20
  have hR := then_nx hk19
  refine x_tn ?_
  refine x_seq ?_
  refine x_reg ?_
  refine o_assign F rfl rfl (fun a F => ?_)
  refine x_end ?_
  refine x_tn ?_
  refine x_ret ?_
  refine x_res1 F rfl (rv_t F rfl) ?_
  obtain rfl := Option.some.inj hR
  exact ⟨⟨rfl, hB⟩, (show I64 (-1) by decide)⟩

def slices_Contains_s_int64_int64 (x0 : List Int) (x1 : Int) : Option Bool :=
 bnd (slices_Index_s_int64_int64 x0 x1) fun z11 =>
 some ((decide (0 ≤ z11)))
set_option maxHeartbeats 1000000 in
theorem slices_Contains_s_int64_int64_c {x0 : List Int} {x1 : Int} (r : Bool) (hR : slices_Contains_s_int64_int64 x0 x1 = some r) {v0 : Value} {b0 : List Nat} (w0 : World) (A0 : Rd (Sl 1 RInt) w0 v0 x0 b0) (hx1 : I64 x1) : Calls Tryz.prog 162 #[v0, .int .i64 x1] w0 (Says (.bool r) w0) := by
 unfold slices_Contains_s_int64_int64 at hR
 refine x_enter (L := [(0, v0), (1, .int .i64 x1)]) Tryz.func162 rfl rfl rfl (sc rfl (sc rfl sn)) (fun a F => ?_)
 have hB := Below.refl w0.heap.size w0
 refine x_seq ?_
 refine x_reg ?_
 refine o_assign F rfl rfl (fun a F => ?_)
 refine x_end ?_
 refine x_tn ?_
 refine x_seq ?_
 refine x_reg ?_
 refine o_move F rfl rfl (fun a F => ?_)
 refine o_move F rfl rfl (fun a F => ?_)
 obtain ⟨z11, c12, hR⟩ := bnd_some hR
 refine o_saysI F rfl Tryz.call225 rfl (slices_Index_s_int64_int64_c z11 c12 _ (A0.go hB) hx1) (fun a w l iz11 F => ?_)
 replace hB := Below.through l hB
 refine o_geq F rfl rfl rfl (fun a F => ?_)
 refine o_assign F rfl rfl (fun a F => ?_)
 refine x_end ?_
 refine x_tn ?_
 refine x_ret ?_
 refine x_res1 F rfl (rv_t F rfl) ?_
 obtain rfl := Option.some.inj hR
 exact ⟨rfl, hB⟩

def impl_hasSupport_1 (x0 : List Int) (y0 : Int) (y1 : Int) (y2 : Con) (y3 : (List (List Int))) : Option Bool :=
 thn (σ := Bool) (
  bnd (ix x0 y0) fun z32 =>
  if (z32 != y1) then  some (.nx true) else  bnd (impl_Con_agrees y2 x0) fun z45 =>
   some (.nx (!z45))) fun s30 =>
 if s30 then
  some false
 else
  thn (σ := Unit) (
   forL (σ := Unit) (ρ := Bool) (fun (k92 : Nat) (x94 : Int) (s : Unit) =>
     match s with
     | _ =>
     bnd (ix y3 x94) fun z107 =>
     bnd (ix x0 (k92 : Int)) fun z117 =>
     bnd (slices_Contains_s_int64_int64 z107 z117) fun z124 =>
     if (!z124) then
      some (.ret false)
     else
      some (.go ())) y2.scope 0 ()) fun _ =>
  some true
set_option maxHeartbeats 1000000 in
theorem impl_hasSupport_1_c {x0 : List Int} {y0 : Int} {y1 : Int} {y2 : Con} {y3 : (List (List Int))} (r : Bool) (hR : impl_hasSupport_1 x0 y0 y1 y2 y3 = some r) {v0 : Value} {b0 : List Nat} {v1 : Value} {b1 : List Nat} {v2 : Value} {b2 : List Nat} {v3 : Value} {b3 : List Nat} {v4 : Value} {b4 : List Nat} (w0 : World) (A0 : Rd (Sl 1 RInt) w0 v0 x0 b0) (A1 : Rd (Pt 1 RInt) w0 v1 y0 b1) (A2 : Rd (Pt 1 RInt) w0 v2 y1 b2) (A3 : Rd (Pt 2 RCon) w0 v3 y2 b3) (A4 : Rd (Pt 1 (RSl 1 (RSl 1 RInt))) w0 v4 y3 b4) : Calls Tryz.prog 270 #[v0, v1, v2, v3, v4] w0 (Says (.bool r) w0) := by
 unfold impl_hasSupport_1 at hR
 refine x_enter (L := [(0, v0), (1, v1), (2, v2), (3, v3), (4, v4)]) Tryz.func270 rfl rfl rfl (sc rfl (sc rfl (sc rfl (sc rfl (sc rfl sn))))) (fun a F => ?_)
 have hB := Below.refl w0.heap.size w0
 refine x_seq ?_
 refine x_reg ?_
 refine o_assign F rfl rfl (fun a F => ?_)
 refine x_end ?_
 refine x_tn ?_
 refine x_seq ?_
 refine x_seq ?_
 obtain ⟨o27, hR, hk28⟩ := thn_some hR
 refine x_cutQ (fun a w => ∃ (s30 : Bool), o27 = .nx s30 ∧ Sk a 40 [(0, v0), (3, v3), (4, v4), (20, .bool s30)] ∧ Below w0.heap.size w0 w) ?_ ?_
 ·
  refine x_draw (by kernel_rfl) (by kernel_rfl) ?_
  refine q_val F rfl (fun w l => r_move F rfl) (fun a F => ?_)
  have i31 := ((A1.go hB)).i64
  refine q_val F rfl (fun w l => r_loadI Tryz.isAgg3 F rfl (((A1.go hB)).go l)) (fun a F => ?_)
  obtain ⟨z32, c33, hR⟩ := bnd_some hR
  refine q_index Tryz.underlying46 Tryz.sizeOf2 F rfl rfl rfl (A0.go hB) c33 (fun a p34 b35 h36 s37 F => ?_)
  have i38 := (h36).i64
  refine q_val F rfl (fun w l => r_loadI Tryz.isAgg2 F rfl ((h36).go l)) (fun a F => ?_)
  have i39 := ((A2.go hB)).i64
  refine q_val F rfl (fun w l => r_loadI Tryz.isAgg2 F rfl (((A2.go hB)).go l)) (fun a F => ?_)
  refine q_val F rfl (fun w l => r_neq F rfl rfl) (fun a F => ?_)
  refine q_val F rfl (fun w l => r_move F rfl) (fun a F => ?_)
  rcases bcases (z32 != y1) with hb40 | hb40
  ·
   replace hR := ifT hb40 hR
   have F := F.eq (t := 15) rfl (congrArg Value.bool hb40)
   refine q_no F rfl rfl (fun a F => ?_)
   refine q_no F rfl rfl (fun a F => ?_)
   refine q_no F rfl rfl (fun a F => ?_)
   refine q_no F rfl rfl (fun a F => ?_)
   refine q_val F rfl (fun w l => r_pickt F rfl rfl) (fun a F => ?_)
   refine q_end (fun w l => ?_)
   replace hB := Below.through l hB
   refine x_tn ?_
   exact ⟨true, (Option.some.inj hR).symm, F.sub (sc rfl (sc rfl (sc rfl (sc rfl sn)))), hB⟩
  ·
   replace hR := ifF hb40 hR
   have F := F.eq (t := 15) rfl (congrArg Value.bool hb40)
   refine q_loadA (fun _ l => l) Tryz.isAgg194 Tryz.sizeOf194 F rfl rfl (A3.go hB) (fun a v41 b42 h43 s44 F => ?_)
   refine q_val F rfl (fun w l => r_move F rfl) (fun a F => ?_)
   obtain ⟨z45, c46, hR⟩ := bnd_some hR
   refine q_says F rfl Tryz.call271 rfl (fun w w' h l => l.through h) (fun w l => impl_Con_agrees_c z45 c46 w (h43.go l) (((A0.go hB)).go l)) (fun a F => ?_)
   refine q_val F rfl (fun w l => r_not F rfl) (fun a F => ?_)
   refine q_val F rfl (fun w l => r_pickf F rfl rfl) (fun a F => ?_)
   refine q_end (fun w l => ?_)
   replace hB := Below.through l hB
   refine x_tn ?_
   exact ⟨(!z45), (Option.some.inj hR).symm, F.sub (sc rfl (sc rfl (sc rfl (sc rfl sn)))), hB⟩
 ·
  intro a w ⟨s30, ho29, F, hB⟩
  subst ho29
  have hR := then_nx hk28
  refine x_tn ?_
  refine x_if F rfl (fun hb47 => ?_) (fun hb47 => ?_)
  ·
   replace hR := ifT hb47 hR
   refine x_seq ?_
   refine x_reg ?_
   refine o_assign F rfl rfl (fun a F => ?_)
   refine x_end ?_
   refine x_tn ?_
   refine x_ret ?_
   refine x_tr ?_
   refine x_res1 F rfl (rv_t F rfl) ?_
   obtain rfl := Option.some.inj hR
   exact ⟨rfl, hB⟩
  ·
   replace hR := ifF hb47 hR
   refine x_skip ?_
   refine x_tn ?_
   refine x_seq ?_
   refine x_seq ?_
   refine x_reg ?_
   refine o_field (s' := 1) fa194_1 F rfl rfl (A3.go hB) RCon.f1 (fun a p48 b49 h50 s51 F => ?_)
   refine o_loadS Tryz.isAgg46 F rfl rfl h50 (fun a v52 b53 h54 s55 F => ?_)
   refine o_len Tryz.underlying46 F rfl rfl h54 (fun a F => ?_)
   have i56 := (h54).r.len64
   refine o_move F rfl rfl (fun a F => ?_)
   refine x_end ?_
   refine x_tn ?_
   obtain ⟨o86, hR, hk87⟩ := thn_some hR
   refine x_cutQ (fun a w => o86 = .nx () ∧ Sk a 40 [] ∧ Below w0.heap.size w0 w) ?_ ?_
   ·
    refine x_blk ?_
    obtain ⟨fl90, hf91, hR⟩ := forL_gen hR
    refine x_loop (fun g a w => ∃ (k92 : Nat) (rest93 : List Int), (k92 ≤ y2.scope.length ∧ y2.scope.drop k92 = rest93) ∧ rest93.length = g ∧ forL fl90 rest93 k92 () = some o86 ∧ Sk a 40 [(24, .int .i64 (k92 : Int)), (0, v0), (4, v4), (22, v52), (23, .int .i64 (y2.scope.length : Int))] ∧ Below w0.heap.size w0 w ∧ Rd (Sl 1 RInt) w v52 y2.scope b53) y2.scope.length ?_ ?_
    ·
     exact ⟨0, y2.scope, ⟨Nat.zero_le _, rfl⟩, rfl, hR, F.sub (sc rfl (sc rfl (sc rfl (sc rfl (sc rfl sn))))), hB, h54⟩
    ·
     intro g95 a w ⟨k92, rest93, hd96, hg97, hR, F, hB, h54⟩
     cases rest93 with
     | nil =>
      replace hR := forL_nil hR
      have hkk92 := drop_nil hd96.1 hd96.2
      have hlk92 := dec_no hkk92
      refine x_seq ?_
      refine x_reg ?_
      refine o_lss F rfl rfl rfl (fun a F => ?_)
      refine x_end ?_
      refine x_tn ?_
      refine x_seq ?_
      refine x_ifF F rfl hlk92 ?_
      refine x_exit ?_
      refine x_te ?_
      refine x_te ?_
      refine x_be ?_
      refine x_tn ?_
      exact ⟨(Option.some.inj hR).symm, F.sub sn, hB⟩
     | cons x94 rest93 =>
      subst hg97
      replace hd96 := drop_cons hd96.2
      have hxk92 := ix_nat hd96.2.1
      obtain ⟨ck92, hR, hn89⟩ := forL_cons hR
      rw [hf91] at hR
      have hlk92 := dec_yes hd96.1
      refine x_seq ?_
      refine x_reg ?_
      refine o_lss F rfl rfl rfl (fun a F => ?_)
      refine x_end ?_
      refine x_tn ?_
      refine x_seq ?_
      refine x_ifT F rfl hlk92 ?_
      refine x_skip ?_
      refine x_tn ?_
      refine x_seq ?_
      have ikk92 := k64 (Nat.le_of_lt hd96.1) i56
      have ink92 := inc64 hd96.1 i56
      refine x_blk ?_
      refine x_seq ?_
      refine x_reg ?_
      refine o_move F rfl rfl (fun a F => ?_)
      refine o_index Tryz.underlying46 Tryz.sizeOf2 F rfl rfl rfl h54 hxk92 (fun a p98 b99 h100 s101 F => ?_)
      have i102 := (h100).i64
      refine o_loadI Tryz.isAgg2 F rfl rfl h100 (fun a F => ?_)
      refine o_assign F rfl rfl (fun a F => ?_)
      refine o_assign F rfl rfl (fun a F => ?_)
      refine x_end ?_
      refine x_tn ?_
      refine x_seq ?_
      refine x_draw (by kernel_rfl) (by kernel_rfl) ?_
      refine q_loadS (fun _ l => l) Tryz.isAgg72 F rfl rfl (A4.go hB) (fun a v103 b104 h105 s106 F => ?_)
      refine q_val F rfl (fun w l => r_move F rfl) (fun a F => ?_)
      obtain ⟨z107, c108, hR⟩ := bnd_some hR
      refine q_index Tryz.underlying72 Tryz.sizeOf46 F rfl rfl rfl h105 c108 (fun a p109 b110 h111 s112 F => ?_)
      refine q_loadS (fun _ l => l) Tryz.isAgg46 F rfl rfl h111 (fun a v113 b114 h115 s116 F => ?_)
      refine q_val F rfl (fun w l => r_move F rfl) (fun a F => ?_)
      refine q_val F rfl (fun w l => r_move F rfl) (fun a F => ?_)
      obtain ⟨z117, c118, hR⟩ := bnd_some hR
      refine q_index Tryz.underlying46 Tryz.sizeOf2 F rfl rfl rfl (A0.go hB) c118 (fun a p119 b120 h121 s122 F => ?_)
      have i123 := (h121).i64
      refine q_val F rfl (fun w l => r_loadI Tryz.isAgg2 F rfl ((h121).go l)) (fun a F => ?_)
      obtain ⟨z124, c125, hR⟩ := bnd_some hR
      refine q_says F rfl Tryz.call162 rfl (fun w w' h l => l.through h) (fun w l => slices_Contains_s_int64_int64_c z124 c125 w (h115.go l) i123) (fun a F => ?_)
      refine q_val F rfl (fun w l => r_not F rfl) (fun a F => ?_)
      refine q_end (fun w l => ?_)
      replace hB := Below.through l hB
      replace h54 := h54.go l
      refine x_tn ?_
      refine x_if F rfl (fun hb126 => ?_) (fun hb126 => ?_)
      ·
       replace hR := ifT hb126 hR
       refine x_seq ?_
       refine x_reg ?_
       refine o_assign F rfl rfl (fun a F => ?_)
       refine x_end ?_
       refine x_tn ?_
       refine x_ret ?_
       refine x_br ?_
       refine x_tr ?_
       refine x_tr ?_
       replace hR := l_ret hR hn89
       refine x_br ?_
       refine x_tr ?_
       replace hR := j_ret hR hk87
       refine x_tr ?_
       refine x_res1 F rfl (rv_t F rfl) ?_
       obtain rfl := Option.some.inj hR
       exact ⟨rfl, hB⟩
      ·
       replace hR := ifF hb126 hR
       refine x_skip ?_
       refine x_bn ?_
       refine x_tn ?_
       refine x_reg ?_
       refine o_inc F rfl rfl rfl ink92 (fun a F => ?_)
       refine o_move F rfl rfl (fun a F => ?_)
       refine x_end ?_
       refine x_tn ?_
       replace hR := l_go hR hn89
       exact ⟨_, Nat.lt_succ_self _, k92 + 1, rest93, ⟨hd96.1, hd96.2.2⟩, rfl, hR, F.sub (sc rfl (sc rfl (sc rfl (sc rfl (sc rfl sn))))), hB, h54⟩
   ·
    intro a w ⟨ho88, F, hB⟩
    subst ho88
    have hR := then_nx hk87
    refine x_tn ?_
    refine x_seq ?_
    refine x_reg ?_
    refine o_assign F rfl rfl (fun a F => ?_)
    refine x_end ?_
    refine x_tn ?_
    refine x_ret ?_
    refine x_res1 F rfl (rv_t F rfl) ?_
    obtain rfl := Option.some.inj hR
    exact ⟨rfl, hB⟩

def impl_hasSupport (x0 : Template) (x1 : Con) (x2 : List (List Int)) (x3 : Int) (x4 : Int) : Option Bool :=
 bnd (ix x0.rels x1.rel) fun z52 =>
 bnd (slices_ContainsFunc_s_s_int64_s_int64 z52.tuples (fun a0 => impl_hasSupport_1 a0 x3 x4 (Con.mk x1.rel x1.scope) x2)) fun z66 =>
 some z66
set_option maxHeartbeats 1000000 in
theorem impl_hasSupport_c {x0 : Template} {x1 : Con} {x2 : List (List Int)} {x3 : Int} {x4 : Int} (r : Bool) (hR : impl_hasSupport x0 x1 x2 x3 x4 = some r) {v0 : Value} {b0 : List Nat} {v1 : Value} {b1 : List Nat} {v2 : Value} {b2 : List Nat} (w0 : World) (A0 : Rd (Agg 2 RTemplate) w0 v0 x0 b0) (A1 : Rd (Agg 2 RCon) w0 v1 x1 b1) (A2 : Rd (Sl 1 (RSl 1 RInt)) w0 v2 x2 b2) (hx3 : I64 x3) (hx4 : I64 x4) : Calls Tryz.prog 260 #[v0, v1, v2, .int .i64 x3, .int .i64 x4] w0 (Says (.bool r) w0) := by
 unfold impl_hasSupport at hR
 refine x_enter (L := [(0, v0), (1, v1), (2, v2), (3, .int .i64 x3), (4, .int .i64 x4)]) Tryz.func260 rfl rfl rfl (sc rfl (sc rfl (sc rfl (sc rfl (sc rfl sn))))) (fun a F => ?_)
 have hB := Below.refl w0.heap.size w0
 refine x_seq ?_
 refine x_reg ?_
 obtain ⟨v15, b16, e18, i14, h17, eb13⟩ := RTemplate.rd (A0.go hB)
 subst e18
 refine o_box F rfl rfl rfl (fun a w b11 K12 l BK12 F => ?_)
 have d19 := (dj1 h17.m BK12).symm
 have CK12 := Nat.le_trans hB.size BK12
 replace hB := Below.through l hB
 replace h17 := h17.go l
 obtain ⟨v24, b25, e27, i23, h26, eb22⟩ := RCon.rd (A1.go hB)
 subst e27
 refine o_box F rfl rfl rfl (fun a w b20 K21 l BK21 F => ?_)
 have nb28 := Dj.bb K12 BK21
 have d29 := (dj1 h17.m BK21).symm
 have d30 := (dj1 h26.m BK21).symm
 have CK21 := Nat.le_trans hB.size BK21
 replace hB := Below.through l hB
 replace h17 := h17.go l
 replace h26 := h26.go l
 replace K12 := K12.thru l
 refine o_box F rfl rfl (one_cells ((A2.go hB)).r.one) (fun a w b31 K32 l BK32 F => ?_)
 have nb33 := Dj.bb K12 BK32
 have nb34 := Dj.bb K21 BK32
 have d35 := (dj1 h17.m BK32).symm
 have d36 := (dj1 h26.m BK32).symm
 have CK32 := Nat.le_trans hB.size BK32
 replace hB := Below.through l hB
 replace h17 := h17.go l
 replace h26 := h26.go l
 replace K12 := K12.thru l
 replace K21 := K21.thru l
 refine o_box F rfl rfl rfl (fun a w b37 K38 l BK38 F => ?_)
 have nb39 := Dj.bb K12 BK38
 have nb40 := Dj.bb K21 BK38
 have nb41 := Dj.bb K32 BK38
 have d42 := (dj1 h17.m BK38).symm
 have d43 := (dj1 h26.m BK38).symm
 have CK38 := Nat.le_trans hB.size BK38
 replace hB := Below.through l hB
 replace h17 := h17.go l
 replace h26 := h26.go l
 replace K12 := K12.thru l
 replace K21 := K21.thru l
 replace K32 := K32.thru l
 refine o_box F rfl rfl rfl (fun a w b44 K45 l BK45 F => ?_)
 have nb46 := Dj.bb K12 BK45
 have nb47 := Dj.bb K21 BK45
 have nb48 := Dj.bb K32 BK45
 have nb49 := Dj.bb K38 BK45
 have d50 := (dj1 h17.m BK45).symm
 have d51 := (dj1 h26.m BK45).symm
 have CK45 := Nat.le_trans hB.size BK45
 replace hB := Below.through l hB
 replace h17 := h17.go l
 replace h26 := h26.go l
 replace K12 := K12.thru l
 replace K21 := K21.thru l
 replace K32 := K32.thru l
 replace K38 := K38.thru l
 refine o_assign F rfl rfl (fun a F => ?_)
 refine x_end ?_
 refine x_tn ?_
 refine x_seq ?_
 refine x_reg ?_
 refine o_bfield fa33_1 F rfl rfl rfl (fun a F => ?_)
 refine o_bload Tryz.isAgg31 F rfl rfl K12 rfl (fun a F => ?_)
 refine o_bfield fa194_0 F rfl rfl rfl (fun a F => ?_)
 refine o_bload Tryz.isAgg2 F rfl rfl K21 rfl (fun a F => ?_)
 obtain ⟨z52, c53, hR⟩ := bnd_some hR
 refine o_index Tryz.underlying31 Tryz.sizeOf142 F rfl rfl rfl h17 c53 (fun a p54 b55 h56 s57 F => ?_)
 refine o_field (s' := 1) fa142_1 F rfl rfl h56 RRel.f1 (fun a p58 b59 h60 s61 F => ?_)
 refine o_loadS Tryz.isAgg72 F rfl rfl h60 (fun a v62 b63 h64 s65 F => ?_)
 refine o_func F rfl rfl rfl (fun a F => ?_)
 obtain ⟨z66, c67, hR⟩ := bnd_some hR
 refine o_says F rfl Tryz.call252 rfl (slices_ContainsFunc_s_s_int64_s_int64_c z66 c67 _ h64 Tryz.call270 (fun a0 r h W l u0 c0 f0 => impl_hasSupport_1_c r h W f0 ((cell1I K38 hx3).go l) ((cell1I K45 hx4).go l) ((RCon.blk K21 i23 h26).go l) ((cell1S K32 (A2.go hB)).go l))) (fun a w l F => ?_)
 replace hB := Below.through l hB
 refine o_assign F rfl rfl (fun a F => ?_)
 refine x_end ?_
 refine x_tn ?_
 refine x_ret ?_
 refine x_res1 F rfl (rv_t F rfl) ?_
 obtain rfl := Option.some.inj hR
 exact ⟨rfl, hB⟩

def impl_branch (x0 : List (List Int)) : Option Int :=
 thn (σ := Int) (
  forL (σ := Int) (ρ := Int) (fun (k67 : Nat) (x69 : (List Int)) (s63 : Int) =>
   thn (σ := Bool) (
    if (decide (2 ≤ (x69.length : Int))) then  if (decide (s63 < 0)) then  some (.nx true) else  bnd (ix x0 s63) fun z104 =>
      some (.nx (decide ((x69.length : Int) < (z104.length : Int)))) else  some (.nx false)) fun s99 =>
   if s99 then
    some (.go (k67 : Int))
   else
    some (.go s63)) x0 0 (-1)) fun s65 =>
 some s65
set_option maxHeartbeats 1000000 in
theorem impl_branch_c {x0 : List (List Int)} (r : Int) (hR : impl_branch x0 = some r) {v0 : Value} {b0 : List Nat} (w0 : World) (A0 : Rd (Sl 1 (RSl 1 RInt)) w0 v0 x0 b0) : Calls Tryz.prog 223 #[v0] w0 (SaysI r w0) := by
 unfold impl_branch at hR
 refine x_enter (L := [(0, v0)]) Tryz.func223 rfl rfl rfl (sc rfl sn) (fun a F => ?_)
 have hB := Below.refl w0.heap.size w0
 refine x_seq ?_
 refine x_reg ?_
 refine o_assign F rfl rfl (fun a F => ?_)
 refine x_end ?_
 refine x_tn ?_
 refine x_seq ?_
 refine x_reg ?_
 refine o_assign F rfl rfl (fun a F => ?_)
 refine x_end ?_
 refine x_tn ?_
 refine x_seq ?_
 refine x_seq ?_
 refine x_reg ?_
 refine o_move F rfl rfl (fun a F => ?_)
 refine o_len Tryz.underlying72 F rfl rfl (A0.go hB) (fun a F => ?_)
 have i11 := ((A0.go hB)).r.len64
 refine o_move F rfl rfl (fun a F => ?_)
 refine x_end ?_
 refine x_tn ?_
 obtain ⟨o57, hR, hk58⟩ := thn_some hR
 refine x_cutQ (fun a w => ∃ (s65 : Int), o57 = .nx s65 ∧ Sk a 33 [(3, .int .i64 s65)] ∧ Below w0.heap.size w0 w ∧ I64 s65) ?_ ?_
 ·
  refine x_blk ?_
  obtain ⟨fl61, hf62, hR⟩ := forL_gen hR
  refine x_loop (fun g a w => ∃ (k67 : Nat) (rest68 : List (List Int)) (s63 : Int), (k67 ≤ x0.length ∧ x0.drop k67 = rest68) ∧ rest68.length = g ∧ forL fl61 rest68 k67 s63 = some o57 ∧ Sk a 33 [(8, .int .i64 (k67 : Int)), (0, v0), (3, .int .i64 s63), (6, v0), (7, .int .i64 (x0.length : Int))] ∧ Below w0.heap.size w0 w ∧ I64 s63) x0.length ?_ ?_
  ·
   exact ⟨0, x0, (-1), ⟨Nat.zero_le _, rfl⟩, rfl, hR, F.sub (sc rfl (sc rfl (sc rfl (sc rfl (sc rfl sn))))), hB, (show I64 (-1) by decide)⟩
  ·
   intro g70 a w ⟨k67, rest68, s63, hd71, hg72, hR, F, hB, i64⟩
   cases rest68 with
   | nil =>
    replace hR := forL_nil hR
    have hkk67 := drop_nil hd71.1 hd71.2
    have hlk67 := dec_no hkk67
    refine x_seq ?_
    refine x_reg ?_
    refine o_lss F rfl rfl rfl (fun a F => ?_)
    refine x_end ?_
    refine x_tn ?_
    refine x_seq ?_
    refine x_ifF F rfl hlk67 ?_
    refine x_exit ?_
    refine x_te ?_
    refine x_te ?_
    refine x_be ?_
    refine x_tn ?_
    exact ⟨s63, (Option.some.inj hR).symm, F.sub (sc rfl sn), hB, i64⟩
   | cons x69 rest68 =>
    subst hg72
    replace hd71 := drop_cons hd71.2
    have hxk67 := ix_nat hd71.2.1
    obtain ⟨ck67, hR, hn60⟩ := forL_cons hR
    rw [hf62] at hR
    have hlk67 := dec_yes hd71.1
    refine x_seq ?_
    refine x_reg ?_
    refine o_lss F rfl rfl rfl (fun a F => ?_)
    refine x_end ?_
    refine x_tn ?_
    refine x_seq ?_
    refine x_ifT F rfl hlk67 ?_
    refine x_skip ?_
    refine x_tn ?_
    refine x_seq ?_
    have ikk67 := k64 (Nat.le_of_lt hd71.1) i11
    have ink67 := inc64 hd71.1 i11
    refine x_blk ?_
    refine x_seq ?_
    refine x_reg ?_
    refine o_move F rfl rfl (fun a F => ?_)
    refine o_index Tryz.underlying72 Tryz.sizeOf46 F rfl rfl rfl (A0.go hB) hxk67 (fun a p73 b74 h75 s76 F => ?_)
    refine o_loadS Tryz.isAgg46 F rfl rfl h75 (fun a v77 b78 h79 s80 F => ?_)
    refine o_assign F rfl rfl (fun a F => ?_)
    refine o_assign F rfl rfl (fun a F => ?_)
    refine x_end ?_
    refine x_tn ?_
    refine x_seq ?_
    obtain ⟨o96, hR, hk97⟩ := thn_some hR
    refine x_cutQ (fun a w => ∃ (s99 : Bool), o96 = .nx s99 ∧ Sk a 33 [(0, v0), (3, .int .i64 s63), (4, .int .i64 (k67 : Int)), (6, v0), (7, .int .i64 (x0.length : Int)), (8, .int .i64 (k67 : Int)), (29, .bool s99)] ∧ Below w0.heap.size w0 w) ?_ ?_
    ·
     refine x_reg ?_
     refine o_move F rfl rfl (fun a F => ?_)
     refine o_len Tryz.underlying46 F rfl rfl h79 (fun a F => ?_)
     have i100 := (h79).r.len64
     refine o_geq F rfl rfl rfl (fun a F => ?_)
     refine o_move F rfl rfl (fun a F => ?_)
     rcases bcases (decide (2 ≤ (x69.length : Int))) with hb101 | hb101
     ·
      replace hR := ifT hb101 hR
      have F := F.eq (t := 16) rfl (congrArg Value.bool hb101)
      refine o_move F rfl rfl (fun a F => ?_)
      refine o_lss F rfl rfl rfl (fun a F => ?_)
      refine o_move F rfl rfl (fun a F => ?_)
      rcases bcases (decide (s63 < 0)) with hb102 | hb102
      ·
       replace hR := ifT hb102 hR
       have F := F.eq (t := 19) rfl (congrArg Value.bool hb102)
       refine o_no F rfl rfl (fun a F => ?_)
       refine o_no F rfl rfl (fun a F => ?_)
       refine o_no F rfl rfl (fun a F => ?_)
       refine o_no F rfl rfl (fun a F => ?_)
       refine o_no F rfl rfl (fun a F => ?_)
       refine o_no F rfl rfl (fun a F => ?_)
       refine o_no F rfl rfl (fun a F => ?_)
       refine o_no F rfl rfl (fun a F => ?_)
       refine o_pickt F rfl rfl rfl (fun a F => ?_)
       refine o_pickt F rfl rfl rfl (fun a F => ?_)
       refine x_end ?_
       refine x_tn ?_
       exact ⟨true, (Option.some.inj hR).symm, F.sub (sc rfl (sc rfl (sc rfl (sc rfl (sc rfl (sc rfl (sc rfl sn))))))), hB⟩
      ·
       replace hR := ifF hb102 hR
       have F := F.eq (t := 19) rfl (congrArg Value.bool hb102)
       refine o_move F rfl rfl (fun a F => ?_)
       refine o_len Tryz.underlying46 F rfl rfl h79 (fun a F => ?_)
       have i103 := (h79).r.len64
       refine o_move F rfl rfl (fun a F => ?_)
       refine o_move F rfl rfl (fun a F => ?_)
       obtain ⟨z104, c105, hR⟩ := bnd_some hR
       refine o_index Tryz.underlying72 Tryz.sizeOf46 F rfl rfl rfl (A0.go hB) c105 (fun a p106 b107 h108 s109 F => ?_)
       refine o_loadS Tryz.isAgg46 F rfl rfl h108 (fun a v110 b111 h112 s113 F => ?_)
       refine o_len Tryz.underlying46 F rfl rfl h112 (fun a F => ?_)
       have i114 := (h112).r.len64
       refine o_lss F rfl rfl rfl (fun a F => ?_)
       refine o_pickf F rfl rfl rfl (fun a F => ?_)
       refine o_pickt F rfl rfl rfl (fun a F => ?_)
       refine x_end ?_
       refine x_tn ?_
       exact ⟨(decide ((x69.length : Int) < (z104.length : Int))), (Option.some.inj hR).symm, F.sub (sc rfl (sc rfl (sc rfl (sc rfl (sc rfl (sc rfl (sc rfl sn))))))), hB⟩
     ·
      replace hR := ifF hb101 hR
      have F := F.eq (t := 16) rfl (congrArg Value.bool hb101)
      refine o_no F rfl rfl (fun a F => ?_)
      refine o_no F rfl rfl (fun a F => ?_)
      refine o_no F rfl rfl (fun a F => ?_)
      refine o_no F rfl rfl (fun a F => ?_)
      refine o_no F rfl rfl (fun a F => ?_)
      refine o_no F rfl rfl (fun a F => ?_)
      refine o_no F rfl rfl (fun a F => ?_)
      refine o_no F rfl rfl (fun a F => ?_)
      refine o_no F rfl rfl (fun a F => ?_)
      refine o_no F rfl rfl (fun a F => ?_)
      refine o_no F rfl rfl (fun a F => ?_)
      refine o_no F rfl rfl (fun a F => ?_)
      refine o_pickf F rfl rfl rfl (fun a F => ?_)
      refine x_end ?_
      refine x_tn ?_
      exact ⟨false, (Option.some.inj hR).symm, F.sub (sc rfl (sc rfl (sc rfl (sc rfl (sc rfl (sc rfl (sc rfl sn))))))), hB⟩
    ·
     intro a w ⟨s99, ho98, F, hB⟩
     subst ho98
     have hR := then_nx hk97
     refine x_tn ?_
     refine x_if F rfl (fun hb115 => ?_) (fun hb115 => ?_)
     ·
      replace hR := ifT hb115 hR
      refine x_reg ?_
      refine o_move F rfl rfl (fun a F => ?_)
      refine o_assign F rfl rfl (fun a F => ?_)
      refine x_end ?_
      refine x_bn ?_
      refine x_tn ?_
      refine x_reg ?_
      refine o_inc F rfl rfl rfl ink67 (fun a F => ?_)
      refine o_move F rfl rfl (fun a F => ?_)
      refine x_end ?_
      refine x_tn ?_
      replace hR := l_go hR hn60
      exact ⟨_, Nat.lt_succ_self _, k67 + 1, rest68, (k67 : Int), ⟨hd71.1, hd71.2.2⟩, rfl, hR, F.sub (sc rfl (sc rfl (sc rfl (sc rfl (sc rfl sn))))), hB, ikk67⟩
     ·
      replace hR := ifF hb115 hR
      refine x_skip ?_
      refine x_bn ?_
      refine x_tn ?_
      refine x_reg ?_
      refine o_inc F rfl rfl rfl ink67 (fun a F => ?_)
      refine o_move F rfl rfl (fun a F => ?_)
      refine x_end ?_
      refine x_tn ?_
      replace hR := l_go hR hn60
      exact ⟨_, Nat.lt_succ_self _, k67 + 1, rest68, s63, ⟨hd71.1, hd71.2.2⟩, rfl, hR, F.sub (sc rfl (sc rfl (sc rfl (sc rfl (sc rfl sn))))), hB, i64⟩
 ·
  intro a w ⟨s65, ho59, F, hB, i66⟩
  subst ho59
  have hR := then_nx hk58
  refine x_tn ?_
  refine x_seq ?_
  refine x_reg ?_
  refine o_move F rfl rfl (fun a F => ?_)
  refine o_assign F rfl rfl (fun a F => ?_)
  refine x_end ?_
  refine x_tn ?_
  refine x_ret ?_
  refine x_res1 F rfl (rv_t F rfl) ?_
  obtain rfl := Option.some.inj hR
  exact ⟨⟨rfl, hB⟩, i66⟩

def impl_ownLists (x0 : List (List Int)) : Option (List (List Int)) :=
 thn (σ := (List (List Int))) (
  forL (σ := (List (List Int))) (ρ := (List (List Int))) (fun (k114 : Nat) (x116 : (List Int)) (s100 : (List (List Int))) =>
   bnd (slices_Clone_s_int64_int64 x116) fun z128 =>
   bnd (ap s100 ([z128])) fun z147 =>
   some (.go z147)) x0 0 []) fun s107 =>
 some s107
set_option maxHeartbeats 1000000 in
theorem impl_ownLists_c {x0 : List (List Int)} (r : (List (List Int))) (hR : impl_ownLists x0 = some r) {v0 : Value} {b0 : List Nat} (w0 : World) (A0 : Rd (Sl 1 (RSl 1 RInt)) w0 v0 x0 b0) : Calls Tryz.prog 109 #[v0] w0 (Gives (fun v w' => ∃ (v1' : Value) (rb2' : List Nat) (ib3' : List Nat), v = v1' ∧ Row 1 (RSl 1 RInt) 46 w0.heap.size w' v1' r rb2' ib3' ∧ Own w0.heap.size ib3' w') w0) := by
 unfold impl_ownLists at hR
 refine x_enter (L := [(0, v0)]) Tryz.func109 rfl rfl rfl (sc rfl sn) (fun a F => ?_)
 have hB := Below.refl w0.heap.size w0
 refine x_seq ?_
 refine x_reg ?_
 refine o_assign F rfl rfl (fun a F => ?_)
 refine x_end ?_
 refine x_tn ?_
 refine x_seq ?_
 refine x_reg ?_
 refine o_lit0 (R := (RSl 1 RInt)) Tryz.underlying72 Tryz.sizeOf46 F rfl (fun a w v11 rb12 h13 l F => ?_)
 replace h13 := h13.base hB.size
 replace hB := Below.through l hB
 refine o_assign F rfl rfl (fun a F => ?_)
 refine x_end ?_
 refine x_tn ?_
 refine x_seq ?_
 refine x_seq ?_
 refine x_reg ?_
 refine o_move F rfl rfl (fun a F => ?_)
 refine o_len Tryz.underlying72 F rfl rfl (A0.go hB) (fun a F => ?_)
 have i15 := ((A0.go hB)).r.len64
 refine o_move F rfl rfl (fun a F => ?_)
 refine x_end ?_
 refine x_tn ?_
 obtain ⟨o94, hR, hk95⟩ := thn_some hR
 refine x_cutQ (fun a w => ∃ (s107 : List (List Int)) (v110 : Value) (rb111 : List Nat) (ib112 : List Nat), o94 = .nx s107 ∧ Sk a 20 [(3, v110)] ∧ Below w0.heap.size w0 w ∧ Row 1 (RSl 1 RInt) 46 w0.heap.size w v110 s107 rb111 ib112 ∧ Own w0.heap.size ib112 w) ?_ ?_
 ·
  refine x_blk ?_
  obtain ⟨fl98, hf99, hR⟩ := forL_gen hR
  refine x_loop (fun g a w => ∃ (k114 : Nat) (rest115 : List (List Int)) (s100 : List (List Int)) (v103 : Value) (rb104 : List Nat) (ib105 : List Nat), (k114 ≤ x0.length ∧ x0.drop k114 = rest115) ∧ rest115.length = g ∧ forL fl98 rest115 k114 s100 = some o94 ∧ Sk a 20 [(9, .int .i64 (k114 : Int)), (3, v103), (7, v0), (8, .int .i64 (x0.length : Int))] ∧ Below w0.heap.size w0 w ∧ Row 1 (RSl 1 RInt) 46 w0.heap.size w v103 s100 rb104 ib105 ∧ Own w0.heap.size ib105 w) x0.length ?_ ?_
  ·
   exact ⟨0, x0, [], v11, rb12, [], ⟨Nat.zero_le _, rfl⟩, rfl, hR, F.sub (sc rfl (sc rfl (sc rfl (sc rfl sn)))), hB, h13, (Own.nil _ _)⟩
  ·
   intro g117 a w ⟨k114, rest115, s100, v103, rb104, ib105, hd118, hg119, hR, F, hB, h102, ow106⟩
   cases rest115 with
   | nil =>
    replace hR := forL_nil hR
    have hkk114 := drop_nil hd118.1 hd118.2
    have hlk114 := dec_no hkk114
    refine x_seq ?_
    refine x_reg ?_
    refine o_lss F rfl rfl rfl (fun a F => ?_)
    refine x_end ?_
    refine x_tn ?_
    refine x_seq ?_
    refine x_ifF F rfl hlk114 ?_
    refine x_exit ?_
    refine x_te ?_
    refine x_te ?_
    refine x_be ?_
    refine x_tn ?_
    exact ⟨s100, v103, rb104, ib105, (Option.some.inj hR).symm, F.sub (sc rfl sn), hB, h102, ow106⟩
   | cons x116 rest115 =>
    subst hg119
    replace hd118 := drop_cons hd118.2
    have hxk114 := ix_nat hd118.2.1
    obtain ⟨ck114, hR, hn97⟩ := forL_cons hR
    rw [hf99] at hR
    have hlk114 := dec_yes hd118.1
    refine x_seq ?_
    refine x_reg ?_
    refine o_lss F rfl rfl rfl (fun a F => ?_)
    refine x_end ?_
    refine x_tn ?_
    refine x_seq ?_
    refine x_ifT F rfl hlk114 ?_
    refine x_skip ?_
    refine x_tn ?_
    refine x_seq ?_
    have ikk114 := k64 (Nat.le_of_lt hd118.1) i15
    have ink114 := inc64 hd118.1 i15
    refine x_blk ?_
    refine x_seq ?_
    refine x_reg ?_
    refine o_index Tryz.underlying72 Tryz.sizeOf46 F rfl rfl rfl (A0.go hB) hxk114 (fun a p120 b121 h122 s123 F => ?_)
    refine o_loadS Tryz.isAgg46 F rfl rfl h122 (fun a v124 b125 h126 s127 F => ?_)
    refine o_assign F rfl rfl (fun a F => ?_)
    refine x_end ?_
    refine x_tn ?_
    refine x_reg ?_
    refine o_move F rfl rfl (fun a F => ?_)
    refine o_move F rfl rfl (fun a F => ?_)
    obtain ⟨z128, c129, hR⟩ := bnd_some hR
    refine o_gives F rfl Tryz.call103 rfl (slices_Clone_s_int64_int64_c z128 c129 _ h126) (fun a vv w l ⟨v130, rb131, hv134, h133⟩ F => ?_)
    subst vv
    have d136 := Dj.new h102.rd.m h133.ownR (Nat.le_refl _)
    have d137 := Dj.app' (Dj.new h102.memR h133.ownR (Nat.le_refl _)).symm (Dj.nil' _)
    have d138 := Dj.app' (Dj.new h102.mem h133.ownR (Nat.le_refl _)).symm (Dj.nil' _)
    replace h133 := h133.base hB.size
    replace hB := Below.through l hB
    replace h102 := h102.go l
    replace ow106 := ow106.go l
    refine o_lit1 (R := (RSl 1 RInt)) (y := z128) Tryz.underlying72 Tryz.sizeOf46 Tryz.zeroValue46 rfl (by decide) (by decide) F rfl rfl (El.sl h133.rd) (fun a w v139 rb140 h141 l F => ?_)
    have ow142 := Own.go (h133.own (Own.nil _ _)) l
    have d144 := Dj.new h102.rd.m h141.ownR (Nat.le_refl _)
    have d145 := Dj.app' (Dj.new h102.memR h141.ownR (Nat.le_refl _)).symm d137
    have d146 := Dj.app' (Dj.new h102.mem h141.ownR (Nat.le_refl _)).symm d138
    replace h141 := h141.base hB.size
    replace hB := Below.through l hB
    replace h102 := h102.go l
    replace ow106 := ow106.go l
    obtain ⟨z147, c148, hR⟩ := bnd_some hR
    refine o_append (sz := 1) (R := (RSl 1 RInt)) (z := ((.slice none 0 0))) (bytes := 24) Tryz.underlying72 (by kernel_rfl) rfl (by decide) (by decide) (by decide) F rfl rfl rfl h102 h141.src hB.size (Dj.symm d145.r) c148 (fun a w v149 rb150 h151 l keep F => ?_)
    have ow152 := Own.append (Own.goO ow106 l h102.dj.symm) (Own.goO ow142 l (Dj.symm (Dj.symm d145.r))) (Dj.symm d146.r)
    replace hB := hB.o l h102.lo hB.size
    refine o_assign F rfl rfl (fun a F => ?_)
    refine x_end ?_
    refine x_bn ?_
    refine x_tn ?_
    refine x_reg ?_
    refine o_inc F rfl rfl rfl ink114 (fun a F => ?_)
    refine o_move F rfl rfl (fun a F => ?_)
    refine x_end ?_
    refine x_tn ?_
    replace hR := l_go hR hn97
    exact ⟨_, Nat.lt_succ_self _, k114 + 1, rest115, z147, v149, rb150, (ib105 ++ (rb131 ++ [])), ⟨hd118.1, hd118.2.2⟩, rfl, hR, F.sub (sc rfl (sc rfl (sc rfl (sc rfl sn)))), hB, h151, ow152⟩
 ·
  intro a w ⟨s107, v110, rb111, ib112, ho96, F, hB, h109, ow113⟩
  subst ho96
  have hR := then_nx hk95
  refine x_tn ?_
  refine x_seq ?_
  refine x_reg ?_
  refine o_move F rfl rfl (fun a F => ?_)
  refine o_assign F rfl rfl (fun a F => ?_)
  refine x_end ?_
  refine x_tn ?_
  refine x_ret ?_
  refine x_res1 F rfl (rv_t F rfl) ?_
  obtain rfl := Option.some.inj hR
  exact ⟨_, rfl, hB, v110, rb111, ib112, rfl, h109, ow113⟩
end Go.Proofs.YtfepllddlmhjiaaGreat
