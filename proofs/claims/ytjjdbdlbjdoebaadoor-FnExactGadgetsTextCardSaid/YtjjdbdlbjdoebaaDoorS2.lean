/-
  Functions of the program as plain functions, and that they compute them. Printed by fxio.py.
-/
import Derived.Test.YtjjdbdlbjdoebaaDoorS1
namespace Go.Proofs.YtjjdbdlbjdoebaaDoor
set_option linter.unusedVariables false
set_option linter.unusedSimpArgs false
set_option maxRecDepth 100000
open Go.RowKit
def spec_l01Arity (x0 : Int) : Option Bool :=
 bnd (spec_l00In x0 1 4) fun z11 =>
 some z11
set_option maxHeartbeats 1000000 in
theorem spec_l01Arity_c {x0 : Int} (r : Bool) (hR : spec_l01Arity x0 = some r)  (w0 : World) (hx0 : I64 x0) : Calls Tryd.prog 87 #[.int .i64 x0] w0 (Says (.bool r) w0) := by
 unfold spec_l01Arity at hR
 refine x_enter (L := [(0, .int .i64 x0)]) Tryd.func87 rfl rfl rfl (sc rfl sn) (fun a F => ?_)
 have hB := Below.refl w0.heap.size w0
 refine x_seq ?_
 refine x_reg ?_
 refine o_assign F rfl rfl (fun a F => ?_)
 refine x_end ?_
 refine x_tn ?_
 refine x_seq ?_
 refine x_reg ?_
 refine o_move F rfl rfl (fun a F => ?_)
 obtain ⟨z11, c12, hR⟩ := bnd_some hR
 refine o_says F rfl Tryd.call60 rfl (spec_l00In_c z11 c12 _ hx0 (show I64 (1) by decide) (show I64 (4) by decide)) (fun a w l F => ?_)
 replace hB := Below.through l hB
 refine o_assign F rfl rfl (fun a F => ?_)
 refine x_end ?_
 refine x_tn ?_
 refine x_ret ?_
 refine x_res1 F rfl (rv_t F rfl) ?_
 obtain rfl := Option.some.inj hR
 exact ⟨rfl, hB⟩

def spec_l03Counts (x0 : Formula) : Option Bool :=
 thn (σ := Bool) (
  bnd (spec_l01Arity x0.free) fun z50 =>
  if z50 then  bnd (spec_l00In x0.vars x0.free 8) fun z63 =>
   if z63 then  some (.nx (decide ((x0.atoms.length : Int) ≤ 16))) else  some (.nx false) else  some (.nx false)) fun s44 =>
 some s44
set_option maxHeartbeats 1000000 in
theorem spec_l03Counts_c {x0 : Formula} (r : Bool) (hR : spec_l03Counts x0 = some r) {v0 : Value} {b0 : List Nat} (w0 : World) (A0 : Rd (Pt 3 RFormula) w0 v0 x0 b0) : Calls Tryd.prog 86 #[v0] w0 (Says (.bool r) w0) := by
 unfold spec_l03Counts at hR
 refine x_enter (L := [(0, v0)]) Tryd.func86 rfl rfl rfl (sc rfl sn) (fun a F => ?_)
 have hB := Below.refl w0.heap.size w0
 refine x_seq ?_
 refine x_reg ?_
 refine o_assign F rfl rfl (fun a F => ?_)
 refine x_end ?_
 refine x_tn ?_
 refine x_seq ?_
 obtain ⟨o41, hR, hk42⟩ := thn_some hR
 refine x_cutQ (fun a w => ∃ (s44 : Bool), o41 = .nx s44 ∧ Sk a 27 [(2, .bool s44)] ∧ Below w0.heap.size w0 w) ?_ ?_
 ·
  refine x_draw (by kernel_rfl) (by kernel_rfl) ?_
  refine q_val F rfl (fun w l => r_move F rfl) (fun a F => ?_)
  refine q_val F rfl (fun w l => r_nilCheckP F rfl (A0.go hB)) (fun a F => ?_)
  refine q_field (s' := 1) fa89_0 F rfl rfl (A0.go hB) RFormula.f0 (fun a p45 b46 h47 s48 F => ?_)
  have i49 := (h47).i64
  refine q_val F rfl (fun w l => r_loadI Tryd.isAgg2 F rfl ((h47).go l)) (fun a F => ?_)
  obtain ⟨z50, c51, hR⟩ := bnd_some hR
  refine q_says F rfl Tryd.call87 rfl (fun w w' h l => l.through h) (fun w l => spec_l01Arity_c z50 c51 w i49) (fun a F => ?_)
  refine q_val F rfl (fun w l => r_move F rfl) (fun a F => ?_)
  rcases bcases z50 with hb52 | hb52
  ·
   replace hR := ifT hb52 hR
   have F := F.eq (t := 8) rfl (congrArg Value.bool hb52)
   refine q_val F rfl (fun w l => r_move F rfl) (fun a F => ?_)
   refine q_val F rfl (fun w l => r_nilCheckP F rfl (A0.go hB)) (fun a F => ?_)
   refine q_field (s' := 1) fa89_1 F rfl rfl (A0.go hB) RFormula.f1 (fun a p53 b54 h55 s56 F => ?_)
   have i57 := (h55).i64
   refine q_val F rfl (fun w l => r_loadI Tryd.isAgg2 F rfl ((h55).go l)) (fun a F => ?_)
   refine q_val F rfl (fun w l => r_move F rfl) (fun a F => ?_)
   refine q_val F rfl (fun w l => r_nilCheckP F rfl (A0.go hB)) (fun a F => ?_)
   refine q_field (s' := 1) fa89_0 F rfl rfl (A0.go hB) RFormula.f0 (fun a p58 b59 h60 s61 F => ?_)
   have i62 := (h60).i64
   refine q_val F rfl (fun w l => r_loadI Tryd.isAgg2 F rfl ((h60).go l)) (fun a F => ?_)
   obtain ⟨z63, c64, hR⟩ := bnd_some hR
   refine q_says F rfl Tryd.call60 rfl (fun w w' h l => l.through h) (fun w l => spec_l00In_c z63 c64 w i57 i62 (show I64 (8) by decide)) (fun a F => ?_)
   refine q_val F rfl (fun w l => r_pickt F rfl rfl) (fun a F => ?_)
   refine q_val F rfl (fun w l => r_move F rfl) (fun a F => ?_)
   rcases bcases z63 with hb65 | hb65
   ·
    replace hR := ifT hb65 hR
    have F := F.eq (t := 19) rfl (congrArg Value.bool hb65)
    refine q_val F rfl (fun w l => r_move F rfl) (fun a F => ?_)
    refine q_val F rfl (fun w l => r_nilCheckP F rfl (A0.go hB)) (fun a F => ?_)
    refine q_field (s' := 1) fa89_2 F rfl rfl (A0.go hB) RFormula.f2 (fun a p66 b67 h68 s69 F => ?_)
    refine q_loadS (fun _ l => l) Tryd.isAgg87 F rfl rfl h68 (fun a v70 b71 h72 s73 F => ?_)
    refine q_val F rfl (fun w l => r_len Tryd.underlying87 F rfl (h72).r w) (fun a F => ?_)
    have i74 := (h72).r.len64
    refine q_val F rfl (fun w l => r_leq F rfl rfl) (fun a F => ?_)
    refine q_val F rfl (fun w l => r_pickt F rfl rfl) (fun a F => ?_)
    refine q_val F rfl (fun w l => r_assign F rfl) (fun a F => ?_)
    refine q_end (fun w l => ?_)
    replace hB := Below.through l hB
    refine x_tn ?_
    exact ⟨(decide ((x0.atoms.length : Int) ≤ 16)), (Option.some.inj hR).symm, F.sub (sc rfl sn), hB⟩
   replace hR := ifF hb65 hR
   have F := F.eq (t := 19) rfl (congrArg Value.bool hb65)
   refine q_no F rfl rfl (fun a F => ?_)
   refine q_no F rfl rfl (fun a F => ?_)
   refine q_no F rfl rfl (fun a F => ?_)
   refine q_no F rfl rfl (fun a F => ?_)
   refine q_no F rfl rfl (fun a F => ?_)
   refine q_no F rfl rfl (fun a F => ?_)
   refine q_val F rfl (fun w l => r_pickf F rfl rfl) (fun a F => ?_)
   refine q_val F rfl (fun w l => r_assign F rfl) (fun a F => ?_)
   refine q_end (fun w l => ?_)
   replace hB := Below.through l hB
   refine x_tn ?_
   exact ⟨false, (Option.some.inj hR).symm, F.sub (sc rfl sn), hB⟩
  replace hR := ifF hb52 hR
  have F := F.eq (t := 8) rfl (congrArg Value.bool hb52)
  refine q_no F rfl rfl (fun a F => ?_)
  refine q_no F rfl rfl (fun a F => ?_)
  refine q_no F rfl rfl (fun a F => ?_)
  refine q_no F rfl rfl (fun a F => ?_)
  refine q_no F rfl rfl (fun a F => ?_)
  refine q_no F rfl rfl (fun a F => ?_)
  refine q_no F rfl rfl (fun a F => ?_)
  refine q_no F rfl rfl (fun a F => ?_)
  refine q_no F rfl rfl (fun a F => ?_)
  refine q_val F rfl (fun w l => r_pickf F rfl rfl) (fun a F => ?_)
  refine q_val F rfl (fun w l => r_move F rfl) (fun a F => ?_)
  refine q_no F rfl rfl (fun a F => ?_)
  refine q_no F rfl rfl (fun a F => ?_)
  refine q_no F rfl rfl (fun a F => ?_)
  refine q_no F rfl rfl (fun a F => ?_)
  refine q_no F rfl rfl (fun a F => ?_)
  refine q_no F rfl rfl (fun a F => ?_)
  refine q_val F rfl (fun w l => r_pickf F rfl rfl) (fun a F => ?_)
  refine q_val F rfl (fun w l => r_assign F rfl) (fun a F => ?_)
  refine q_end (fun w l => ?_)
  replace hB := Below.through l hB
  refine x_tn ?_
  exact ⟨false, (Option.some.inj hR).symm, F.sub (sc rfl sn), hB⟩
 intro a w ⟨s44, ho43, F, hB⟩
 subst ho43
 have hR := then_nx hk42
 refine x_tn ?_
 refine x_ret ?_
 refine x_res1 F rfl (rv_t F rfl) ?_
 obtain rfl := Option.some.inj hR
 exact ⟨rfl, hB⟩

def spec_l01Places (x0 : List Int) (x1 : Int) : Option Bool :=
 thn (σ := Unit) (
  forL (σ := Unit) (ρ := Bool) (fun (k29 : Nat) (x31 : Int) (s : Unit) =>
    match s with
    | _ =>
    bnd (ck (x1 - 1)) fun z41 =>
    bnd (spec_l00In x31 0 z41) fun z43 =>
    if (!z43) then
     some (.ret false)
    else
     some (.go ())) x0 0 ()) fun _ =>
 some true
set_option maxHeartbeats 1000000 in
theorem spec_l01Places_c {x0 : List Int} {x1 : Int} (r : Bool) (hR : spec_l01Places x0 x1 = some r) {v0 : Value} {b0 : List Nat} (w0 : World) (A0 : Rd (Sl 1 RInt) w0 v0 x0 b0) (hx1 : I64 x1) : Calls Tryd.prog 88 #[v0, .int .i64 x1] w0 (Says (.bool r) w0) := by
 unfold spec_l01Places at hR
 refine x_enter (L := [(0, v0), (1, .int .i64 x1)]) Tryd.func88 rfl rfl rfl (sc rfl (sc rfl sn)) (fun a F => ?_)
 have hB := Below.refl w0.heap.size w0
 refine x_seq ?_
 refine x_reg ?_
 refine o_assign F rfl rfl (fun a F => ?_)
 refine x_end ?_
 refine x_tn ?_
 refine x_seq ?_
 refine x_seq ?_
 refine x_reg ?_
 refine o_assign F rfl rfl (fun a F => ?_)
 refine x_end ?_
 refine x_tn ?_
 obtain ⟨o23, hR, hk24⟩ := thn_some hR
 refine x_cutQ (fun a w => o23 = .nx () ∧ Sk a 20 [] ∧ Below w0.heap.size w0 w) ?_ ?_
 ·
  refine x_blk ?_
  obtain ⟨fl27, hf28, hR⟩ := forL_gen hR
  refine x_loop (fun g a w => ∃ (k29 : Nat) (rest30 : List Int), (k29 ≤ x0.length ∧ x0.drop k29 = rest30) ∧ rest30.length = g ∧ forL fl27 rest30 k29 () = some o23 ∧ Sk a 20 [(5, .int .i64 (k29 : Int)), (0, v0), (1, .int .i64 x1)] ∧ Below w0.heap.size w0 w) x0.length ?_ ?_
  ·
   exact ⟨0, x0, ⟨Nat.zero_le _, rfl⟩, rfl, hR, F.sub (sc rfl (sc rfl (sc rfl sn))), hB⟩
  intro g32 a w ⟨k29, rest30, hd33, hg34, hR, F, hB⟩
  cases rest30 with
  | nil =>
   replace hR := forL_nil hR
   have hkk29 := drop_nil hd33.1 hd33.2
   have hlk29 := dec_no hkk29
   refine x_seq ?_
   refine x_seq ?_
   refine x_reg ?_
   refine o_move F rfl rfl (fun a F => ?_)
   refine o_move F rfl rfl (fun a F => ?_)
   refine o_len Tryd.underlying66 F rfl rfl (A0.go hB) (fun a F => ?_)
   have i46 := ((A0.go hB)).r.len64
   refine o_lss F rfl rfl rfl (fun a F => ?_)
   refine x_end ?_
   refine x_tn ?_
   refine x_ifF F rfl hlk29 ?_
   refine x_exit ?_
   refine x_te ?_
   refine x_te ?_
   refine x_be ?_
   refine x_tn ?_
   exact ⟨(Option.some.inj hR).symm, F.sub sn, hB⟩
  | cons x31 rest30 =>
   subst hg34
   replace hd33 := drop_cons hd33.2
   have hxk29 := ix_nat hd33.2.1
   obtain ⟨ck29, hR, hn26⟩ := forL_cons hR
   rw [hf28] at hR
   have hlk29 := dec_yes hd33.1
   refine x_seq ?_
   refine x_seq ?_
   refine x_reg ?_
   refine o_move F rfl rfl (fun a F => ?_)
   refine o_move F rfl rfl (fun a F => ?_)
   refine o_len Tryd.underlying66 F rfl rfl (A0.go hB) (fun a F => ?_)
   have i35 := ((A0.go hB)).r.len64
   refine o_lss F rfl rfl rfl (fun a F => ?_)
   refine x_end ?_
   refine x_tn ?_
   refine x_ifT F rfl hlk29 ?_
   refine x_skip ?_
   refine x_tn ?_
   refine x_seq ?_
   have ikk29 := k64 (Nat.le_of_lt hd33.1) i35
   have ink29 := inc64 hd33.1 i35
   refine x_blk ?_
   refine x_seq ?_
   refine x_reg ?_
   refine o_move F rfl rfl (fun a F => ?_)
   refine o_move F rfl rfl (fun a F => ?_)
   refine o_index Tryd.underlying66 Tryd.sizeOf2 F rfl rfl rfl (A0.go hB) hxk29 (fun a p36 b37 h38 s39 F => ?_)
   have i40 := (h38).i64
   refine o_loadI Tryd.isAgg2 F rfl rfl h38 (fun a F => ?_)
   refine o_move F rfl rfl (fun a F => ?_)
   obtain ⟨z41, c42, hR⟩ := bnd_some hR
   refine o_sub F rfl rfl rfl c42 (fun a F => ?_)
   obtain ⟨z43, c44, hR⟩ := bnd_some hR
   refine o_says F rfl Tryd.call60 rfl (spec_l00In_c z43 c44 _ i40 (show I64 (0) by decide) (ck64 c42)) (fun a w l F => ?_)
   replace hB := Below.through l hB
   refine o_not F rfl rfl (fun a F => ?_)
   refine x_end ?_
   refine x_tn ?_
   refine x_if F rfl (fun hb45 => ?_) (fun hb45 => ?_)
   ·
    replace hR := ifT hb45 hR
    refine x_seq ?_
    refine x_reg ?_
    refine o_assign F rfl rfl (fun a F => ?_)
    refine x_end ?_
    refine x_tn ?_
    refine x_ret ?_
    refine x_br ?_
    refine x_tr ?_
    refine x_tr ?_
    replace hR := l_ret hR hn26
    refine x_br ?_
    refine x_tr ?_
    replace hR := j_ret hR hk24
    refine x_tr ?_
    refine x_res1 F rfl (rv_t F rfl) ?_
    obtain rfl := Option.some.inj hR
    exact ⟨rfl, hB⟩
   replace hR := ifF hb45 hR
   refine x_skip ?_
   refine x_bn ?_
   refine x_tn ?_
   refine x_reg ?_
   refine o_move F rfl rfl (fun a F => ?_)
   refine o_inc F rfl rfl rfl ink29 (fun a F => ?_)
   refine o_assign F rfl rfl (fun a F => ?_)
   refine x_end ?_
   refine x_tn ?_
   replace hR := l_go hR hn26
   exact ⟨_, Nat.lt_succ_self _, k29 + 1, rest30, ⟨hd33.1, hd33.2.2⟩, rfl, hR, F.sub (sc rfl (sc rfl (sc rfl sn))), hB⟩
 intro a w ⟨ho25, F, hB⟩
 subst ho25
 have hR := then_nx hk24
 refine x_tn ?_
 refine x_seq ?_
 refine x_reg ?_
 refine o_assign F rfl rfl (fun a F => ?_)
 refine x_end ?_
 refine x_tn ?_
 refine x_ret ?_
 refine x_res1 F rfl (rv_t F rfl) ?_
 obtain rfl := Option.some.inj hR
 exact ⟨rfl, hB⟩

def spec_l03Shown (x0 : Formula) : Option Bool :=
 bnd (spec_l03Counts x0) fun z11 =>
 if (!z11) then
  some false
 else
  thn (σ := Unit) (
   forL (σ := Unit) (ρ := Bool) (fun (k125 : Nat) (x127 : Atom) (s : Unit) =>
     match s with
     | _ =>
     thn (σ := Bool) (
      bnd (spec_l00In x127.rel (-1) 5) fun z196 =>
      if (!z196) then  some (.nx true) else  bnd (spec_l01Arity (x127.args.length : Int)) fun z208 =>
       if (!z208) then  some (.nx true) else  bnd (spec_l01Places x127.args x0.vars) fun z224 =>
        some (.nx (!z224))) fun s190 =>
     if s190 then
      some (.ret false)
     else
      some (.go ())) x0.atoms 0 ()) fun _ =>
  some true
set_option maxHeartbeats 1000000 in
theorem spec_l03Shown_c {x0 : Formula} (r : Bool) (hR : spec_l03Shown x0 = some r) {v0 : Value} {b0 : List Nat} (w0 : World) (A0 : Rd (Pt 3 RFormula) w0 v0 x0 b0) : Calls Tryd.prog 70 #[v0] w0 (Says (.bool r) w0) := by
 unfold spec_l03Shown at hR
 refine x_enter (L := [(0, v0)]) Tryd.func70 rfl rfl rfl (sc rfl sn) (fun a F => ?_)
 have hB := Below.refl w0.heap.size w0
 refine x_seq ?_
 refine x_reg ?_
 refine o_assign F rfl rfl (fun a F => ?_)
 refine x_end ?_
 refine x_tn ?_
 refine x_seq ?_
 refine x_seq ?_
 refine x_reg ?_
 refine o_move F rfl rfl (fun a F => ?_)
 obtain ⟨z11, c12, hR⟩ := bnd_some hR
 refine o_says F rfl Tryd.call86 rfl (spec_l03Counts_c z11 c12 _ (A0.go hB)) (fun a w l F => ?_)
 replace hB := Below.through l hB
 refine o_not F rfl rfl (fun a F => ?_)
 refine x_end ?_
 refine x_tn ?_
 refine x_if F rfl (fun hb13 => ?_) (fun hb13 => ?_)
 ·
  replace hR := ifT hb13 hR
  refine x_seq ?_
  refine x_reg ?_
  refine o_assign F rfl rfl (fun a F => ?_)
  refine x_end ?_
  refine x_tn ?_
  refine x_ret ?_
  refine x_tr ?_
  refine x_res1 F rfl (rv_t F rfl) ?_
  obtain rfl := Option.some.inj hR
  exact ⟨rfl, hB⟩
 replace hR := ifF hb13 hR
 refine x_skip ?_
 refine x_tn ?_
 refine x_seq ?_
 refine x_seq ?_
 refine x_reg ?_
 refine o_assign F rfl rfl (fun a F => ?_)
 refine x_end ?_
 refine x_tn ?_
 obtain ⟨o119, hR, hk120⟩ := thn_some hR
 refine x_cutQ (fun a w => o119 = .nx () ∧ Sk a 50 [] ∧ Below w0.heap.size w0 w) ?_ ?_
 ·
  refine x_blk ?_
  obtain ⟨fl123, hf124, hR⟩ := forL_gen hR
  refine x_loop (fun g a w => ∃ (k125 : Nat) (rest126 : List Atom), (k125 ≤ x0.atoms.length ∧ x0.atoms.drop k125 = rest126) ∧ rest126.length = g ∧ forL fl123 rest126 k125 () = some o119 ∧ Sk a 50 [(3, .int .i64 (k125 : Int)), (0, v0)] ∧ Below w0.heap.size w0 w) x0.atoms.length ?_ ?_
  ·
   exact ⟨0, x0.atoms, ⟨Nat.zero_le _, rfl⟩, rfl, hR, F.sub (sc rfl (sc rfl sn)), hB⟩
  intro g128 a w ⟨k125, rest126, hd129, hg130, hR, F, hB⟩
  cases rest126 with
  | nil =>
   replace hR := forL_nil hR
   have hkk125 := drop_nil hd129.1 hd129.2
   have hlk125 := dec_no hkk125
   refine x_seq ?_
   refine x_seq ?_
   refine x_reg ?_
   refine o_move F rfl rfl (fun a F => ?_)
   refine o_move F rfl rfl (fun a F => ?_)
   refine o_nilCheckP F rfl rfl (A0.go hB) (fun a F => ?_)
   refine o_field (s' := 1) fa89_2 F rfl rfl (A0.go hB) RFormula.f2 (fun a p227 b228 h229 s230 F => ?_)
   refine o_loadS Tryd.isAgg87 F rfl rfl h229 (fun a v231 b232 h233 s234 F => ?_)
   refine o_len Tryd.underlying87 F rfl rfl h233 (fun a F => ?_)
   have i235 := (h233).r.len64
   refine o_lss F rfl rfl rfl (fun a F => ?_)
   refine x_end ?_
   refine x_tn ?_
   refine x_ifF F rfl hlk125 ?_
   refine x_exit ?_
   refine x_te ?_
   refine x_te ?_
   refine x_be ?_
   refine x_tn ?_
   exact ⟨(Option.some.inj hR).symm, F.sub sn, hB⟩
  | cons x127 rest126 =>
   subst hg130
   replace hd129 := drop_cons hd129.2
   have hxk125 := ix_nat hd129.2.1
   obtain ⟨ck125, hR, hn122⟩ := forL_cons hR
   rw [hf124] at hR
   have hlk125 := dec_yes hd129.1
   refine x_seq ?_
   refine x_seq ?_
   refine x_reg ?_
   refine o_move F rfl rfl (fun a F => ?_)
   refine o_move F rfl rfl (fun a F => ?_)
   refine o_nilCheckP F rfl rfl (A0.go hB) (fun a F => ?_)
   refine o_field (s' := 1) fa89_2 F rfl rfl (A0.go hB) RFormula.f2 (fun a p131 b132 h133 s134 F => ?_)
   refine o_loadS Tryd.isAgg87 F rfl rfl h133 (fun a v135 b136 h137 s138 F => ?_)
   refine o_len Tryd.underlying87 F rfl rfl h137 (fun a F => ?_)
   have i139 := (h137).r.len64
   refine o_lss F rfl rfl rfl (fun a F => ?_)
   refine x_end ?_
   refine x_tn ?_
   refine x_ifT F rfl hlk125 ?_
   refine x_skip ?_
   refine x_tn ?_
   refine x_seq ?_
   have ikk125 := k64 (Nat.le_of_lt hd129.1) i139
   have ink125 := inc64 hd129.1 i139
   refine x_blk ?_
   refine x_seq ?_
   refine x_reg ?_
   refine o_move F rfl rfl (fun a F => ?_)
   refine o_nilCheckP F rfl rfl (A0.go hB) (fun a F => ?_)
   refine o_field (s' := 1) fa89_2 F rfl rfl (A0.go hB) RFormula.f2 (fun a p140 b141 h142 s143 F => ?_)
   refine o_loadS Tryd.isAgg87 F rfl rfl h142 (fun a v144 b145 h146 s147 F => ?_)
   refine o_move F rfl rfl (fun a F => ?_)
   refine o_index Tryd.underlying87 Tryd.sizeOf122 F rfl rfl rfl h146 hxk125 (fun a p148 b149 h150 s151 F => ?_)
   refine o_assign F rfl rfl (fun a F => ?_)
   refine x_end ?_
   refine x_tn ?_
   refine x_seq ?_
   obtain ⟨o187, hR, hk188⟩ := thn_some hR
   refine x_cutQ (fun a w => ∃ (s190 : Bool), o187 = .nx s190 ∧ Sk a 50 [(0, v0), (3, .int .i64 (k125 : Int)), (49, .bool s190)] ∧ Below w0.heap.size w0 w) ?_ ?_
   ·
    refine x_draw (by kernel_rfl) (by kernel_rfl) ?_
    refine q_val F rfl (fun w l => r_move F rfl) (fun a F => ?_)
    refine q_val F rfl (fun w l => r_nilCheckP F rfl h150) (fun a F => ?_)
    refine q_field (s' := 1) fa122_0 F rfl rfl h150 RAtom.f0 (fun a p191 b192 h193 s194 F => ?_)
    have i195 := (h193).i64
    refine q_val F rfl (fun w l => r_loadI Tryd.isAgg2 F rfl ((h193).go l)) (fun a F => ?_)
    obtain ⟨z196, c197, hR⟩ := bnd_some hR
    refine q_says F rfl Tryd.call60 rfl (fun w w' h l => l.through h) (fun w l => spec_l00In_c z196 c197 w i195 (show I64 (-1) by decide) (show I64 (5) by decide)) (fun a F => ?_)
    refine q_val F rfl (fun w l => r_not F rfl) (fun a F => ?_)
    refine q_val F rfl (fun w l => r_move F rfl) (fun a F => ?_)
    rcases bcases (!z196) with hb198 | hb198
    ·
     replace hR := ifT hb198 hR
     have F := F.eq (t := 29) rfl (congrArg Value.bool hb198)
     refine q_no F rfl rfl (fun a F => ?_)
     refine q_no F rfl rfl (fun a F => ?_)
     refine q_no F rfl rfl (fun a F => ?_)
     refine q_no F rfl rfl (fun a F => ?_)
     refine q_no F rfl rfl (fun a F => ?_)
     refine q_no F rfl rfl (fun a F => ?_)
     refine q_no F rfl rfl (fun a F => ?_)
     refine q_val F rfl (fun w l => r_pickt F rfl rfl) (fun a F => ?_)
     refine q_val F rfl (fun w l => r_move F rfl) (fun a F => ?_)
     refine q_no F rfl rfl (fun a F => ?_)
     refine q_no F rfl rfl (fun a F => ?_)
     refine q_no F rfl rfl (fun a F => ?_)
     refine q_no F rfl rfl (fun a F => ?_)
     refine q_no F rfl rfl (fun a F => ?_)
     refine q_no F rfl rfl (fun a F => ?_)
     refine q_no F rfl rfl (fun a F => ?_)
     refine q_no F rfl rfl (fun a F => ?_)
     refine q_no F rfl rfl (fun a F => ?_)
     refine q_no F rfl rfl (fun a F => ?_)
     refine q_val F rfl (fun w l => r_pickt F rfl rfl) (fun a F => ?_)
     refine q_end (fun w l => ?_)
     replace hB := Below.through l hB
     refine x_tn ?_
     exact ⟨true, (Option.some.inj hR).symm, F.sub (sc rfl (sc rfl (sc rfl sn))), hB⟩
    replace hR := ifF hb198 hR
    have F := F.eq (t := 29) rfl (congrArg Value.bool hb198)
    refine q_val F rfl (fun w l => r_move F rfl) (fun a F => ?_)
    refine q_val F rfl (fun w l => r_nilCheckP F rfl h150) (fun a F => ?_)
    refine q_field (s' := 1) fa122_1 F rfl rfl h150 RAtom.f1 (fun a p199 b200 h201 s202 F => ?_)
    refine q_loadS (fun _ l => l) Tryd.isAgg66 F rfl rfl h201 (fun a v203 b204 h205 s206 F => ?_)
    refine q_val F rfl (fun w l => r_len Tryd.underlying66 F rfl (h205).r w) (fun a F => ?_)
    have i207 := (h205).r.len64
    obtain ⟨z208, c209, hR⟩ := bnd_some hR
    refine q_says F rfl Tryd.call87 rfl (fun w w' h l => l.through h) (fun w l => spec_l01Arity_c z208 c209 w i207) (fun a F => ?_)
    refine q_val F rfl (fun w l => r_not F rfl) (fun a F => ?_)
    refine q_val F rfl (fun w l => r_pickf F rfl rfl) (fun a F => ?_)
    refine q_val F rfl (fun w l => r_move F rfl) (fun a F => ?_)
    rcases bcases (!z208) with hb210 | hb210
    ·
     replace hR := ifT hb210 hR
     have F := F.eq (t := 38) rfl (congrArg Value.bool hb210)
     refine q_no F rfl rfl (fun a F => ?_)
     refine q_no F rfl rfl (fun a F => ?_)
     refine q_no F rfl rfl (fun a F => ?_)
     refine q_no F rfl rfl (fun a F => ?_)
     refine q_no F rfl rfl (fun a F => ?_)
     refine q_no F rfl rfl (fun a F => ?_)
     refine q_no F rfl rfl (fun a F => ?_)
     refine q_no F rfl rfl (fun a F => ?_)
     refine q_no F rfl rfl (fun a F => ?_)
     refine q_no F rfl rfl (fun a F => ?_)
     refine q_val F rfl (fun w l => r_pickt F rfl rfl) (fun a F => ?_)
     refine q_end (fun w l => ?_)
     replace hB := Below.through l hB
     refine x_tn ?_
     exact ⟨true, (Option.some.inj hR).symm, F.sub (sc rfl (sc rfl (sc rfl sn))), hB⟩
    replace hR := ifF hb210 hR
    have F := F.eq (t := 38) rfl (congrArg Value.bool hb210)
    refine q_val F rfl (fun w l => r_move F rfl) (fun a F => ?_)
    refine q_val F rfl (fun w l => r_nilCheckP F rfl h150) (fun a F => ?_)
    refine q_field (s' := 1) fa122_1 F rfl rfl h150 RAtom.f1 (fun a p211 b212 h213 s214 F => ?_)
    refine q_loadS (fun _ l => l) Tryd.isAgg66 F rfl rfl h213 (fun a v215 b216 h217 s218 F => ?_)
    refine q_val F rfl (fun w l => r_move F rfl) (fun a F => ?_)
    refine q_val F rfl (fun w l => r_nilCheckP F rfl (A0.go hB)) (fun a F => ?_)
    refine q_field (s' := 1) fa89_1 F rfl rfl (A0.go hB) RFormula.f1 (fun a p219 b220 h221 s222 F => ?_)
    have i223 := (h221).i64
    refine q_val F rfl (fun w l => r_loadI Tryd.isAgg2 F rfl ((h221).go l)) (fun a F => ?_)
    obtain ⟨z224, c225, hR⟩ := bnd_some hR
    refine q_says F rfl Tryd.call88 rfl (fun w w' h l => l.through h) (fun w l => spec_l01Places_c z224 c225 w (h217.go l) i223) (fun a F => ?_)
    refine q_val F rfl (fun w l => r_not F rfl) (fun a F => ?_)
    refine q_val F rfl (fun w l => r_pickf F rfl rfl) (fun a F => ?_)
    refine q_end (fun w l => ?_)
    replace hB := Below.through l hB
    refine x_tn ?_
    exact ⟨(!z224), (Option.some.inj hR).symm, F.sub (sc rfl (sc rfl (sc rfl sn))), hB⟩
   intro a w ⟨s190, ho189, F, hB⟩
   subst ho189
   have hR := then_nx hk188
   refine x_tn ?_
   refine x_if F rfl (fun hb226 => ?_) (fun hb226 => ?_)
   ·
    replace hR := ifT hb226 hR
    refine x_seq ?_
    refine x_reg ?_
    refine o_assign F rfl rfl (fun a F => ?_)
    refine x_end ?_
    refine x_tn ?_
    refine x_ret ?_
    refine x_br ?_
    refine x_tr ?_
    refine x_tr ?_
    replace hR := l_ret hR hn122
    refine x_br ?_
    refine x_tr ?_
    replace hR := j_ret hR hk120
    refine x_tr ?_
    refine x_res1 F rfl (rv_t F rfl) ?_
    obtain rfl := Option.some.inj hR
    exact ⟨rfl, hB⟩
   replace hR := ifF hb226 hR
   refine x_skip ?_
   refine x_bn ?_
   refine x_tn ?_
   refine x_reg ?_
   refine o_move F rfl rfl (fun a F => ?_)
   refine o_inc F rfl rfl rfl ink125 (fun a F => ?_)
   refine o_assign F rfl rfl (fun a F => ?_)
   refine x_end ?_
   refine x_tn ?_
   replace hR := l_go hR hn122
   exact ⟨_, Nat.lt_succ_self _, k125 + 1, rest126, ⟨hd129.1, hd129.2.2⟩, rfl, hR, F.sub (sc rfl (sc rfl sn)), hB⟩
 intro a w ⟨ho121, F, hB⟩
 subst ho121
 have hR := then_nx hk120
 refine x_tn ?_
 refine x_seq ?_
 refine x_reg ?_
 refine o_assign F rfl rfl (fun a F => ?_)
 refine x_end ?_
 refine x_tn ?_
 refine x_ret ?_
 refine x_res1 F rfl (rv_t F rfl) ?_
 obtain rfl := Option.some.inj hR
 exact ⟨rfl, hB⟩

def spec_l09Shown (x0 : Gadgets) : Option Bool :=
 thn (σ := Unit) (
  forL (σ := Unit) (ρ := Bool) (fun (k50 : Nat) (x52 : Formula) (s : Unit) =>
    match s with
    | _ =>
    bnd (spec_l03Shown x52) fun z77 =>
    if (!z77) then
     some (.ret false)
    else
     some (.go ())) x0.formulas 0 ()) fun _ =>
 some ((decide ((x0.formulas.length : Int) ≤ 6)))
set_option maxHeartbeats 1000000 in
theorem spec_l09Shown_c {x0 : Gadgets} (r : Bool) (hR : spec_l09Shown x0 = some r) {v0 : Value} {b0 : List Nat} (w0 : World) (A0 : Rd (Pt 1 RGadgets) w0 v0 x0 b0) : Calls Tryd.prog 47 #[v0] w0 (Says (.bool r) w0) := by
 unfold spec_l09Shown at hR
 refine x_enter (L := [(0, v0)]) Tryd.func47 rfl rfl rfl (sc rfl sn) (fun a F => ?_)
 have hB := Below.refl w0.heap.size w0
 refine x_seq ?_
 refine x_reg ?_
 refine o_assign F rfl rfl (fun a F => ?_)
 refine x_end ?_
 refine x_tn ?_
 refine x_seq ?_
 refine x_seq ?_
 refine x_reg ?_
 refine o_assign F rfl rfl (fun a F => ?_)
 refine x_end ?_
 refine x_tn ?_
 obtain ⟨o44, hR, hk45⟩ := thn_some hR
 refine x_cutQ (fun a w => o44 = .nx () ∧ Sk a 27 [(0, v0)] ∧ Below w0.heap.size w0 w) ?_ ?_
 ·
  refine x_blk ?_
  obtain ⟨fl48, hf49, hR⟩ := forL_gen hR
  refine x_loop (fun g a w => ∃ (k50 : Nat) (rest51 : List Formula), (k50 ≤ x0.formulas.length ∧ x0.formulas.drop k50 = rest51) ∧ rest51.length = g ∧ forL fl48 rest51 k50 () = some o44 ∧ Sk a 27 [(3, .int .i64 (k50 : Int)), (0, v0)] ∧ Below w0.heap.size w0 w) x0.formulas.length ?_ ?_
  ·
   exact ⟨0, x0.formulas, ⟨Nat.zero_le _, rfl⟩, rfl, hR, F.sub (sc rfl (sc rfl sn)), hB⟩
  intro g53 a w ⟨k50, rest51, hd54, hg55, hR, F, hB⟩
  cases rest51 with
  | nil =>
   replace hR := forL_nil hR
   have hkk50 := drop_nil hd54.1 hd54.2
   have hlk50 := dec_no hkk50
   refine x_seq ?_
   refine x_seq ?_
   refine x_reg ?_
   refine o_move F rfl rfl (fun a F => ?_)
   refine o_move F rfl rfl (fun a F => ?_)
   refine o_nilCheckP F rfl rfl (A0.go hB) (fun a F => ?_)
   refine o_field (s' := 1) fa48_0 F rfl rfl (A0.go hB) RGadgets.f0 (fun a p80 b81 h82 s83 F => ?_)
   refine o_loadS Tryd.isAgg46 F rfl rfl h82 (fun a v84 b85 h86 s87 F => ?_)
   refine o_len Tryd.underlying46 F rfl rfl h86 (fun a F => ?_)
   have i88 := (h86).r.len64
   refine o_lss F rfl rfl rfl (fun a F => ?_)
   refine x_end ?_
   refine x_tn ?_
   refine x_ifF F rfl hlk50 ?_
   refine x_exit ?_
   refine x_te ?_
   refine x_te ?_
   refine x_be ?_
   refine x_tn ?_
   exact ⟨(Option.some.inj hR).symm, F.sub (sc rfl sn), hB⟩
  | cons x52 rest51 =>
   subst hg55
   replace hd54 := drop_cons hd54.2
   have hxk50 := ix_nat hd54.2.1
   obtain ⟨ck50, hR, hn47⟩ := forL_cons hR
   rw [hf49] at hR
   have hlk50 := dec_yes hd54.1
   refine x_seq ?_
   refine x_seq ?_
   refine x_reg ?_
   refine o_move F rfl rfl (fun a F => ?_)
   refine o_move F rfl rfl (fun a F => ?_)
   refine o_nilCheckP F rfl rfl (A0.go hB) (fun a F => ?_)
   refine o_field (s' := 1) fa48_0 F rfl rfl (A0.go hB) RGadgets.f0 (fun a p56 b57 h58 s59 F => ?_)
   refine o_loadS Tryd.isAgg46 F rfl rfl h58 (fun a v60 b61 h62 s63 F => ?_)
   refine o_len Tryd.underlying46 F rfl rfl h62 (fun a F => ?_)
   have i64 := (h62).r.len64
   refine o_lss F rfl rfl rfl (fun a F => ?_)
   refine x_end ?_
   refine x_tn ?_
   refine x_ifT F rfl hlk50 ?_
   refine x_skip ?_
   refine x_tn ?_
   refine x_seq ?_
   have ikk50 := k64 (Nat.le_of_lt hd54.1) i64
   have ink50 := inc64 hd54.1 i64
   refine x_blk ?_
   refine x_seq ?_
   refine x_reg ?_
   refine o_move F rfl rfl (fun a F => ?_)
   refine o_nilCheckP F rfl rfl (A0.go hB) (fun a F => ?_)
   refine o_field (s' := 1) fa48_0 F rfl rfl (A0.go hB) RGadgets.f0 (fun a p65 b66 h67 s68 F => ?_)
   refine o_loadS Tryd.isAgg46 F rfl rfl h67 (fun a v69 b70 h71 s72 F => ?_)
   refine o_move F rfl rfl (fun a F => ?_)
   refine o_index Tryd.underlying46 Tryd.sizeOf89 F rfl rfl rfl h71 hxk50 (fun a p73 b74 h75 s76 F => ?_)
   obtain ⟨z77, c78, hR⟩ := bnd_some hR
   refine o_says F rfl Tryd.call70 rfl (spec_l03Shown_c z77 c78 _ h75) (fun a w l F => ?_)
   replace hB := Below.through l hB
   refine o_not F rfl rfl (fun a F => ?_)
   refine x_end ?_
   refine x_tn ?_
   refine x_if F rfl (fun hb79 => ?_) (fun hb79 => ?_)
   ·
    replace hR := ifT hb79 hR
    refine x_seq ?_
    refine x_reg ?_
    refine o_assign F rfl rfl (fun a F => ?_)
    refine x_end ?_
    refine x_tn ?_
    refine x_ret ?_
    refine x_br ?_
    refine x_tr ?_
    refine x_tr ?_
    replace hR := l_ret hR hn47
    refine x_br ?_
    refine x_tr ?_
    replace hR := j_ret hR hk45
    refine x_tr ?_
    refine x_res1 F rfl (rv_t F rfl) ?_
    obtain rfl := Option.some.inj hR
    exact ⟨rfl, hB⟩
   replace hR := ifF hb79 hR
   refine x_skip ?_
   refine x_bn ?_
   refine x_tn ?_
   refine x_reg ?_
   refine o_move F rfl rfl (fun a F => ?_)
   refine o_inc F rfl rfl rfl ink50 (fun a F => ?_)
   refine o_assign F rfl rfl (fun a F => ?_)
   refine x_end ?_
   refine x_tn ?_
   replace hR := l_go hR hn47
   exact ⟨_, Nat.lt_succ_self _, k50 + 1, rest51, ⟨hd54.1, hd54.2.2⟩, rfl, hR, F.sub (sc rfl (sc rfl sn)), hB⟩
 intro a w ⟨ho46, F, hB⟩
 subst ho46
 have hR := then_nx hk45
 refine x_tn ?_
 refine x_seq ?_
 refine x_reg ?_
 refine o_move F rfl rfl (fun a F => ?_)
 refine o_nilCheckP F rfl rfl (A0.go hB) (fun a F => ?_)
 refine o_field (s' := 1) fa48_0 F rfl rfl (A0.go hB) RGadgets.f0 (fun a p89 b90 h91 s92 F => ?_)
 refine o_loadS Tryd.isAgg46 F rfl rfl h91 (fun a v93 b94 h95 s96 F => ?_)
 refine o_len Tryd.underlying46 F rfl rfl h95 (fun a F => ?_)
 have i97 := (h95).r.len64
 refine o_leq F rfl rfl rfl (fun a F => ?_)
 refine o_assign F rfl rfl (fun a F => ?_)
 refine x_end ?_
 refine x_tn ?_
 refine x_ret ?_
 refine x_res1 F rfl (rv_t F rfl) ?_
 obtain rfl := Option.some.inj hR
 exact ⟨rfl, hB⟩

def spec_l03Text (N : Nat) (x0 : Formula) : Option ByteArray :=
 bnd (spec_Decimal N x0.free) fun z21 =>
 bnd (scat (bstr [102, 111, 114, 109, 117, 108, 97, 32]) z21) fun z25 =>
 bnd (scat z25 (bstr [32])) fun z27 =>
 bnd (spec_Decimal N x0.vars) fun z29 =>
 bnd (scat z27 z29) fun z33 =>
 thn (σ := ByteArray) (
  forL (σ := ByteArray) (ρ := ByteArray) (fun (k311 : Nat) (x313 : Atom) (s307 : ByteArray) =>
   thn (σ := ByteArray) (
    if (x313.rel == (-1)) then
     bnd (scat s307 (bstr [32, 61, 58])) fun z379 =>
     some (.nx z379)
    else
     bnd (spec_Decimal N x313.rel) fun z398 =>
     bnd (scat (bstr [32, 82]) z398) fun z402 =>
     bnd (scat z402 (bstr [58])) fun z404 =>
     bnd (scat s307 z404) fun z406 =>
     some (.nx z406)) fun s376 =>
   thn (σ := ByteArray) (
    forL (σ := ByteArray) (ρ := (Ctl (ByteArray) ByteArray)) (fun (k493 : Nat) (x495 : Int) (s489 : ByteArray) =>
     bnd (spec_Decimal N x495) fun z545 =>
     bnd (scat s489 z545) fun z549 =>
     some (.go z549)) x313.args 0 s376) fun s491 =>
   some (.go s491)) x0.atoms 0 z33) fun s309 =>
 some s309
set_option maxHeartbeats 1000000 in
theorem spec_l03Text_c {N : Nat} {x0 : Formula} (r : ByteArray) (hR : spec_l03Text N x0 = some r) {v0 : Value} {b0 : List Nat} (w0 : World) (A0 : Rd (Pt 3 RFormula) w0 v0 x0 b0) : Calls Tryd.prog 71 #[v0] w0 (Gives (fun v w' => v = .string r ∧ r.size ≤ maxLen) w0) := by
 unfold spec_l03Text at hR
 refine x_enter (L := [(0, v0)]) Tryd.func71 rfl rfl rfl (sc rfl sn) (fun a F => ?_)
 have hB := Below.refl w0.heap.size w0
 refine x_seq ?_
 refine x_reg ?_
 refine o_assign F rfl rfl (fun a F => ?_)
 refine x_end ?_
 refine x_tn ?_
 refine x_seq ?_
 refine x_drawn (by kernel_rfl) (fun w l => ?_)
 replace hB := Below.through l hB
 refine b_q0 0 rfl (by kernel_rfl) (by kernel_rfl) (by kernel_rfl) ?_
 refine v_val F rfl (fun w l => r_move F rfl) (fun a F => ?_)
 refine b_q 1 (by kernel_rfl) rfl (by kernel_rfl) (by kernel_rfl) (by kernel_rfl) (by kernel_rfl) ?_
 refine v_val F rfl (fun w l => r_nilCheckP F rfl (A0.go hB)) (fun a F => ?_)
 refine b_q 2 (by kernel_rfl) rfl (by kernel_rfl) (by kernel_rfl) (by kernel_rfl) (by kernel_rfl) ?_
 refine v_field (s' := 1) fa89_0 F rfl rfl (A0.go hB) RFormula.f0 (fun a p11 b12 h13 s14 F => ?_)
 refine b_q 3 (by kernel_rfl) rfl (by kernel_rfl) (by kernel_rfl) (by kernel_rfl) (by kernel_rfl) ?_
 have i15 := (h13).i64
 refine v_val F rfl (fun w l => r_loadI Tryd.isAgg2 F rfl ((h13).go l)) (fun a F => ?_)
 refine b_q0 7 rfl (by kernel_rfl) (by kernel_rfl) (by kernel_rfl) ?_
 refine v_val F rfl (fun w l => r_move F rfl) (fun a F => ?_)
 refine b_q 8 (by kernel_rfl) rfl (by kernel_rfl) (by kernel_rfl) (by kernel_rfl) (by kernel_rfl) ?_
 refine v_val F rfl (fun w l => r_nilCheckP F rfl (A0.go hB)) (fun a F => ?_)
 refine b_q 9 (by kernel_rfl) rfl (by kernel_rfl) (by kernel_rfl) (by kernel_rfl) (by kernel_rfl) ?_
 refine v_field (s' := 1) fa89_1 F rfl rfl (A0.go hB) RFormula.f1 (fun a p16 b17 h18 s19 F => ?_)
 refine b_q 10 (by kernel_rfl) rfl (by kernel_rfl) (by kernel_rfl) (by kernel_rfl) (by kernel_rfl) ?_
 have i20 := (h18).i64
 refine v_val F rfl (fun w l => r_loadI Tryd.isAgg2 F rfl ((h18).go l)) (fun a F => ?_)
 refine b_e 4 rfl (by kernel_rfl) ?_
 obtain ⟨z21, c22, hR⟩ := bnd_some hR
 refine o_gives F rfl Tryd.call41 rfl (spec_Decimal_c z21 c22 _ i15) (fun a vv w l ⟨hv24, i23⟩ F => ?_)
 subst vv
 replace hB := Below.through l hB
 refine x_end ?_
 refine x_tn ?_
 refine ⟨.inl l, ?_⟩
 refine b_q0 5 rfl (by kernel_rfl) (by kernel_rfl) (by kernel_rfl) ?_
 obtain ⟨z25, c26, hR⟩ := bnd_some hR
 refine v_val F rfl (fun w l => r_scat F rfl rfl c26) (fun a F => ?_)
 refine b_q0 6 rfl (by kernel_rfl) (by kernel_rfl) (by kernel_rfl) ?_
 obtain ⟨z27, c28, hR⟩ := bnd_some hR
 refine v_val F rfl (fun w l => r_scat F rfl rfl c28) (fun a F => ?_)
 refine b_e 11 rfl (by kernel_rfl) ?_
 obtain ⟨z29, c30, hR⟩ := bnd_some hR
 refine o_gives F rfl Tryd.call41 rfl (spec_Decimal_c z29 c30 _ i20) (fun a vv w l ⟨hv32, i31⟩ F => ?_)
 subst vv
 replace hB := Below.through l hB
 refine x_end ?_
 refine x_tn ?_
 refine ⟨.inl l, ?_⟩
 refine b_q0 12 rfl (by kernel_rfl) (by kernel_rfl) (by kernel_rfl) ?_
 obtain ⟨z33, c34, hR⟩ := bnd_some hR
 refine v_val F rfl (fun w l => r_scat F rfl rfl c34) (fun a F => ?_)
 refine b_q0 13 rfl (by kernel_rfl) (by kernel_rfl) (by kernel_rfl) ?_
 refine v_val F rfl (fun w l => r_assign F rfl) (fun a F => ?_)
 refine b_end (by kernel_rfl) ?_
 refine x_tn ?_
 refine x_seq ?_
 refine x_seq ?_
 refine x_reg ?_
 refine o_assign F rfl rfl (fun a F => ?_)
 refine x_end ?_
 refine x_tn ?_
 obtain ⟨o301, hR, hk302⟩ := thn_some hR
 refine x_cutQ (fun a w => ∃ (s309 : ByteArray), o301 = .nx s309 ∧ Sk a 80 [(3, .string s309)] ∧ Below w0.heap.size w0 w ∧ s309.size ≤ maxLen) ?_ ?_
 ·
  refine x_blk ?_
  obtain ⟨fl305, hf306, hR⟩ := forL_gen hR
  refine x_loop (fun g a w => ∃ (k311 : Nat) (rest312 : List Atom) (s307 : ByteArray), (k311 ≤ x0.atoms.length ∧ x0.atoms.drop k311 = rest312) ∧ rest312.length = g ∧ forL fl305 rest312 k311 s307 = some o301 ∧ Sk a 80 [(4, .int .i64 (k311 : Int)), (0, v0), (3, .string s307)] ∧ Below w0.heap.size w0 w ∧ s307.size ≤ maxLen) x0.atoms.length ?_ ?_
  ·
   exact ⟨0, x0.atoms, z33, ⟨Nat.zero_le _, rfl⟩, rfl, hR, F.sub (sc rfl (sc rfl (sc rfl sn))), hB, (scat_sz c34)⟩
  intro g314 a w ⟨k311, rest312, s307, hd315, hg316, hR, F, hB, i308⟩
  cases rest312 with
  | nil =>
   replace hR := forL_nil hR
   have hkk311 := drop_nil hd315.1 hd315.2
   have hlk311 := dec_no hkk311
   refine x_seq ?_
   refine x_seq ?_
   refine x_reg ?_
   refine o_move F rfl rfl (fun a F => ?_)
   refine o_move F rfl rfl (fun a F => ?_)
   refine o_nilCheckP F rfl rfl (A0.go hB) (fun a F => ?_)
   refine o_field (s' := 1) fa89_2 F rfl rfl (A0.go hB) RFormula.f2 (fun a p572 b573 h574 s575 F => ?_)
   refine o_loadS Tryd.isAgg87 F rfl rfl h574 (fun a v576 b577 h578 s579 F => ?_)
   refine o_len Tryd.underlying87 F rfl rfl h578 (fun a F => ?_)
   have i580 := (h578).r.len64
   refine o_lss F rfl rfl rfl (fun a F => ?_)
   refine x_end ?_
   refine x_tn ?_
   refine x_ifF F rfl hlk311 ?_
   refine x_exit ?_
   refine x_te ?_
   refine x_te ?_
   refine x_be ?_
   refine x_tn ?_
   exact ⟨s307, (Option.some.inj hR).symm, F.sub (sc rfl sn), hB, i308⟩
  | cons x313 rest312 =>
   subst hg316
   replace hd315 := drop_cons hd315.2
   have hxk311 := ix_nat hd315.2.1
   obtain ⟨ck311, hR, hn304⟩ := forL_cons hR
   rw [hf306] at hR
   have hlk311 := dec_yes hd315.1
   refine x_seq ?_
   refine x_seq ?_
   refine x_reg ?_
   refine o_move F rfl rfl (fun a F => ?_)
   refine o_move F rfl rfl (fun a F => ?_)
   refine o_nilCheckP F rfl rfl (A0.go hB) (fun a F => ?_)
   refine o_field (s' := 1) fa89_2 F rfl rfl (A0.go hB) RFormula.f2 (fun a p317 b318 h319 s320 F => ?_)
   refine o_loadS Tryd.isAgg87 F rfl rfl h319 (fun a v321 b322 h323 s324 F => ?_)
   refine o_len Tryd.underlying87 F rfl rfl h323 (fun a F => ?_)
   have i325 := (h323).r.len64
   refine o_lss F rfl rfl rfl (fun a F => ?_)
   refine x_end ?_
   refine x_tn ?_
   refine x_ifT F rfl hlk311 ?_
   refine x_skip ?_
   refine x_tn ?_
   refine x_seq ?_
   have ikk311 := k64 (Nat.le_of_lt hd315.1) i325
   have ink311 := inc64 hd315.1 i325
   refine x_blk ?_
   refine x_seq ?_
   refine x_seq ?_
   refine x_reg ?_
   refine o_move F rfl rfl (fun a F => ?_)
   refine o_nilCheckP F rfl rfl (A0.go hB) (fun a F => ?_)
   refine o_field (s' := 1) fa89_2 F rfl rfl (A0.go hB) RFormula.f2 (fun a p326 b327 h328 s329 F => ?_)
   refine o_loadS Tryd.isAgg87 F rfl rfl h328 (fun a v330 b331 h332 s333 F => ?_)
   refine o_move F rfl rfl (fun a F => ?_)
   refine o_index Tryd.underlying87 Tryd.sizeOf122 F rfl rfl rfl h332 hxk311 (fun a p334 b335 h336 s337 F => ?_)
   refine o_field (s' := 1) fa122_0 F rfl rfl h336 RAtom.f0 (fun a p338 b339 h340 s341 F => ?_)
   have i342 := (h340).i64
   refine o_loadI Tryd.isAgg2 F rfl rfl h340 (fun a F => ?_)
   refine o_eql F rfl rfl rfl (fun a F => ?_)
   refine x_end ?_
   refine x_tn ?_
   obtain ⟨o373, hR, hk374⟩ := thn_some hR
   refine x_cutQ (fun a w => ∃ (s376 : ByteArray), o373 = .nx s376 ∧ Sk a 80 [(0, v0), (3, .string s376), (4, .int .i64 (k311 : Int))] ∧ Below w0.heap.size w0 w ∧ s376.size ≤ maxLen) ?_ ?_
   ·
    refine x_if F rfl (fun hb378 => ?_) (fun hb378 => ?_)
    ·
     replace hR := ifT hb378 hR
     refine x_reg ?_
     refine o_move F rfl rfl (fun a F => ?_)
     obtain ⟨z379, c380, hR⟩ := bnd_some hR
     refine o_scat F rfl rfl rfl c380 (fun a F => ?_)
     refine o_assign F rfl rfl (fun a F => ?_)
     refine x_end ?_
     refine x_tn ?_
     exact ⟨z379, (Option.some.inj hR).symm, F.sub (sc rfl (sc rfl (sc rfl sn))), hB, (scat_sz c380)⟩
    replace hR := ifF hb378 hR
    refine x_reg ?_
    refine o_move F rfl rfl (fun a F => ?_)
    refine o_move F rfl rfl (fun a F => ?_)
    refine o_nilCheckP F rfl rfl (A0.go hB) (fun a F => ?_)
    refine o_field (s' := 1) fa89_2 F rfl rfl (A0.go hB) RFormula.f2 (fun a p381 b382 h383 s384 F => ?_)
    refine o_loadS Tryd.isAgg87 F rfl rfl h383 (fun a v385 b386 h387 s388 F => ?_)
    refine o_move F rfl rfl (fun a F => ?_)
    refine o_index Tryd.underlying87 Tryd.sizeOf122 F rfl rfl rfl h387 hxk311 (fun a p389 b390 h391 s392 F => ?_)
    refine o_field (s' := 1) fa122_0 F rfl rfl h391 RAtom.f0 (fun a p393 b394 h395 s396 F => ?_)
    have i397 := (h395).i64
    refine o_loadI Tryd.isAgg2 F rfl rfl h395 (fun a F => ?_)
    obtain ⟨z398, c399, hR⟩ := bnd_some hR
    refine o_gives F rfl Tryd.call41 rfl (spec_Decimal_c z398 c399 _ i397) (fun a vv w l ⟨hv401, i400⟩ F => ?_)
    subst vv
    replace hB := Below.through l hB
    obtain ⟨z402, c403, hR⟩ := bnd_some hR
    refine o_scat F rfl rfl rfl c403 (fun a F => ?_)
    obtain ⟨z404, c405, hR⟩ := bnd_some hR
    refine o_scat F rfl rfl rfl c405 (fun a F => ?_)
    obtain ⟨z406, c407, hR⟩ := bnd_some hR
    refine o_scat F rfl rfl rfl c407 (fun a F => ?_)
    refine o_assign F rfl rfl (fun a F => ?_)
    refine x_end ?_
    refine x_tn ?_
    exact ⟨z406, (Option.some.inj hR).symm, F.sub (sc rfl (sc rfl (sc rfl sn))), hB, (scat_sz c407)⟩
   intro a w ⟨s376, ho375, F, hB, i377⟩
   subst ho375
   have hR := then_nx hk374
   refine x_tn ?_
   refine x_seq ?_
   refine x_reg ?_
   refine o_assign F rfl rfl (fun a F => ?_)
   refine x_end ?_
   refine x_tn ?_
   obtain ⟨o483, hR, hk484⟩ := thn_some hR
   refine x_cutQ (fun a w => ∃ (s491 : ByteArray), o483 = .nx s491 ∧ Sk a 80 [(0, v0), (3, .string s491), (4, .int .i64 (k311 : Int))] ∧ Below w0.heap.size w0 w ∧ s491.size ≤ maxLen) ?_ ?_
   ·
    refine x_blk ?_
    obtain ⟨fl487, hf488, hR⟩ := forL_gen hR
    refine x_loop (fun g a w => ∃ (k493 : Nat) (rest494 : List Int) (s489 : ByteArray), (k493 ≤ x313.args.length ∧ x313.args.drop k493 = rest494) ∧ rest494.length = g ∧ forL fl487 rest494 k493 s489 = some o483 ∧ Sk a 80 [(5, .int .i64 (k493 : Int)), (0, v0), (3, .string s489), (4, .int .i64 (k311 : Int))] ∧ Below w0.heap.size w0 w ∧ s489.size ≤ maxLen) x313.args.length ?_ ?_
    ·
     exact ⟨0, x313.args, s376, ⟨Nat.zero_le _, rfl⟩, rfl, hR, F.sub (sc rfl (sc rfl (sc rfl (sc rfl sn)))), hB, i377⟩
    intro g496 a w ⟨k493, rest494, s489, hd497, hg498, hR, F, hB, i490⟩
    cases rest494 with
    | nil =>
     replace hR := forL_nil hR
     have hkk493 := drop_nil hd497.1 hd497.2
     have hlk493 := dec_no hkk493
     refine x_seq ?_
     refine x_seq ?_
     refine x_reg ?_
     refine o_move F rfl rfl (fun a F => ?_)
     refine o_move F rfl rfl (fun a F => ?_)
     refine o_nilCheckP F rfl rfl (A0.go hB) (fun a F => ?_)
     refine o_field (s' := 1) fa89_2 F rfl rfl (A0.go hB) RFormula.f2 (fun a p551 b552 h553 s554 F => ?_)
     refine o_loadS Tryd.isAgg87 F rfl rfl h553 (fun a v555 b556 h557 s558 F => ?_)
     refine o_move F rfl rfl (fun a F => ?_)
     refine o_index Tryd.underlying87 Tryd.sizeOf122 F rfl rfl rfl h557 hxk311 (fun a p559 b560 h561 s562 F => ?_)
     refine o_field (s' := 1) fa122_1 F rfl rfl h561 RAtom.f1 (fun a p563 b564 h565 s566 F => ?_)
     refine o_loadS Tryd.isAgg66 F rfl rfl h565 (fun a v567 b568 h569 s570 F => ?_)
     refine o_len Tryd.underlying66 F rfl rfl h569 (fun a F => ?_)
     have i571 := (h569).r.len64
     refine o_lss F rfl rfl rfl (fun a F => ?_)
     refine x_end ?_
     refine x_tn ?_
     refine x_ifF F rfl hlk493 ?_
     refine x_exit ?_
     refine x_te ?_
     refine x_te ?_
     refine x_be ?_
     refine x_tn ?_
     exact ⟨s489, (Option.some.inj hR).symm, F.sub (sc rfl (sc rfl (sc rfl sn))), hB, i490⟩
    | cons x495 rest494 =>
     subst hg498
     replace hd497 := drop_cons hd497.2
     have hxk493 := ix_nat hd497.2.1
     obtain ⟨ck493, hR, hn486⟩ := forL_cons hR
     rw [hf488] at hR
     have hlk493 := dec_yes hd497.1
     refine x_seq ?_
     refine x_seq ?_
     refine x_reg ?_
     refine o_move F rfl rfl (fun a F => ?_)
     refine o_move F rfl rfl (fun a F => ?_)
     refine o_nilCheckP F rfl rfl (A0.go hB) (fun a F => ?_)
     refine o_field (s' := 1) fa89_2 F rfl rfl (A0.go hB) RFormula.f2 (fun a p499 b500 h501 s502 F => ?_)
     refine o_loadS Tryd.isAgg87 F rfl rfl h501 (fun a v503 b504 h505 s506 F => ?_)
     refine o_move F rfl rfl (fun a F => ?_)
     refine o_index Tryd.underlying87 Tryd.sizeOf122 F rfl rfl rfl h505 hxk311 (fun a p507 b508 h509 s510 F => ?_)
     refine o_field (s' := 1) fa122_1 F rfl rfl h509 RAtom.f1 (fun a p511 b512 h513 s514 F => ?_)
     refine o_loadS Tryd.isAgg66 F rfl rfl h513 (fun a v515 b516 h517 s518 F => ?_)
     refine o_len Tryd.underlying66 F rfl rfl h517 (fun a F => ?_)
     have i519 := (h517).r.len64
     refine o_lss F rfl rfl rfl (fun a F => ?_)
     refine x_end ?_
     refine x_tn ?_
     refine x_ifT F rfl hlk493 ?_
     refine x_skip ?_
     refine x_tn ?_
     refine x_seq ?_
     have ikk493 := k64 (Nat.le_of_lt hd497.1) i519
     have ink493 := inc64 hd497.1 i519
     refine x_blk ?_
     refine x_reg ?_
     refine o_move F rfl rfl (fun a F => ?_)
     refine o_move F rfl rfl (fun a F => ?_)
     refine o_nilCheckP F rfl rfl (A0.go hB) (fun a F => ?_)
     refine o_field (s' := 1) fa89_2 F rfl rfl (A0.go hB) RFormula.f2 (fun a p520 b521 h522 s523 F => ?_)
     refine o_loadS Tryd.isAgg87 F rfl rfl h522 (fun a v524 b525 h526 s527 F => ?_)
     refine o_move F rfl rfl (fun a F => ?_)
     refine o_index Tryd.underlying87 Tryd.sizeOf122 F rfl rfl rfl h526 hxk311 (fun a p528 b529 h530 s531 F => ?_)
     refine o_field (s' := 1) fa122_1 F rfl rfl h530 RAtom.f1 (fun a p532 b533 h534 s535 F => ?_)
     refine o_loadS Tryd.isAgg66 F rfl rfl h534 (fun a v536 b537 h538 s539 F => ?_)
     refine o_move F rfl rfl (fun a F => ?_)
     refine o_index Tryd.underlying66 Tryd.sizeOf2 F rfl rfl rfl h538 hxk493 (fun a p540 b541 h542 s543 F => ?_)
     have i544 := (h542).i64
     refine o_loadI Tryd.isAgg2 F rfl rfl h542 (fun a F => ?_)
     obtain ⟨z545, c546, hR⟩ := bnd_some hR
     refine o_gives F rfl Tryd.call41 rfl (spec_Decimal_c z545 c546 _ i544) (fun a vv w l ⟨hv548, i547⟩ F => ?_)
     subst vv
     replace hB := Below.through l hB
     obtain ⟨z549, c550, hR⟩ := bnd_some hR
     refine o_scat F rfl rfl rfl c550 (fun a F => ?_)
     refine o_assign F rfl rfl (fun a F => ?_)
     refine x_end ?_
     refine x_bn ?_
     refine x_tn ?_
     refine x_reg ?_
     refine o_move F rfl rfl (fun a F => ?_)
     refine o_inc F rfl rfl rfl ink493 (fun a F => ?_)
     refine o_assign F rfl rfl (fun a F => ?_)
     refine x_end ?_
     refine x_tn ?_
     replace hR := l_go hR hn486
     exact ⟨_, Nat.lt_succ_self _, k493 + 1, rest494, z549, ⟨hd497.1, hd497.2.2⟩, rfl, hR, F.sub (sc rfl (sc rfl (sc rfl (sc rfl sn)))), hB, (scat_sz c550)⟩
   intro a w ⟨s491, ho485, F, hB, i492⟩
   subst ho485
   have hR := then_nx hk484
   refine x_bn ?_
   refine x_tn ?_
   refine x_reg ?_
   refine o_move F rfl rfl (fun a F => ?_)
   refine o_inc F rfl rfl rfl ink311 (fun a F => ?_)
   refine o_assign F rfl rfl (fun a F => ?_)
   refine x_end ?_
   refine x_tn ?_
   replace hR := l_go hR hn304
   exact ⟨_, Nat.lt_succ_self _, k311 + 1, rest312, s491, ⟨hd315.1, hd315.2.2⟩, rfl, hR, F.sub (sc rfl (sc rfl (sc rfl sn))), hB, i492⟩
 intro a w ⟨s309, ho303, F, hB, i310⟩
 subst ho303
 have hR := then_nx hk302
 refine x_tn ?_
 refine x_seq ?_
 refine x_reg ?_
 refine o_move F rfl rfl (fun a F => ?_)
 refine o_assign F rfl rfl (fun a F => ?_)
 refine x_end ?_
 refine x_tn ?_
 refine x_ret ?_
 refine x_res1 F rfl (rv_t F rfl) ?_
 obtain rfl := Option.some.inj hR
 exact ⟨_, rfl, hB, rfl, i310⟩

def spec_l09Text (N : Nat) (x0 : Gadgets) : Option ByteArray :=
 thn (σ := ByteArray) (
  forL (σ := ByteArray) (ρ := ByteArray) (fun (k61 : Nat) (x63 : Formula) (s57 : ByteArray) =>
   bnd (spec_l03Text N x63) fun z88 =>
   bnd (scat z88 (bstr [10])) fun z92 =>
   bnd (scat s57 z92) fun z94 =>
   some (.go z94)) x0.formulas 0 (bstr [])) fun s59 =>
 some s59
set_option maxHeartbeats 1000000 in
theorem spec_l09Text_c {N : Nat} {x0 : Gadgets} (r : ByteArray) (hR : spec_l09Text N x0 = some r) {v0 : Value} {b0 : List Nat} (w0 : World) (A0 : Rd (Pt 1 RGadgets) w0 v0 x0 b0) : Calls Tryd.prog 48 #[v0] w0 (Gives (fun v w' => v = .string r ∧ r.size ≤ maxLen) w0) := by
 unfold spec_l09Text at hR
 refine x_enter (L := [(0, v0)]) Tryd.func48 rfl rfl rfl (sc rfl sn) (fun a F => ?_)
 have hB := Below.refl w0.heap.size w0
 refine x_seq ?_
 refine x_reg ?_
 refine o_assign F rfl rfl (fun a F => ?_)
 refine x_end ?_
 refine x_tn ?_
 refine x_seq ?_
 refine x_reg ?_
 refine o_assign F rfl rfl (fun a F => ?_)
 refine x_end ?_
 refine x_tn ?_
 refine x_seq ?_
 refine x_seq ?_
 refine x_reg ?_
 refine o_assign F rfl rfl (fun a F => ?_)
 refine x_end ?_
 refine x_tn ?_
 obtain ⟨o51, hR, hk52⟩ := thn_some hR
 refine x_cutQ (fun a w => ∃ (s59 : ByteArray), o51 = .nx s59 ∧ Sk a 25 [(3, .string s59)] ∧ Below w0.heap.size w0 w ∧ s59.size ≤ maxLen) ?_ ?_
 ·
  refine x_blk ?_
  obtain ⟨fl55, hf56, hR⟩ := forL_gen hR
  refine x_loop (fun g a w => ∃ (k61 : Nat) (rest62 : List Formula) (s57 : ByteArray), (k61 ≤ x0.formulas.length ∧ x0.formulas.drop k61 = rest62) ∧ rest62.length = g ∧ forL fl55 rest62 k61 s57 = some o51 ∧ Sk a 25 [(4, .int .i64 (k61 : Int)), (0, v0), (3, .string s57)] ∧ Below w0.heap.size w0 w ∧ s57.size ≤ maxLen) x0.formulas.length ?_ ?_
  ·
   exact ⟨0, x0.formulas, (bstr []), ⟨Nat.zero_le _, rfl⟩, rfl, hR, F.sub (sc rfl (sc rfl (sc rfl sn))), hB, (by decide)⟩
  intro g64 a w ⟨k61, rest62, s57, hd65, hg66, hR, F, hB, i58⟩
  cases rest62 with
  | nil =>
   replace hR := forL_nil hR
   have hkk61 := drop_nil hd65.1 hd65.2
   have hlk61 := dec_no hkk61
   refine x_seq ?_
   refine x_seq ?_
   refine x_reg ?_
   refine o_move F rfl rfl (fun a F => ?_)
   refine o_move F rfl rfl (fun a F => ?_)
   refine o_nilCheckP F rfl rfl (A0.go hB) (fun a F => ?_)
   refine o_field (s' := 1) fa48_0 F rfl rfl (A0.go hB) RGadgets.f0 (fun a p96 b97 h98 s99 F => ?_)
   refine o_loadS Tryd.isAgg46 F rfl rfl h98 (fun a v100 b101 h102 s103 F => ?_)
   refine o_len Tryd.underlying46 F rfl rfl h102 (fun a F => ?_)
   have i104 := (h102).r.len64
   refine o_lss F rfl rfl rfl (fun a F => ?_)
   refine x_end ?_
   refine x_tn ?_
   refine x_ifF F rfl hlk61 ?_
   refine x_exit ?_
   refine x_te ?_
   refine x_te ?_
   refine x_be ?_
   refine x_tn ?_
   exact ⟨s57, (Option.some.inj hR).symm, F.sub (sc rfl sn), hB, i58⟩
  | cons x63 rest62 =>
   subst hg66
   replace hd65 := drop_cons hd65.2
   have hxk61 := ix_nat hd65.2.1
   obtain ⟨ck61, hR, hn54⟩ := forL_cons hR
   rw [hf56] at hR
   have hlk61 := dec_yes hd65.1
   refine x_seq ?_
   refine x_seq ?_
   refine x_reg ?_
   refine o_move F rfl rfl (fun a F => ?_)
   refine o_move F rfl rfl (fun a F => ?_)
   refine o_nilCheckP F rfl rfl (A0.go hB) (fun a F => ?_)
   refine o_field (s' := 1) fa48_0 F rfl rfl (A0.go hB) RGadgets.f0 (fun a p67 b68 h69 s70 F => ?_)
   refine o_loadS Tryd.isAgg46 F rfl rfl h69 (fun a v71 b72 h73 s74 F => ?_)
   refine o_len Tryd.underlying46 F rfl rfl h73 (fun a F => ?_)
   have i75 := (h73).r.len64
   refine o_lss F rfl rfl rfl (fun a F => ?_)
   refine x_end ?_
   refine x_tn ?_
   refine x_ifT F rfl hlk61 ?_
   refine x_skip ?_
   refine x_tn ?_
   refine x_seq ?_
   have ikk61 := k64 (Nat.le_of_lt hd65.1) i75
   have ink61 := inc64 hd65.1 i75
   refine x_blk ?_
   refine x_reg ?_
   refine o_move F rfl rfl (fun a F => ?_)
   refine o_move F rfl rfl (fun a F => ?_)
   refine o_nilCheckP F rfl rfl (A0.go hB) (fun a F => ?_)
   refine o_field (s' := 1) fa48_0 F rfl rfl (A0.go hB) RGadgets.f0 (fun a p76 b77 h78 s79 F => ?_)
   refine o_loadS Tryd.isAgg46 F rfl rfl h78 (fun a v80 b81 h82 s83 F => ?_)
   refine o_move F rfl rfl (fun a F => ?_)
   refine o_index Tryd.underlying46 Tryd.sizeOf89 F rfl rfl rfl h82 hxk61 (fun a p84 b85 h86 s87 F => ?_)
   obtain ⟨z88, c89, hR⟩ := bnd_some hR
   refine o_gives F rfl Tryd.call71 rfl (spec_l03Text_c z88 c89 _ h86) (fun a vv w l ⟨hv91, i90⟩ F => ?_)
   subst vv
   replace hB := Below.through l hB
   obtain ⟨z92, c93, hR⟩ := bnd_some hR
   refine o_scat F rfl rfl rfl c93 (fun a F => ?_)
   obtain ⟨z94, c95, hR⟩ := bnd_some hR
   refine o_scat F rfl rfl rfl c95 (fun a F => ?_)
   refine o_assign F rfl rfl (fun a F => ?_)
   refine x_end ?_
   refine x_bn ?_
   refine x_tn ?_
   refine x_reg ?_
   refine o_move F rfl rfl (fun a F => ?_)
   refine o_inc F rfl rfl rfl ink61 (fun a F => ?_)
   refine o_assign F rfl rfl (fun a F => ?_)
   refine x_end ?_
   refine x_tn ?_
   replace hR := l_go hR hn54
   exact ⟨_, Nat.lt_succ_self _, k61 + 1, rest62, z94, ⟨hd65.1, hd65.2.2⟩, rfl, hR, F.sub (sc rfl (sc rfl (sc rfl sn))), hB, (scat_sz c95)⟩
 intro a w ⟨s59, ho53, F, hB, i60⟩
 subst ho53
 have hR := then_nx hk52
 refine x_tn ?_
 refine x_seq ?_
 refine x_reg ?_
 refine o_move F rfl rfl (fun a F => ?_)
 refine o_assign F rfl rfl (fun a F => ?_)
 refine x_end ?_
 refine x_tn ?_
 refine x_ret ?_
 refine x_res1 F rfl (rv_t F rfl) ?_
 obtain rfl := Option.some.inj hR
 exact ⟨_, rfl, hB, rfl, i60⟩

def spec_GadgetsText (N : Nat) (x0 : Gadgets) : Option ByteArray :=
 bnd (spec_l09Shown (Gadgets.mk x0.formulas)) fun z19 =>
 if (!z19) then
  some ((bstr []))
 else
  bnd (spec_l09Text N (Gadgets.mk x0.formulas)) fun z22 =>
  some z22
set_option maxHeartbeats 1000000 in
theorem spec_GadgetsText_c {N : Nat} {x0 : Gadgets} (r : ByteArray) (hR : spec_GadgetsText N x0 = some r) {v0 : Value} {b0 : List Nat} (w0 : World) (A0 : Rd (Agg 1 RGadgets) w0 v0 x0 b0) : Calls Tryd.prog 21 #[v0] w0 (Gives (fun v w' => v = .string r ∧ r.size ≤ maxLen) w0) := by
 unfold spec_GadgetsText at hR
 refine x_enter (L := [(0, v0)]) Tryd.func21 rfl rfl rfl (sc rfl sn) (fun a F => ?_)
 have hB := Below.refl w0.heap.size w0
 refine x_seq ?_
 refine x_reg ?_
 obtain ⟨v14, b15, e17, h16, eb13⟩ := RGadgets.rd (A0.go hB)
 subst e17
 refine o_box F rfl rfl rfl (fun a w b11 K12 l BK12 F => ?_)
 have d18 := (dj1 h16.m BK12).symm
 have CK12 := Nat.le_trans hB.size BK12
 replace hB := Below.through l hB
 replace h16 := h16.go l
 refine o_assign F rfl rfl (fun a F => ?_)
 refine x_end ?_
 refine x_tn ?_
 refine x_seq ?_
 refine x_seq ?_
 refine x_reg ?_
 obtain ⟨z19, c20, hR⟩ := bnd_some hR
 refine o_says F rfl Tryd.call47 rfl (spec_l09Shown_c z19 c20 _ (RGadgets.blk K12 h16)) (fun a w l F => ?_)
 replace hB := Below.through l hB
 replace h16 := h16.go l
 replace K12 := K12.thru l
 refine o_not F rfl rfl (fun a F => ?_)
 refine x_end ?_
 refine x_tn ?_
 refine x_if F rfl (fun hb21 => ?_) (fun hb21 => ?_)
 ·
  replace hR := ifT hb21 hR
  refine x_seq ?_
  refine x_reg ?_
  refine o_assign F rfl rfl (fun a F => ?_)
  refine x_end ?_
  refine x_tn ?_
  refine x_ret ?_
  refine x_tr ?_
  refine x_res1 F rfl (rv_t F rfl) ?_
  obtain rfl := Option.some.inj hR
  exact ⟨_, rfl, hB, rfl, (by decide)⟩
 replace hR := ifF hb21 hR
 refine x_skip ?_
 refine x_tn ?_
 refine x_seq ?_
 refine x_reg ?_
 obtain ⟨z22, c23, hR⟩ := bnd_some hR
 refine o_gives F rfl Tryd.call48 rfl (spec_l09Text_c z22 c23 _ (RGadgets.blk K12 h16)) (fun a vv w l ⟨hv25, i24⟩ F => ?_)
 subst vv
 replace hB := Below.through l hB
 refine o_assign F rfl rfl (fun a F => ?_)
 refine x_end ?_
 refine x_tn ?_
 refine x_ret ?_
 refine x_res1 F rfl (rv_t F rfl) ?_
 obtain rfl := Option.some.inj hR
 exact ⟨_, rfl, hB, rfl, i24⟩

def impl_isArity (x0 : Int) : Option Bool :=
 bnd (impl_within x0 1 4) fun z11 =>
 some z11
set_option maxHeartbeats 1000000 in
theorem impl_isArity_c {x0 : Int} (r : Bool) (hR : impl_isArity x0 = some r)  (w0 : World) (hx0 : I64 x0) : Calls Tryd.prog 93 #[.int .i64 x0] w0 (Says (.bool r) w0) := by
 unfold impl_isArity at hR
 refine x_enter (L := [(0, .int .i64 x0)]) Tryd.func93 rfl rfl rfl (sc rfl sn) (fun a F => ?_)
 have hB := Below.refl w0.heap.size w0
 refine x_seq ?_
 refine x_reg ?_
 refine o_assign F rfl rfl (fun a F => ?_)
 refine x_end ?_
 refine x_tn ?_
 refine x_seq ?_
 refine x_reg ?_
 refine o_move F rfl rfl (fun a F => ?_)
 obtain ⟨z11, c12, hR⟩ := bnd_some hR
 refine o_says F rfl Tryd.call61 rfl (impl_within_c z11 c12 _ hx0 (show I64 (1) by decide) (show I64 (4) by decide)) (fun a w l F => ?_)
 replace hB := Below.through l hB
 refine o_assign F rfl rfl (fun a F => ?_)
 refine x_end ?_
 refine x_tn ?_
 refine x_ret ?_
 refine x_res1 F rfl (rv_t F rfl) ?_
 obtain rfl := Option.some.inj hR
 exact ⟨rfl, hB⟩

def impl_isFrame (x0 : Formula) : Option Bool :=
 thn (σ := Bool) (
  bnd (impl_isArity x0.free) fun z32 =>
  if z32 then  bnd (impl_within x0.vars x0.free 8) fun z35 =>
   if z35 then  some (.nx (decide ((x0.atoms.length : Int) ≤ 16))) else  some (.nx false) else  some (.nx false)) fun s31 =>
 some s31
set_option maxHeartbeats 1000000 in
theorem impl_isFrame_c {x0 : Formula} (r : Bool) (hR : impl_isFrame x0 = some r) {v0 : Value} {b0 : List Nat} (w0 : World) (A0 : Rd (Agg 3 RFormula) w0 v0 x0 b0) : Calls Tryd.prog 90 #[v0] w0 (Says (.bool r) w0) := by
 unfold impl_isFrame at hR
 refine x_enter (L := [(0, v0)]) Tryd.func90 rfl rfl rfl (sc rfl sn) (fun a F => ?_)
 have hB := Below.refl w0.heap.size w0
 refine x_seq ?_
 refine x_reg ?_
 obtain ⟨v16, b17, e19, i14, i15, h18, eb13⟩ := RFormula.rd (A0.go hB)
 subst e19
 refine o_box F rfl rfl rfl (fun a w b11 K12 l BK12 F => ?_)
 have d20 := (dj1 h18.m BK12).symm
 have CK12 := Nat.le_trans hB.size BK12
 replace hB := Below.through l hB
 replace h18 := h18.go l
 refine o_assign F rfl rfl (fun a F => ?_)
 refine x_end ?_
 refine x_tn ?_
 refine x_seq ?_
 obtain ⟨o28, hR, hk29⟩ := thn_some hR
 refine x_cutQ (fun a w => ∃ (s31 : Bool), o28 = .nx s31 ∧ Sk a 19 [(2, .bool s31)] ∧ Below w0.heap.size w0 w) ?_ ?_
 ·
  refine x_reg ?_
  refine o_bfield fa89_0 F rfl rfl rfl (fun a F => ?_)
  refine o_bload Tryd.isAgg2 F rfl rfl K12 rfl (fun a F => ?_)
  obtain ⟨z32, c33, hR⟩ := bnd_some hR
  refine o_says F rfl Tryd.call93 rfl (impl_isArity_c z32 c33 _ i14) (fun a w l F => ?_)
  replace hB := Below.through l hB
  replace h18 := h18.go l
  replace K12 := K12.thru l
  refine o_move F rfl rfl (fun a F => ?_)
  rcases bcases z32 with hb34 | hb34
  ·
   replace hR := ifT hb34 hR
   have F := F.eq (t := 6) rfl (congrArg Value.bool hb34)
   refine o_bfield fa89_1 F rfl rfl rfl (fun a F => ?_)
   refine o_bload Tryd.isAgg2 F rfl rfl K12 rfl (fun a F => ?_)
   refine o_bfield fa89_0 F rfl rfl rfl (fun a F => ?_)
   refine o_bload Tryd.isAgg2 F rfl rfl K12 rfl (fun a F => ?_)
   obtain ⟨z35, c36, hR⟩ := bnd_some hR
   refine o_says F rfl Tryd.call61 rfl (impl_within_c z35 c36 _ i15 i14 (show I64 (8) by decide)) (fun a w l F => ?_)
   replace hB := Below.through l hB
   replace h18 := h18.go l
   replace K12 := K12.thru l
   refine o_pickt F rfl rfl rfl (fun a F => ?_)
   refine o_move F rfl rfl (fun a F => ?_)
   rcases bcases z35 with hb37 | hb37
   ·
    replace hR := ifT hb37 hR
    have F := F.eq (t := 13) rfl (congrArg Value.bool hb37)
    refine o_bfield fa89_2 F rfl rfl rfl (fun a F => ?_)
    refine o_bload Tryd.isAgg87 F rfl rfl K12 rfl (fun a F => ?_)
    refine o_len Tryd.underlying87 F rfl rfl h18 (fun a F => ?_)
    have i38 := (h18).r.len64
    refine o_leq F rfl rfl rfl (fun a F => ?_)
    refine o_pickt F rfl rfl rfl (fun a F => ?_)
    refine o_assign F rfl rfl (fun a F => ?_)
    refine x_end ?_
    refine x_tn ?_
    exact ⟨(decide ((x0.atoms.length : Int) ≤ 16)), (Option.some.inj hR).symm, F.sub (sc rfl sn), hB⟩
   replace hR := ifF hb37 hR
   have F := F.eq (t := 13) rfl (congrArg Value.bool hb37)
   refine o_no F rfl rfl (fun a F => ?_)
   refine o_no F rfl rfl (fun a F => ?_)
   refine o_no F rfl rfl (fun a F => ?_)
   refine o_no F rfl rfl (fun a F => ?_)
   refine o_pickf F rfl rfl rfl (fun a F => ?_)
   refine o_assign F rfl rfl (fun a F => ?_)
   refine x_end ?_
   refine x_tn ?_
   exact ⟨false, (Option.some.inj hR).symm, F.sub (sc rfl sn), hB⟩
  replace hR := ifF hb34 hR
  have F := F.eq (t := 6) rfl (congrArg Value.bool hb34)
  refine o_no F rfl rfl (fun a F => ?_)
  refine o_no F rfl rfl (fun a F => ?_)
  refine o_no F rfl rfl (fun a F => ?_)
  refine o_no F rfl rfl (fun a F => ?_)
  refine o_no F rfl rfl (fun a F => ?_)
  refine o_pickf F rfl rfl rfl (fun a F => ?_)
  refine o_move F rfl rfl (fun a F => ?_)
  refine o_no F rfl rfl (fun a F => ?_)
  refine o_no F rfl rfl (fun a F => ?_)
  refine o_no F rfl rfl (fun a F => ?_)
  refine o_no F rfl rfl (fun a F => ?_)
  refine o_pickf F rfl rfl rfl (fun a F => ?_)
  refine o_assign F rfl rfl (fun a F => ?_)
  refine x_end ?_
  refine x_tn ?_
  exact ⟨false, (Option.some.inj hR).symm, F.sub (sc rfl sn), hB⟩
 intro a w ⟨s31, ho30, F, hB⟩
 subst ho30
 have hR := then_nx hk29
 refine x_tn ?_
 refine x_ret ?_
 refine x_res1 F rfl (rv_t F rfl) ?_
 obtain rfl := Option.some.inj hR
 exact ⟨rfl, hB⟩

def impl_isAtom (x0 : Atom) (x1 : Int) (x2 : Int) : Option Bool :=
 bnd (impl_areValues x2 x0.args x1) fun z20 =>
 some z20
set_option maxHeartbeats 1000000 in
theorem impl_isAtom_c {x0 : Atom} {x1 : Int} {x2 : Int} (r : Bool) (hR : impl_isAtom x0 x1 x2 = some r) {v0 : Value} {b0 : List Nat} (w0 : World) (A0 : Rd (Agg 2 RAtom) w0 v0 x0 b0) (hx1 : I64 x1) (hx2 : I64 x2) : Calls Tryd.prog 94 #[v0, .int .i64 x1, .int .i64 x2] w0 (Says (.bool r) w0) := by
 unfold impl_isAtom at hR
 refine x_enter (L := [(0, v0), (1, .int .i64 x1), (2, .int .i64 x2)]) Tryd.func94 rfl rfl rfl (sc rfl (sc rfl (sc rfl sn))) (fun a F => ?_)
 have hB := Below.refl w0.heap.size w0
 refine x_seq ?_
 refine x_reg ?_
 obtain ⟨v15, b16, e18, i14, h17, eb13⟩ := RAtom.rd (A0.go hB)
 subst e18
 refine o_box F rfl rfl rfl (fun a w b11 K12 l BK12 F => ?_)
 have d19 := (dj1 h17.m BK12).symm
 have CK12 := Nat.le_trans hB.size BK12
 replace hB := Below.through l hB
 replace h17 := h17.go l
 refine o_assign F rfl rfl (fun a F => ?_)
 refine x_end ?_
 refine x_tn ?_
 refine x_seq ?_
 refine x_reg ?_
 refine o_move F rfl rfl (fun a F => ?_)
 refine o_bfield fa122_1 F rfl rfl rfl (fun a F => ?_)
 refine o_bload Tryd.isAgg66 F rfl rfl K12 rfl (fun a F => ?_)
 refine o_move F rfl rfl (fun a F => ?_)
 obtain ⟨z20, c21, hR⟩ := bnd_some hR
 refine o_says F rfl Tryd.call62 rfl (impl_areValues_c z20 c21 _ hx2 h17 hx1) (fun a w l F => ?_)
 replace hB := Below.through l hB
 refine o_assign F rfl rfl (fun a F => ?_)
 refine x_end ?_
 refine x_tn ?_
 refine x_ret ?_
 refine x_res1 F rfl (rv_t F rfl) ?_
 obtain rfl := Option.some.inj hR
 exact ⟨rfl, hB⟩

def impl_isWritten_1 (x0 : Atom) (y0 : Formula) : Option Bool :=
 thn (σ := Bool) (
  bnd (impl_within x0.rel (-1) 5) fun z40 =>
  if (!z40) then  some (.nx true) else  bnd (impl_isArity (x0.args.length : Int)) fun z44 =>
   if (!z44) then  some (.nx true) else  bnd (impl_isAtom (Atom.mk x0.rel x0.args) (x0.args.length : Int) y0.vars) fun z54 =>
    some (.nx (!z54))) fun s39 =>
 some s39
set_option maxHeartbeats 1000000 in
theorem impl_isWritten_1_c {x0 : Atom} {y0 : Formula} (r : Bool) (hR : impl_isWritten_1 x0 y0 = some r) {v0 : Value} {b0 : List Nat} {v1 : Value} {b1 : List Nat} (w0 : World) (A0 : Rd (Agg 2 RAtom) w0 v0 x0 b0) (A1 : Rd (Pt 3 RFormula) w0 v1 y0 b1) : Calls Tryd.prog 92 #[v0, v1] w0 (Says (.bool r) w0) := by
 unfold impl_isWritten_1 at hR
 refine x_enter (L := [(0, v0), (1, v1)]) Tryd.func92 rfl rfl rfl (sc rfl (sc rfl sn)) (fun a F => ?_)
 have hB := Below.refl w0.heap.size w0
 refine x_seq ?_
 refine x_reg ?_
 obtain ⟨v15, b16, e18, i14, h17, eb13⟩ := RAtom.rd (A0.go hB)
 subst e18
 refine o_box F rfl rfl rfl (fun a w b11 K12 l BK12 F => ?_)
 have d19 := (dj1 h17.m BK12).symm
 have CK12 := Nat.le_trans hB.size BK12
 replace hB := Below.through l hB
 replace h17 := h17.go l
 refine o_assign F rfl rfl (fun a F => ?_)
 refine x_end ?_
 refine x_tn ?_
 refine x_seq ?_
 obtain ⟨o36, hR, hk37⟩ := thn_some hR
 refine x_cutQ (fun a w => ∃ (s39 : Bool), o36 = .nx s39 ∧ Sk a 25 [(3, .bool s39)] ∧ Below w0.heap.size w0 w) ?_ ?_
 ·
  refine x_reg ?_
  refine o_bfield fa122_0 F rfl rfl rfl (fun a F => ?_)
  refine o_bload Tryd.isAgg2 F rfl rfl K12 rfl (fun a F => ?_)
  obtain ⟨z40, c41, hR⟩ := bnd_some hR
  refine o_says F rfl Tryd.call61 rfl (impl_within_c z40 c41 _ i14 (show I64 (-1) by decide) (show I64 (5) by decide)) (fun a w l F => ?_)
  replace hB := Below.through l hB
  replace h17 := h17.go l
  replace K12 := K12.thru l
  refine o_not F rfl rfl (fun a F => ?_)
  refine o_move F rfl rfl (fun a F => ?_)
  rcases bcases (!z40) with hb42 | hb42
  ·
   replace hR := ifT hb42 hR
   have F := F.eq (t := 8) rfl (congrArg Value.bool hb42)
   refine o_no F rfl rfl (fun a F => ?_)
   refine o_no F rfl rfl (fun a F => ?_)
   refine o_no F rfl rfl (fun a F => ?_)
   refine o_no F rfl rfl (fun a F => ?_)
   refine o_no F rfl rfl (fun a F => ?_)
   refine o_pickt F rfl rfl rfl (fun a F => ?_)
   refine o_move F rfl rfl (fun a F => ?_)
   refine o_no F rfl rfl (fun a F => ?_)
   refine o_no F rfl rfl (fun a F => ?_)
   refine o_no F rfl rfl (fun a F => ?_)
   refine o_no F rfl rfl (fun a F => ?_)
   refine o_no F rfl rfl (fun a F => ?_)
   refine o_no F rfl rfl (fun a F => ?_)
   refine o_no F rfl rfl (fun a F => ?_)
   refine o_no F rfl rfl (fun a F => ?_)
   refine o_pickt F rfl rfl rfl (fun a F => ?_)
   refine o_assign F rfl rfl (fun a F => ?_)
   refine x_end ?_
   refine x_tn ?_
   exact ⟨true, (Option.some.inj hR).symm, F.sub (sc rfl sn), hB⟩
  replace hR := ifF hb42 hR
  have F := F.eq (t := 8) rfl (congrArg Value.bool hb42)
  refine o_bfield fa122_1 F rfl rfl rfl (fun a F => ?_)
  refine o_bload Tryd.isAgg66 F rfl rfl K12 rfl (fun a F => ?_)
  refine o_len Tryd.underlying66 F rfl rfl h17 (fun a F => ?_)
  have i43 := (h17).r.len64
  obtain ⟨z44, c45, hR⟩ := bnd_some hR
  refine o_says F rfl Tryd.call93 rfl (impl_isArity_c z44 c45 _ i43) (fun a w l F => ?_)
  replace hB := Below.through l hB
  replace h17 := h17.go l
  replace K12 := K12.thru l
  refine o_not F rfl rfl (fun a F => ?_)
  refine o_pickf F rfl rfl rfl (fun a F => ?_)
  refine o_move F rfl rfl (fun a F => ?_)
  rcases bcases (!z44) with hb46 | hb46
  ·
   replace hR := ifT hb46 hR
   have F := F.eq (t := 15) rfl (congrArg Value.bool hb46)
   refine o_no F rfl rfl (fun a F => ?_)
   refine o_no F rfl rfl (fun a F => ?_)
   refine o_no F rfl rfl (fun a F => ?_)
   refine o_no F rfl rfl (fun a F => ?_)
   refine o_no F rfl rfl (fun a F => ?_)
   refine o_no F rfl rfl (fun a F => ?_)
   refine o_no F rfl rfl (fun a F => ?_)
   refine o_no F rfl rfl (fun a F => ?_)
   refine o_pickt F rfl rfl rfl (fun a F => ?_)
   refine o_assign F rfl rfl (fun a F => ?_)
   refine x_end ?_
   refine x_tn ?_
   exact ⟨true, (Option.some.inj hR).symm, F.sub (sc rfl sn), hB⟩
  replace hR := ifF hb46 hR
  have F := F.eq (t := 15) rfl (congrArg Value.bool hb46)
  refine o_bloadA (cs := [.int .i64 x0.rel, v15]) Tryd.isAgg122 Tryd.sizeOf122 F rfl rfl K12 rfl (fun j hj => by match j, hj with | 0, _ => rfl | 1, _ => rfl) (fun a F => ?_)
  have h47 := RAtom.mk2 (w := w) i14 h17
  refine o_bfield fa122_1 F rfl rfl rfl (fun a F => ?_)
  refine o_bload Tryd.isAgg66 F rfl rfl K12 rfl (fun a F => ?_)
  refine o_len Tryd.underlying66 F rfl rfl h17 (fun a F => ?_)
  have i48 := (h17).r.len64
  refine o_field (s' := 1) fa89_1 F rfl rfl (A1.go hB) RFormula.f1 (fun a p49 b50 h51 s52 F => ?_)
  have i53 := (h51).i64
  refine o_loadI Tryd.isAgg2 F rfl rfl h51 (fun a F => ?_)
  obtain ⟨z54, c55, hR⟩ := bnd_some hR
  refine o_says F rfl Tryd.call94 rfl (impl_isAtom_c z54 c55 _ h47 i48 i53) (fun a w l F => ?_)
  replace hB := Below.through l hB
  refine o_not F rfl rfl (fun a F => ?_)
  refine o_pickf F rfl rfl rfl (fun a F => ?_)
  refine o_assign F rfl rfl (fun a F => ?_)
  refine x_end ?_
  refine x_tn ?_
  exact ⟨(!z54), (Option.some.inj hR).symm, F.sub (sc rfl sn), hB⟩
 intro a w ⟨s39, ho38, F, hB⟩
 subst ho38
 have hR := then_nx hk37
 refine x_tn ?_
 refine x_ret ?_
 refine x_res1 F rfl (rv_t F rfl) ?_
 obtain rfl := Option.some.inj hR
 exact ⟨rfl, hB⟩

def slices_IndexFunc_s_Atom_Atom (x0 : List Atom) (x1 : Atom → Option Bool) : Option Int :=
 thn (σ := Unit) (
  forL (σ := Unit) (ρ := Int) (fun (k29 : Nat) (x31 : Atom) (s : Unit) =>
    match s with
    | _ =>
    bnd (x1 x31) fun z43 =>
    if z43 then
     some (.ret ((k29 : Int)))
    else
     some (.go ())) x0 0 ()) fun _ =>
 some ((-1))
set_option maxHeartbeats 1000000 in
theorem slices_IndexFunc_s_Atom_Atom_c {x0 : List Atom} {x1 : Atom → Option Bool} (r : Int) (hR : slices_IndexFunc_s_Atom_Atom x0 x1 = some r) {v0 : Value} {b0 : List Nat} {g1 : FuncId} {lb1 : List Value} (w0 : World) (A0 : Rd (Sl 2 RAtom) w0 v0 x0 b0) (hg1 : ∀ args w, (callFunc g1 args).run Tryd.prog w = .ok (.enter g1 args) w) (hp1 : ∀ (a0 : Atom) (r : Bool), x1 a0 = some r → ∀ W, Below w0.heap.size w0 W → ∀ (u0 : Value) (c0 : List Nat), Rd (Agg 2 RAtom) W u0 a0 c0 → Calls Tryd.prog g1 ([u0] ++ lb1 : List Value).toArray W (Says (.bool r) W)) : Calls Tryd.prog 108 #[v0, .func (.func g1) #[] lb1.toArray] w0 (SaysI r w0) := by
 unfold slices_IndexFunc_s_Atom_Atom at hR
 refine x_enter (L := [(0, v0), (1, .func (.func g1) #[] lb1.toArray)]) Tryd.func108 rfl rfl rfl (sc rfl (sc rfl sn)) (fun a F => ?_)
 have hB := Below.refl w0.heap.size w0
 refine x_seq ?_
 refine x_reg ?_
 refine o_assign F rfl rfl (fun a F => ?_)
 refine x_end ?_
 refine x_tn ?_
 refine x_seq ?_
 refine x_seq ?_
 refine x_reg ?_
 refine o_move F rfl rfl (fun a F => ?_)
 refine o_len Tryd.underlying87 F rfl rfl (A0.go hB) (fun a F => ?_)
 have i11 := ((A0.go hB)).r.len64
 refine o_move F rfl rfl (fun a F => ?_)
 refine x_end ?_
 refine x_tn ?_
 obtain ⟨o23, hR, hk24⟩ := thn_some hR
 refine x_cutQ (fun a w => o23 = .nx () ∧ Sk a 19 [] ∧ Below w0.heap.size w0 w) ?_ ?_
 ·
  refine x_blk ?_
  obtain ⟨fl27, hf28, hR⟩ := forL_gen hR
  refine x_loop (fun g a w => ∃ (k29 : Nat) (rest30 : List Atom), (k29 ≤ x0.length ∧ x0.drop k29 = rest30) ∧ rest30.length = g ∧ forL fl27 rest30 k29 () = some o23 ∧ Sk a 19 [(8, .int .i64 (k29 : Int)), (0, v0), (1, .func (.func g1) #[] lb1.toArray), (7, .int .i64 (x0.length : Int))] ∧ Below w0.heap.size w0 w) x0.length ?_ ?_
  ·
   exact ⟨0, x0, ⟨Nat.zero_le _, rfl⟩, rfl, hR, F.sub (sc rfl (sc rfl (sc rfl (sc rfl sn)))), hB⟩
  intro g32 a w ⟨k29, rest30, hd33, hg34, hR, F, hB⟩
  cases rest30 with
  | nil =>
   replace hR := forL_nil hR
   have hkk29 := drop_nil hd33.1 hd33.2
   have hlk29 := dec_no hkk29
   refine x_seq ?_
   refine x_reg ?_
   refine o_lss F rfl rfl rfl (fun a F => ?_)
   refine x_end ?_
   refine x_tn ?_
   refine x_seq ?_
   refine x_ifF F rfl hlk29 ?_
   refine x_exit ?_
   refine x_te ?_
   refine x_te ?_
   refine x_be ?_
   refine x_tn ?_
   exact ⟨(Option.some.inj hR).symm, F.sub sn, hB⟩
  | cons x31 rest30 =>
   subst hg34
   replace hd33 := drop_cons hd33.2
   have hxk29 := ix_nat hd33.2.1
   obtain ⟨ck29, hR, hn26⟩ := forL_cons hR
   rw [hf28] at hR
   have hlk29 := dec_yes hd33.1
   refine x_seq ?_
   refine x_reg ?_
   refine o_lss F rfl rfl rfl (fun a F => ?_)
   refine x_end ?_
   refine x_tn ?_
   refine x_seq ?_
   refine x_ifT F rfl hlk29 ?_
   refine x_skip ?_
   refine x_tn ?_
   refine x_seq ?_
   have ikk29 := k64 (Nat.le_of_lt hd33.1) i11
   have ink29 := inc64 hd33.1 i11
   refine x_blk ?_
   refine x_seq ?_
   refine x_reg ?_
   refine o_move F rfl rfl (fun a F => ?_)
   refine o_assign F rfl rfl (fun a F => ?_)
   refine x_end ?_
   refine x_tn ?_
   refine x_seq ?_
   refine x_reg ?_
   refine o_move F rfl rfl (fun a F => ?_)
   refine o_move F rfl rfl (fun a F => ?_)
   refine o_move F rfl rfl (fun a F => ?_)
   refine o_index Tryd.underlying87 Tryd.sizeOf122 F rfl rfl rfl (A0.go hB) hxk29 (fun a p35 b36 h37 s38 F => ?_)
   refine o_loadA Tryd.isAgg122 Tryd.sizeOf122 F rfl rfl h37 (fun a v39 b40 h41 s42 F => ?_)
   obtain ⟨z43, c44, hR⟩ := bnd_some hR
   refine o_saysV F rfl rfl hg1 rfl (hp1 _ z43 c44 _ hB _ _ h41) (fun a w l F => ?_)
   replace hB := Below.through l hB
   refine x_end ?_
   refine x_tn ?_
   refine x_if F rfl (fun hb45 => ?_) (fun hb45 => ?_)
   ·
    replace hR := ifT hb45 hR
    refine x_seq ?_
    refine x_reg ?_
    refine o_move F rfl rfl (fun a F => ?_)
    refine o_assign F rfl rfl (fun a F => ?_)
    refine x_end ?_
    refine x_tn ?_
    refine x_ret ?_
    refine x_br ?_
    refine x_tr ?_
    refine x_tr ?_
    replace hR := l_ret hR hn26
    refine x_br ?_
    refine x_tr ?_
    replace hR := j_ret hR hk24
    refine x_tr ?_
    refine x_res1 F rfl (rv_t F rfl) ?_
    obtain rfl := Option.some.inj hR
    exact ⟨⟨rfl, hB⟩, ikk29⟩
   replace hR := ifF hb45 hR
   refine x_skip ?_
   refine x_bn ?_
   refine x_tn ?_
   refine x_reg ?_
   refine o_inc F rfl rfl rfl ink29 (fun a F => ?_)
   refine o_move F rfl rfl (fun a F => ?_)
   refine x_end ?_
   refine x_tn ?_
   replace hR := l_go hR hn26
   exact ⟨_, Nat.lt_succ_self _, k29 + 1, rest30, ⟨hd33.1, hd33.2.2⟩, rfl, hR, F.sub (sc rfl (sc rfl (sc rfl (sc rfl sn)))), hB⟩
 intro a w ⟨ho25, F, hB⟩
 subst ho25
 have hR := then_nx hk24
 refine x_tn ?_
 refine x_seq ?_
 refine x_reg ?_
 refine o_assign F rfl rfl (fun a F => ?_)
 refine x_end ?_
 refine x_tn ?_
 refine x_ret ?_
 refine x_res1 F rfl (rv_t F rfl) ?_
 obtain rfl := Option.some.inj hR
 exact ⟨⟨rfl, hB⟩, (show I64 (-1) by decide)⟩

def slices_ContainsFunc_s_Atom_Atom (x0 : List Atom) (x1 : Atom → Option Bool) : Option Bool :=
 bnd (slices_IndexFunc_s_Atom_Atom x0 x1) fun z11 =>
 some ((decide (0 ≤ z11)))
set_option maxHeartbeats 1000000 in
theorem slices_ContainsFunc_s_Atom_Atom_c {x0 : List Atom} {x1 : Atom → Option Bool} (r : Bool) (hR : slices_ContainsFunc_s_Atom_Atom x0 x1 = some r) {v0 : Value} {b0 : List Nat} {g1 : FuncId} {lb1 : List Value} (w0 : World) (A0 : Rd (Sl 2 RAtom) w0 v0 x0 b0) (hg1 : ∀ args w, (callFunc g1 args).run Tryd.prog w = .ok (.enter g1 args) w) (hp1 : ∀ (a0 : Atom) (r : Bool), x1 a0 = some r → ∀ W, Below w0.heap.size w0 W → ∀ (u0 : Value) (c0 : List Nat), Rd (Agg 2 RAtom) W u0 a0 c0 → Calls Tryd.prog g1 ([u0] ++ lb1 : List Value).toArray W (Says (.bool r) W)) : Calls Tryd.prog 91 #[v0, .func (.func g1) #[] lb1.toArray] w0 (Says (.bool r) w0) := by
 unfold slices_ContainsFunc_s_Atom_Atom at hR
 refine x_enter (L := [(0, v0), (1, .func (.func g1) #[] lb1.toArray)]) Tryd.func91 rfl rfl rfl (sc rfl (sc rfl sn)) (fun a F => ?_)
 have hB := Below.refl w0.heap.size w0
 refine x_seq ?_
 refine x_reg ?_
 refine o_assign F rfl rfl (fun a F => ?_)
 refine x_end ?_
 refine x_tn ?_
 refine x_seq ?_
 refine x_reg ?_
 refine o_move F rfl rfl (fun a F => ?_)
 refine o_move F rfl rfl (fun a F => ?_)
 obtain ⟨z11, c12, hR⟩ := bnd_some hR
 refine o_saysI F rfl Tryd.call108 rfl (slices_IndexFunc_s_Atom_Atom_c z11 c12 _ (A0.go hB) hg1 (fun a0 r h W l => hp1 a0 r h W (hB.through' l))) (fun a w l iz11 F => ?_)
 replace hB := Below.through l hB
 refine o_geq F rfl rfl rfl (fun a F => ?_)
 refine o_assign F rfl rfl (fun a F => ?_)
 refine x_end ?_
 refine x_tn ?_
 refine x_ret ?_
 refine x_res1 F rfl (rv_t F rfl) ?_
 obtain rfl := Option.some.inj hR
 exact ⟨rfl, hB⟩

def impl_isWritten (x0 : Formula) : Option Bool :=
 thn (σ := Bool) (
  bnd (impl_isFrame (Formula.mk x0.free x0.vars x0.atoms)) fun z32 =>
  if z32 then  bnd (slices_ContainsFunc_s_Atom_Atom x0.atoms (fun a0 => impl_isWritten_1 a0 (Formula.mk x0.free x0.vars x0.atoms))) fun z35 =>
   some (.nx (!z35)) else  some (.nx false)) fun s30 =>
 some s30
set_option maxHeartbeats 1000000 in
theorem impl_isWritten_c {x0 : Formula} (r : Bool) (hR : impl_isWritten x0 = some r) {v0 : Value} {b0 : List Nat} (w0 : World) (A0 : Rd (Agg 3 RFormula) w0 v0 x0 b0) : Calls Tryd.prog 73 #[v0] w0 (Says (.bool r) w0) := by
 unfold impl_isWritten at hR
 refine x_enter (L := [(0, v0)]) Tryd.func73 rfl rfl rfl (sc rfl sn) (fun a F => ?_)
 have hB := Below.refl w0.heap.size w0
 refine x_seq ?_
 refine x_reg ?_
 obtain ⟨v16, b17, e19, i14, i15, h18, eb13⟩ := RFormula.rd (A0.go hB)
 subst e19
 refine o_box F rfl rfl rfl (fun a w b11 K12 l BK12 F => ?_)
 have d20 := (dj1 h18.m BK12).symm
 have CK12 := Nat.le_trans hB.size BK12
 replace hB := Below.through l hB
 replace h18 := h18.go l
 refine o_assign F rfl rfl (fun a F => ?_)
 refine x_end ?_
 refine x_tn ?_
 refine x_seq ?_
 obtain ⟨o27, hR, hk28⟩ := thn_some hR
 refine x_cutQ (fun a w => ∃ (s30 : Bool), o27 = .nx s30 ∧ Sk a 12 [(2, .bool s30)] ∧ Below w0.heap.size w0 w) ?_ ?_
 ·
  refine x_reg ?_
  refine o_bloadA (cs := [.int .i64 x0.free, .int .i64 x0.vars, v16]) Tryd.isAgg89 Tryd.sizeOf89 F rfl rfl K12 rfl (fun j hj => by match j, hj with | 0, _ => rfl | 1, _ => rfl | 2, _ => rfl) (fun a F => ?_)
  have h31 := RFormula.mk2 (w := w) i14 i15 h18
  obtain ⟨z32, c33, hR⟩ := bnd_some hR
  refine o_says F rfl Tryd.call90 rfl (impl_isFrame_c z32 c33 _ h31) (fun a w l F => ?_)
  replace hB := Below.through l hB
  replace h18 := h18.go l
  replace K12 := K12.thru l
  refine o_move F rfl rfl (fun a F => ?_)
  rcases bcases z32 with hb34 | hb34
  ·
   replace hR := ifT hb34 hR
   have F := F.eq (t := 5) rfl (congrArg Value.bool hb34)
   refine o_bfield fa89_2 F rfl rfl rfl (fun a F => ?_)
   refine o_bload Tryd.isAgg87 F rfl rfl K12 rfl (fun a F => ?_)
   refine o_func F rfl rfl rfl (fun a F => ?_)
   obtain ⟨z35, c36, hR⟩ := bnd_some hR
   refine o_says F rfl Tryd.call91 rfl (slices_ContainsFunc_s_Atom_Atom_c z35 c36 _ h18 Tryd.call92 (fun a0 r h W l u0 c0 f0 => impl_isWritten_1_c r h W f0 ((RFormula.blk K12 i14 i15 h18).go l))) (fun a w l F => ?_)
   replace hB := Below.through l hB
   refine o_not F rfl rfl (fun a F => ?_)
   refine o_pickt F rfl rfl rfl (fun a F => ?_)
   refine o_assign F rfl rfl (fun a F => ?_)
   refine x_end ?_
   refine x_tn ?_
   exact ⟨(!z35), (Option.some.inj hR).symm, F.sub (sc rfl sn), hB⟩
  replace hR := ifF hb34 hR
  have F := F.eq (t := 5) rfl (congrArg Value.bool hb34)
  refine o_no F rfl rfl (fun a F => ?_)
  refine o_no F rfl rfl (fun a F => ?_)
  refine o_no F rfl rfl (fun a F => ?_)
  refine o_no F rfl rfl (fun a F => ?_)
  refine o_no F rfl rfl (fun a F => ?_)
  refine o_pickf F rfl rfl rfl (fun a F => ?_)
  refine o_assign F rfl rfl (fun a F => ?_)
  refine x_end ?_
  refine x_tn ?_
  exact ⟨false, (Option.some.inj hR).symm, F.sub (sc rfl sn), hB⟩
 intro a w ⟨s30, ho29, F, hB⟩
 subst ho29
 have hR := then_nx hk28
 refine x_tn ?_
 refine x_ret ?_
 refine x_res1 F rfl (rv_t F rfl) ?_
 obtain rfl := Option.some.inj hR
 exact ⟨rfl, hB⟩

def impl_digits (x0 : List Int) : Option ByteArray :=
 thn (σ := ByteArray) (
  forL (σ := ByteArray) (ρ := ByteArray) (fun (k35 : Nat) (x37 : Int) (s31 : ByteArray) =>
   bnd (impl_dec x37) fun z46 =>
   bnd (scat s31 z46) fun z50 =>
   some (.go z50)) x0 0 (bstr [])) fun s33 =>
 some s33
set_option maxHeartbeats 1000000 in
theorem impl_digits_c {x0 : List Int} (r : ByteArray) (hR : impl_digits x0 = some r) {v0 : Value} {b0 : List Nat} (w0 : World) (hG : Glo w0) (A0 : Rd (Sl 1 RInt) w0 v0 x0 b0) : Calls Tryd.prog 74 #[v0] w0 (Gives (fun v w' => v = .string r ∧ r.size ≤ maxLen) w0) := by
 unfold impl_digits at hR
 refine x_enter (L := [(0, v0)]) Tryd.func74 rfl rfl rfl (sc rfl sn) (fun a F => ?_)
 have hB := Below.refl w0.heap.size w0
 refine x_seq ?_
 refine x_reg ?_
 refine o_assign F rfl rfl (fun a F => ?_)
 refine x_end ?_
 refine x_tn ?_
 refine x_seq ?_
 refine x_reg ?_
 refine o_assign F rfl rfl (fun a F => ?_)
 refine x_end ?_
 refine x_tn ?_
 refine x_seq ?_
 refine x_seq ?_
 refine x_reg ?_
 refine o_move F rfl rfl (fun a F => ?_)
 refine o_len Tryd.underlying66 F rfl rfl (A0.go hB) (fun a F => ?_)
 have i11 := ((A0.go hB)).r.len64
 refine o_move F rfl rfl (fun a F => ?_)
 refine x_end ?_
 refine x_tn ?_
 obtain ⟨o25, hR, hk26⟩ := thn_some hR
 refine x_cutQ (fun a w => ∃ (s33 : ByteArray), o25 = .nx s33 ∧ Sk a 18 [(3, .string s33)] ∧ Below w0.heap.size w0 w ∧ s33.size ≤ maxLen) ?_ ?_
 ·
  refine x_blk ?_
  obtain ⟨fl29, hf30, hR⟩ := forL_gen hR
  refine x_loop (fun g a w => ∃ (k35 : Nat) (rest36 : List Int) (s31 : ByteArray), (k35 ≤ x0.length ∧ x0.drop k35 = rest36) ∧ rest36.length = g ∧ forL fl29 rest36 k35 s31 = some o25 ∧ Sk a 18 [(8, .int .i64 (k35 : Int)), (3, .string s31), (6, v0), (7, .int .i64 (x0.length : Int))] ∧ Below w0.heap.size w0 w ∧ s31.size ≤ maxLen) x0.length ?_ ?_
  ·
   exact ⟨0, x0, (bstr []), ⟨Nat.zero_le _, rfl⟩, rfl, hR, F.sub (sc rfl (sc rfl (sc rfl (sc rfl sn)))), hB, (by decide)⟩
  intro g38 a w ⟨k35, rest36, s31, hd39, hg40, hR, F, hB, i32⟩
  cases rest36 with
  | nil =>
   replace hR := forL_nil hR
   have hkk35 := drop_nil hd39.1 hd39.2
   have hlk35 := dec_no hkk35
   refine x_seq ?_
   refine x_reg ?_
   refine o_lss F rfl rfl rfl (fun a F => ?_)
   refine x_end ?_
   refine x_tn ?_
   refine x_seq ?_
   refine x_ifF F rfl hlk35 ?_
   refine x_exit ?_
   refine x_te ?_
   refine x_te ?_
   refine x_be ?_
   refine x_tn ?_
   exact ⟨s31, (Option.some.inj hR).symm, F.sub (sc rfl sn), hB, i32⟩
  | cons x37 rest36 =>
   subst hg40
   replace hd39 := drop_cons hd39.2
   have hxk35 := ix_nat hd39.2.1
   obtain ⟨ck35, hR, hn28⟩ := forL_cons hR
   rw [hf30] at hR
   have hlk35 := dec_yes hd39.1
   refine x_seq ?_
   refine x_reg ?_
   refine o_lss F rfl rfl rfl (fun a F => ?_)
   refine x_end ?_
   refine x_tn ?_
   refine x_seq ?_
   refine x_ifT F rfl hlk35 ?_
   refine x_skip ?_
   refine x_tn ?_
   refine x_seq ?_
   have ikk35 := k64 (Nat.le_of_lt hd39.1) i11
   have ink35 := inc64 hd39.1 i11
   refine x_blk ?_
   refine x_seq ?_
   refine x_reg ?_
   refine o_index Tryd.underlying66 Tryd.sizeOf2 F rfl rfl rfl (A0.go hB) hxk35 (fun a p41 b42 h43 s44 F => ?_)
   have i45 := (h43).i64
   refine o_loadI Tryd.isAgg2 F rfl rfl h43 (fun a F => ?_)
   refine o_assign F rfl rfl (fun a F => ?_)
   refine x_end ?_
   refine x_tn ?_
   refine x_reg ?_
   refine o_move F rfl rfl (fun a F => ?_)
   refine o_move F rfl rfl (fun a F => ?_)
   obtain ⟨z46, c47, hR⟩ := bnd_some hR
   refine o_gives F rfl Tryd.call45 rfl (impl_dec_c z46 c47 _ (hG.go hB) i45) (fun a vv w l ⟨hv49, i48⟩ F => ?_)
   subst vv
   replace hB := Below.through l hB
   obtain ⟨z50, c51, hR⟩ := bnd_some hR
   refine o_scat F rfl rfl rfl c51 (fun a F => ?_)
   refine o_assign F rfl rfl (fun a F => ?_)
   refine x_end ?_
   refine x_bn ?_
   refine x_tn ?_
   refine x_reg ?_
   refine o_inc F rfl rfl rfl ink35 (fun a F => ?_)
   refine o_move F rfl rfl (fun a F => ?_)
   refine x_end ?_
   refine x_tn ?_
   replace hR := l_go hR hn28
   exact ⟨_, Nat.lt_succ_self _, k35 + 1, rest36, z50, ⟨hd39.1, hd39.2.2⟩, rfl, hR, F.sub (sc rfl (sc rfl (sc rfl (sc rfl sn)))), hB, (scat_sz c51)⟩
 intro a w ⟨s33, ho27, F, hB, i34⟩
 subst ho27
 have hR := then_nx hk26
 refine x_tn ?_
 refine x_seq ?_
 refine x_reg ?_
 refine o_move F rfl rfl (fun a F => ?_)
 refine o_assign F rfl rfl (fun a F => ?_)
 refine x_end ?_
 refine x_tn ?_
 refine x_ret ?_
 refine x_res1 F rfl (rv_t F rfl) ?_
 obtain rfl := Option.some.inj hR
 exact ⟨_, rfl, hB, rfl, i34⟩

def impl_FormulaText (x0 : Formula) : Option ByteArray :=
 bnd (impl_isWritten (Formula.mk x0.free x0.vars x0.atoms)) fun z22 =>
 if (!z22) then
  some ((bstr []))
 else
  bnd (impl_dec x0.free) fun z25 =>
  bnd (impl_dec x0.vars) fun z29 =>
  thn (σ := (List ByteArray)) (
   forL (σ := (List ByteArray)) (ρ := ByteArray) (fun (k125 : Nat) (x127 : Atom) (s114 : (List ByteArray)) =>
    thn (σ := ByteArray) (
     if (x127.rel != (-1)) then
      bnd (impl_dec x127.rel) fun z165 =>
      bnd (scat (bstr [82]) z165) fun z169 =>
      some (.nx z169)
     else
      some (.nx (bstr [61]))) fun s162 =>
    bnd (scat s162 (bstr [58])) fun z171 =>
    bnd (impl_digits x127.args) fun z173 =>
    bnd (scat z171 z173) fun z177 =>
    bnd (ap s114 ([z177])) fun z186 =>
    some (.go z186)) x0.atoms 0 [(bstr [102, 111, 114, 109, 117, 108, 97]), z25, z29]) fun s120 =>
  bnd (strings_Join s120 (bstr [32])) fun z193 =>
  some z193
set_option maxHeartbeats 1000000 in
theorem impl_FormulaText_c {x0 : Formula} (r : ByteArray) (hR : impl_FormulaText x0 = some r) {v0 : Value} {b0 : List Nat} (w0 : World) (hG : Glo w0) (A0 : Rd (Agg 3 RFormula) w0 v0 x0 b0) : Calls Tryd.prog 50 #[v0] w0 (Gives (fun v w' => v = .string r ∧ r.size ≤ maxLen) w0) := by
 unfold impl_FormulaText at hR
 refine x_enter (L := [(0, v0)]) Tryd.func50 rfl rfl rfl (sc rfl sn) (fun a F => ?_)
 have hB := Below.refl w0.heap.size w0
 refine x_seq ?_
 refine x_reg ?_
 obtain ⟨v16, b17, e19, i14, i15, h18, eb13⟩ := RFormula.rd (A0.go hB)
 subst e19
 refine o_box F rfl rfl rfl (fun a w b11 K12 l BK12 F => ?_)
 have d20 := (dj1 h18.m BK12).symm
 have CK12 := Nat.le_trans hB.size BK12
 replace hB := Below.through l hB
 replace h18 := h18.go l
 refine o_assign F rfl rfl (fun a F => ?_)
 refine x_end ?_
 refine x_tn ?_
 refine x_seq ?_
 refine x_seq ?_
 refine x_reg ?_
 refine o_bloadA (cs := [.int .i64 x0.free, .int .i64 x0.vars, v16]) Tryd.isAgg89 Tryd.sizeOf89 F rfl rfl K12 rfl (fun j hj => by match j, hj with | 0, _ => rfl | 1, _ => rfl | 2, _ => rfl) (fun a F => ?_)
 have h21 := RFormula.mk2 (w := w) i14 i15 h18
 obtain ⟨z22, c23, hR⟩ := bnd_some hR
 refine o_says F rfl Tryd.call73 rfl (impl_isWritten_c z22 c23 _ h21) (fun a w l F => ?_)
 replace hB := Below.through l hB
 replace h18 := h18.go l
 replace K12 := K12.thru l
 refine o_not F rfl rfl (fun a F => ?_)
 refine x_end ?_
 refine x_tn ?_
 refine x_if F rfl (fun hb24 => ?_) (fun hb24 => ?_)
 ·
  replace hR := ifT hb24 hR
  refine x_seq ?_
  refine x_reg ?_
  refine o_assign F rfl rfl (fun a F => ?_)
  refine x_end ?_
  refine x_tn ?_
  refine x_ret ?_
  refine x_tr ?_
  refine x_res1 F rfl (rv_t F rfl) ?_
  obtain rfl := Option.some.inj hR
  exact ⟨_, rfl, hB, rfl, (by decide)⟩
 replace hR := ifF hb24 hR
 refine x_skip ?_
 refine x_tn ?_
 refine x_seq ?_
 refine x_drawn (by kernel_rfl) (fun w l => ?_)
 replace hB := Below.through l hB
 replace h18 := h18.go l
 replace K12 := K12.thru l
 refine b_q 0 (by kernel_rfl) rfl (by kernel_rfl) (by kernel_rfl) (by kernel_rfl) (by kernel_rfl) ?_
 refine v_val F rfl (fun w l => r_bfield fa89_0 F rfl rfl) (fun a F => ?_)
 refine b_q 1 (by kernel_rfl) rfl (by kernel_rfl) (by kernel_rfl) (by kernel_rfl) (by kernel_rfl) ?_
 refine v_val F rfl (fun w l => r_load1 Tryd.isAgg2 F rfl (((K12.thru l).cell _).trans rfl)) (fun a F => ?_)
 refine b_q 3 (by kernel_rfl) rfl (by kernel_rfl) (by kernel_rfl) (by kernel_rfl) (by kernel_rfl) ?_
 refine v_val F rfl (fun w l => r_bfield fa89_1 F rfl rfl) (fun a F => ?_)
 refine b_q 4 (by kernel_rfl) rfl (by kernel_rfl) (by kernel_rfl) (by kernel_rfl) (by kernel_rfl) ?_
 refine v_val F rfl (fun w l => r_load1 Tryd.isAgg2 F rfl (((K12.thru l).cell _).trans rfl)) (fun a F => ?_)
 refine b_e 2 rfl (by kernel_rfl) ?_
 obtain ⟨z25, c26, hR⟩ := bnd_some hR
 refine o_gives F rfl Tryd.call45 rfl (impl_dec_c z25 c26 _ (hG.go hB) i14) (fun a vv w l ⟨hv28, i27⟩ F => ?_)
 subst vv
 replace hB := Below.through l hB
 replace h18 := h18.go l
 replace K12 := K12.thru l
 refine x_end ?_
 refine x_tn ?_
 refine ⟨.inl l, ?_⟩
 refine b_e 5 rfl (by kernel_rfl) ?_
 obtain ⟨z29, c30, hR⟩ := bnd_some hR
 refine o_gives F rfl Tryd.call45 rfl (impl_dec_c z29 c30 _ (hG.go hB) i15) (fun a vv w l ⟨hv32, i31⟩ F => ?_)
 subst vv
 replace hB := Below.through l hB
 replace h18 := h18.go l
 replace K12 := K12.thru l
 refine x_end ?_
 refine x_tn ?_
 refine ⟨.inl l, ?_⟩
 refine b_e 6 rfl (by kernel_rfl) ?_
 refine o_litE Value.string _ litStr (fun _ => rfl) (xs := [.const (.string (bstr [102, 111, 114, 109, 117, 108, 97])), .tmp 12, .tmp 15]) (l := [(bstr [102, 111, 114, 109, 117, 108, 97]), z25, z29]) Tryd.underlying63 Tryd.sizeOf9 Tryd.zeroValue9 rfl F rfl rfl rfl (by simp) (by simp) rfl (by simp only [List.forall_mem_cons, List.not_mem_nil, false_implies, implies_true, and_true]; exact ⟨(by decide), i27, i31⟩) (fun a w v33 rb34 h35 l F => ?_)
 have d37 := Dj.new h18.m h35.ownR (Nat.le_refl _)
 have d38 := Dj.new (inm1 K12) h35.ownR (Nat.le_refl _)
 replace h35 := h35.base hB.size
 replace hB := Below.through l hB
 replace h18 := h18.go l
 replace K12 := K12.thru l
 refine x_end ?_
 refine x_tn ?_
 refine ⟨.inl l, ?_⟩
 refine b_q0 7 rfl (by kernel_rfl) (by kernel_rfl) (by kernel_rfl) ?_
 refine v_val F rfl (fun w l => r_assign F rfl) (fun a F => ?_)
 refine b_end (by kernel_rfl) ?_
 refine x_tn ?_
 refine x_seq ?_
 refine x_seq ?_
 refine x_reg ?_
 refine o_bfield fa89_2 F rfl rfl rfl (fun a F => ?_)
 refine o_bload Tryd.isAgg87 F rfl rfl K12 rfl (fun a F => ?_)
 refine o_len Tryd.underlying87 F rfl rfl h18 (fun a F => ?_)
 have i39 := (h18).r.len64
 refine o_move F rfl rfl (fun a F => ?_)
 refine x_end ?_
 refine x_tn ?_
 obtain ⟨o108, hR, hk109⟩ := thn_some hR
 refine x_cutQ (fun a w => ∃ (s120 : List ByteArray) (v123 : Value) (rb124 : List Nat), o108 = .nx s120 ∧ Sk a 43 [(3, v123)] ∧ Below w0.heap.size w0 w ∧ Row 1 RStr 9 w0.heap.size w v123 s120 rb124 ([])) ?_ ?_
 ·
  refine x_blk ?_
  obtain ⟨fl112, hf113, hR⟩ := forL_gen hR
  refine x_loop (fun g a w => ∃ (k125 : Nat) (rest126 : List Atom) (s114 : List ByteArray) (v117 : Value) (rb118 : List Nat), (k125 ≤ x0.atoms.length ∧ x0.atoms.drop k125 = rest126) ∧ rest126.length = g ∧ forL fl112 rest126 k125 s114 = some o108 ∧ Sk a 43 [(20, .int .i64 (k125 : Int)), (3, v117), (18, v16), (19, .int .i64 (x0.atoms.length : Int))] ∧ Below w0.heap.size w0 w ∧ Row 1 RStr 9 w0.heap.size w v117 s114 rb118 ([]) ∧ Rd (Sl 2 RAtom) w v16 x0.atoms b17 ∧ Dj b17 rb118) x0.atoms.length ?_ ?_
  ·
   exact ⟨0, x0.atoms, [(bstr [102, 111, 114, 109, 117, 108, 97]), z25, z29], v33, rb34, ⟨Nat.zero_le _, rfl⟩, rfl, hR, F.sub (sc rfl (sc rfl (sc rfl (sc rfl sn)))), hB, h35, h18, d37⟩
  intro g128 a w ⟨k125, rest126, s114, v117, rb118, hd129, hg130, hR, F, hB, h116, h18, d119⟩
  cases rest126 with
  | nil =>
   replace hR := forL_nil hR
   have hkk125 := drop_nil hd129.1 hd129.2
   have hlk125 := dec_no hkk125
   refine x_seq ?_
   refine x_reg ?_
   refine o_lss F rfl rfl rfl (fun a F => ?_)
   refine x_end ?_
   refine x_tn ?_
   refine x_seq ?_
   refine x_ifF F rfl hlk125 ?_
   refine x_exit ?_
   refine x_te ?_
   refine x_te ?_
   refine x_be ?_
   refine x_tn ?_
   exact ⟨s114, v117, rb118, (Option.some.inj hR).symm, F.sub (sc rfl sn), hB, h116⟩
  | cons x127 rest126 =>
   subst hg130
   replace hd129 := drop_cons hd129.2
   have hxk125 := ix_nat hd129.2.1
   obtain ⟨ck125, hR, hn111⟩ := forL_cons hR
   rw [hf113] at hR
   have hlk125 := dec_yes hd129.1
   refine x_seq ?_
   refine x_reg ?_
   refine o_lss F rfl rfl rfl (fun a F => ?_)
   refine x_end ?_
   refine x_tn ?_
   refine x_seq ?_
   refine x_ifT F rfl hlk125 ?_
   refine x_skip ?_
   refine x_tn ?_
   refine x_seq ?_
   have ikk125 := k64 (Nat.le_of_lt hd129.1) i39
   have ink125 := inc64 hd129.1 i39
   refine x_blk ?_
   refine x_seq ?_
   refine x_reg ?_
   refine o_index Tryd.underlying87 Tryd.sizeOf122 F rfl rfl rfl h18 hxk125 (fun a p131 b132 h133 s134 F => ?_)
   refine o_loadA Tryd.isAgg122 Tryd.sizeOf122 F rfl rfl h133 (fun a v135 b136 h137 s138 F => ?_)
   refine o_alloc Tryd.zeroValue122 F rfl rfl (fun a w b139 K140 l BK140 F => ?_)
   have d141 := dj1 h116.memR BK140
   have d142 := (dj1 h18.m BK140).symm
   have d143 := (dj1 h133.m BK140).symm
   have d144 := (dj1 h137.m BK140).symm
   have d145 := (dj1 h116.rd.m BK140).symm
   have CK140 := Nat.le_trans hB.size BK140
   replace hB := Below.through l hB
   replace h18 := h18.go l
   replace h116 := h116.go l
   replace h137 := h137.go l
   obtain ⟨v148, b149, e151, i147, h150, eb146⟩ := RAtom.rd h137
   subst e151
   refine o_bstoreA (vs := [.int .i64 x127.rel, v148]) Tryd.sizeOf122 F rfl rfl rfl K140 (oc rfl (oc (h150).r.one on)) (Nat.le_of_ble_eq_true rfl) rfl (fun w K140 l => ?_)
   replace hB := hB.o l (fun c hc => by rw [List.mem_singleton] at hc; rw [hc]; exact CK140) hB.size
   replace h18 := h18.goO l d142
   replace h116 := h116.goO l d145
   replace h150 := h150.goO l (Dj.sub d144 (fun c hc => by rw [eb146]; simp [hc]))
   refine x_end ?_
   refine x_tn ?_
   refine x_seq ?_
   refine x_reg ?_
   refine o_assign F rfl rfl (fun a F => ?_)
   refine x_end ?_
   refine x_tn ?_
   refine x_seq ?_
   refine x_seq ?_
   refine x_reg ?_
   refine o_bfield fa122_0 F rfl rfl rfl (fun a F => ?_)
   refine o_bload Tryd.isAgg2 F rfl rfl K140 rfl (fun a F => ?_)
   refine o_neq F rfl rfl rfl (fun a F => ?_)
   refine x_end ?_
   refine x_tn ?_
   obtain ⟨o159, hR, hk160⟩ := thn_some hR
   refine x_cutQ (fun a w => ∃ (s162 : ByteArray), o159 = .nx s162 ∧ Sk a 43 [(3, v117), (5, .pointer (some ⟨b139, 0, none⟩)), (6, .string s162), (18, v16), (19, .int .i64 (x0.atoms.length : Int)), (20, .int .i64 (k125 : Int))] ∧ Below w0.heap.size w0 w ∧ s162.size ≤ maxLen ∧ Rd (Sl 2 RAtom) w v16 x0.atoms b17 ∧ Row 1 RStr 9 w0.heap.size w v117 s114 rb118 ([]) ∧ Rd (Sl 1 RInt) w v148 x127.args b149 ∧ Blk w b139 #[.int .i64 x127.rel, v148] 122) ?_ ?_
   ·
    refine x_if F rfl (fun hb164 => ?_) (fun hb164 => ?_)
    ·
     replace hR := ifT hb164 hR
     refine x_reg ?_
     refine o_bfield fa122_0 F rfl rfl rfl (fun a F => ?_)
     refine o_bload Tryd.isAgg2 F rfl rfl K140 rfl (fun a F => ?_)
     obtain ⟨z165, c166, hR⟩ := bnd_some hR
     refine o_gives F rfl Tryd.call45 rfl (impl_dec_c z165 c166 _ (hG.go hB) i147) (fun a vv w l ⟨hv168, i167⟩ F => ?_)
     subst vv
     replace hB := Below.through l hB
     replace h18 := h18.go l
     replace h116 := h116.go l
     replace h150 := h150.go l
     replace K140 := K140.thru l
     obtain ⟨z169, c170, hR⟩ := bnd_some hR
     refine o_scat F rfl rfl rfl c170 (fun a F => ?_)
     refine o_assign F rfl rfl (fun a F => ?_)
     refine x_end ?_
     refine x_tn ?_
     exact ⟨z169, (Option.some.inj hR).symm, F.sub (sc rfl (sc rfl (sc rfl (sc rfl (sc rfl (sc rfl sn)))))), hB, (scat_sz c170), h18, h116, h150, K140⟩
    replace hR := ifF hb164 hR
    refine x_skip ?_
    refine x_tn ?_
    exact ⟨(bstr [61]), (Option.some.inj hR).symm, F.sub (sc rfl (sc rfl (sc rfl (sc rfl (sc rfl (sc rfl sn)))))), hB, (by decide), h18, h116, h150, K140⟩
   intro a w ⟨s162, ho161, F, hB, i163, h18, h116, h150, K140⟩
   subst ho161
   have hR := then_nx hk160
   refine x_tn ?_
   refine x_reg ?_
   refine o_move F rfl rfl (fun a F => ?_)
   refine o_move F rfl rfl (fun a F => ?_)
   obtain ⟨z171, c172, hR⟩ := bnd_some hR
   refine o_scat F rfl rfl rfl c172 (fun a F => ?_)
   refine o_bfield fa122_1 F rfl rfl rfl (fun a F => ?_)
   refine o_bload Tryd.isAgg66 F rfl rfl K140 rfl (fun a F => ?_)
   obtain ⟨z173, c174, hR⟩ := bnd_some hR
   refine o_gives F rfl Tryd.call74 rfl (impl_digits_c z173 c174 _ (hG.go hB) h150) (fun a vv w l ⟨hv176, i175⟩ F => ?_)
   subst vv
   replace hB := Below.through l hB
   replace h18 := h18.go l
   replace h116 := h116.go l
   obtain ⟨z177, c178, hR⟩ := bnd_some hR
   refine o_scat F rfl rfl rfl c178 (fun a F => ?_)
   refine o_lit1 (R := RStr) (y := z177) Tryd.underlying63 Tryd.sizeOf9 Tryd.zeroValue9 rfl (by decide) (by decide) F rfl rfl (El.str (scat_sz c178)) (fun a w v179 rb180 h181 l F => ?_)
   have d183 := Dj.new h18.m h181.ownR (Nat.le_refl _)
   have d184 := Dj.new h116.rd.m h181.ownR (Nat.le_refl _)
   have d185 := Dj.app' (Dj.new h116.memR h181.ownR (Nat.le_refl _)).symm (Dj.nil' _)
   replace h181 := h181.base hB.size
   replace hB := Below.through l hB
   replace h18 := h18.go l
   replace h116 := h116.go l
   obtain ⟨z186, c187, hR⟩ := bnd_some hR
   refine o_append (sz := 1) (R := RStr) (z := (.string ByteArray.empty)) (bytes := 16) Tryd.underlying63 (by kernel_rfl) rfl (by decide) (by decide) (by decide) F rfl rfl rfl h116 h181.src hB.size (Dj.nil _) c187 (fun a w v188 rb189 h190 l keep F => ?_)
   replace h190 := row_nil2 h190
   have d192 := keep _ h18.m d119
   replace hB := hB.o l h116.lo hB.size
   replace h18 := h18.goO l d119
   refine o_assign F rfl rfl (fun a F => ?_)
   refine x_end ?_
   refine x_bn ?_
   refine x_tn ?_
   refine x_reg ?_
   refine o_inc F rfl rfl rfl ink125 (fun a F => ?_)
   refine o_move F rfl rfl (fun a F => ?_)
   refine x_end ?_
   refine x_tn ?_
   replace hR := l_go hR hn111
   exact ⟨_, Nat.lt_succ_self _, k125 + 1, rest126, z186, v188, rb189, ⟨hd129.1, hd129.2.2⟩, rfl, hR, F.sub (sc rfl (sc rfl (sc rfl (sc rfl sn)))), hB, h190, h18, d192⟩
 intro a w ⟨s120, v123, rb124, ho110, F, hB, h122⟩
 subst ho110
 have hR := then_nx hk109
 refine x_tn ?_
 refine x_seq ?_
 refine x_reg ?_
 refine o_move F rfl rfl (fun a F => ?_)
 obtain ⟨z193, c194, hR⟩ := bnd_some hR
 refine o_gives F rfl Tryd.call65 rfl (strings_Join_c z193 c194 _ h122.rd (by decide)) (fun a vv w l ⟨hv196, i195⟩ F => ?_)
 subst vv
 replace hB := Below.through l hB
 refine o_assign F rfl rfl (fun a F => ?_)
 refine x_end ?_
 refine x_tn ?_
 refine x_ret ?_
 refine x_res1 F rfl (rv_t F rfl) ?_
 obtain rfl := Option.some.inj hR
 exact ⟨_, rfl, hB, rfl, i195⟩

def impl_GadgetsText (x0 : Gadgets) : Option ByteArray :=
 if (decide (6 < (x0.formulas.length : Int))) then
  some ((bstr []))
 else
  thn (σ := ByteArray) (
   forL (σ := ByteArray) (ρ := ByteArray) (fun (k65 : Nat) (x67 : Formula) (s60 : ByteArray) =>
    bnd (impl_FormulaText (Formula.mk x67.free x67.vars x67.atoms)) fun z92 =>
    if (sEq z92 (bstr [])) then
     some (.ret ((bstr [])))
    else
     bnd (scat z92 (bstr [10])) fun z97 =>
     bnd (scat s60 z97) fun z99 =>
     some (.go z99)) x0.formulas 0 (bstr [])) fun s62 =>
  some s62
set_option maxHeartbeats 1000000 in
theorem impl_GadgetsText_c {x0 : Gadgets} (r : ByteArray) (hR : impl_GadgetsText x0 = some r) {v0 : Value} {b0 : List Nat} (w0 : World) (hG : Glo w0) (A0 : Rd (Agg 1 RGadgets) w0 v0 x0 b0) : Calls Tryd.prog 23 #[v0] w0 (Gives (fun v w' => v = .string r ∧ r.size ≤ maxLen) w0) := by
 unfold impl_GadgetsText at hR
 refine x_enter (L := [(0, v0)]) Tryd.func23 rfl rfl rfl (sc rfl sn) (fun a F => ?_)
 have hB := Below.refl w0.heap.size w0
 refine x_seq ?_
 refine x_reg ?_
 obtain ⟨v14, b15, e17, h16, eb13⟩ := RGadgets.rd (A0.go hB)
 subst e17
 refine o_box F rfl rfl rfl (fun a w b11 K12 l BK12 F => ?_)
 have d18 := (dj1 h16.m BK12).symm
 have CK12 := Nat.le_trans hB.size BK12
 replace hB := Below.through l hB
 replace h16 := h16.go l
 refine o_assign F rfl rfl (fun a F => ?_)
 refine x_end ?_
 refine x_tn ?_
 refine x_seq ?_
 refine x_seq ?_
 refine x_reg ?_
 refine o_bfield fa48_0 F rfl rfl rfl (fun a F => ?_)
 refine o_bload Tryd.isAgg46 F rfl rfl K12 rfl (fun a F => ?_)
 refine o_len Tryd.underlying46 F rfl rfl h16 (fun a F => ?_)
 have i19 := (h16).r.len64
 refine o_gtr F rfl rfl rfl (fun a F => ?_)
 refine x_end ?_
 refine x_tn ?_
 refine x_if F rfl (fun hb20 => ?_) (fun hb20 => ?_)
 ·
  replace hR := ifT hb20 hR
  refine x_seq ?_
  refine x_reg ?_
  refine o_assign F rfl rfl (fun a F => ?_)
  refine x_end ?_
  refine x_tn ?_
  refine x_ret ?_
  refine x_tr ?_
  refine x_res1 F rfl (rv_t F rfl) ?_
  obtain rfl := Option.some.inj hR
  exact ⟨_, rfl, hB, rfl, (by decide)⟩
 replace hR := ifF hb20 hR
 refine x_skip ?_
 refine x_tn ?_
 refine x_seq ?_
 refine x_reg ?_
 refine o_assign F rfl rfl (fun a F => ?_)
 refine x_end ?_
 refine x_tn ?_
 refine x_seq ?_
 refine x_seq ?_
 refine x_reg ?_
 refine o_bfield fa48_0 F rfl rfl rfl (fun a F => ?_)
 refine o_bload Tryd.isAgg46 F rfl rfl K12 rfl (fun a F => ?_)
 refine o_len Tryd.underlying46 F rfl rfl h16 (fun a F => ?_)
 have i21 := (h16).r.len64
 refine o_move F rfl rfl (fun a F => ?_)
 refine x_end ?_
 refine x_tn ?_
 obtain ⟨o54, hR, hk55⟩ := thn_some hR
 refine x_cutQ (fun a w => ∃ (s62 : ByteArray), o54 = .nx s62 ∧ Sk a 28 [(3, .string s62)] ∧ Below w0.heap.size w0 w ∧ s62.size ≤ maxLen) ?_ ?_
 ·
  refine x_blk ?_
  obtain ⟨fl58, hf59, hR⟩ := forL_gen hR
  refine x_loop (fun g a w => ∃ (k65 : Nat) (rest66 : List Formula) (s60 : ByteArray), (k65 ≤ x0.formulas.length ∧ x0.formulas.drop k65 = rest66) ∧ rest66.length = g ∧ forL fl58 rest66 k65 s60 = some o54 ∧ Sk a 28 [(14, .int .i64 (k65 : Int)), (3, .string s60), (12, v14), (13, .int .i64 (x0.formulas.length : Int))] ∧ Below w0.heap.size w0 w ∧ s60.size ≤ maxLen ∧ Rd (Sl 3 RFormula) w v14 x0.formulas b15) x0.formulas.length ?_ ?_
  ·
   exact ⟨0, x0.formulas, (bstr []), ⟨Nat.zero_le _, rfl⟩, rfl, hR, F.sub (sc rfl (sc rfl (sc rfl (sc rfl sn)))), hB, (by decide), h16⟩
  intro g68 a w ⟨k65, rest66, s60, hd69, hg70, hR, F, hB, i61, h16⟩
  cases rest66 with
  | nil =>
   replace hR := forL_nil hR
   have hkk65 := drop_nil hd69.1 hd69.2
   have hlk65 := dec_no hkk65
   refine x_seq ?_
   refine x_reg ?_
   refine o_lss F rfl rfl rfl (fun a F => ?_)
   refine x_end ?_
   refine x_tn ?_
   refine x_seq ?_
   refine x_ifF F rfl hlk65 ?_
   refine x_exit ?_
   refine x_te ?_
   refine x_te ?_
   refine x_be ?_
   refine x_tn ?_
   exact ⟨s60, (Option.some.inj hR).symm, F.sub (sc rfl sn), hB, i61⟩
  | cons x67 rest66 =>
   subst hg70
   replace hd69 := drop_cons hd69.2
   have hxk65 := ix_nat hd69.2.1
   obtain ⟨ck65, hR, hn57⟩ := forL_cons hR
   rw [hf59] at hR
   have hlk65 := dec_yes hd69.1
   refine x_seq ?_
   refine x_reg ?_
   refine o_lss F rfl rfl rfl (fun a F => ?_)
   refine x_end ?_
   refine x_tn ?_
   refine x_seq ?_
   refine x_ifT F rfl hlk65 ?_
   refine x_skip ?_
   refine x_tn ?_
   refine x_seq ?_
   have ikk65 := k64 (Nat.le_of_lt hd69.1) i21
   have ink65 := inc64 hd69.1 i21
   refine x_blk ?_
   refine x_seq ?_
   refine x_reg ?_
   refine o_index Tryd.underlying46 Tryd.sizeOf89 F rfl rfl rfl h16 hxk65 (fun a p71 b72 h73 s74 F => ?_)
   refine o_loadA Tryd.isAgg89 Tryd.sizeOf89 F rfl rfl h73 (fun a v75 b76 h77 s78 F => ?_)
   refine o_alloc Tryd.zeroValue89 F rfl rfl (fun a w b79 K80 l BK80 F => ?_)
   have d81 := (dj1 h16.m BK80).symm
   have d82 := (dj1 h73.m BK80).symm
   have d83 := (dj1 h77.m BK80).symm
   have CK80 := Nat.le_trans hB.size BK80
   replace hB := Below.through l hB
   replace h16 := h16.go l
   replace h77 := h77.go l
   obtain ⟨v87, b88, e90, i85, i86, h89, eb84⟩ := RFormula.rd h77
   subst e90
   refine o_bstoreA (vs := [.int .i64 x67.free, .int .i64 x67.vars, v87]) Tryd.sizeOf89 F rfl rfl rfl K80 (oc rfl (oc rfl (oc (h89).r.one on))) (Nat.le_of_ble_eq_true rfl) rfl (fun w K80 l => ?_)
   replace hB := hB.o l (fun c hc => by rw [List.mem_singleton] at hc; rw [hc]; exact CK80) hB.size
   replace h16 := h16.goO l d81
   replace h89 := h89.goO l (Dj.sub d83 (fun c hc => by rw [eb84]; simp [hc]))
   refine x_end ?_
   refine x_tn ?_
   refine x_seq ?_
   refine x_reg ?_
   refine o_bloadA (cs := [.int .i64 x67.free, .int .i64 x67.vars, v87]) Tryd.isAgg89 Tryd.sizeOf89 F rfl rfl K80 rfl (fun j hj => by match j, hj with | 0, _ => rfl | 1, _ => rfl | 2, _ => rfl) (fun a F => ?_)
   have h91 := RFormula.mk2 (w := w) i85 i86 h89
   obtain ⟨z92, c93, hR⟩ := bnd_some hR
   refine o_gives F rfl Tryd.call50 rfl (impl_FormulaText_c z92 c93 _ (hG.go hB) h91) (fun a vv w l ⟨hv95, i94⟩ F => ?_)
   subst vv
   replace hB := Below.through l hB
   replace h16 := h16.go l
   refine o_assign F rfl rfl (fun a F => ?_)
   refine x_end ?_
   refine x_tn ?_
   refine x_seq ?_
   refine x_seq ?_
   refine x_reg ?_
   refine o_move F rfl rfl (fun a F => ?_)
   refine o_seql F rfl rfl rfl (fun a F => ?_)
   refine x_end ?_
   refine x_tn ?_
   refine x_if F rfl (fun hb96 => ?_) (fun hb96 => ?_)
   ·
    replace hR := ifT hb96 hR
    refine x_seq ?_
    refine x_reg ?_
    refine o_assign F rfl rfl (fun a F => ?_)
    refine x_end ?_
    refine x_tn ?_
    refine x_ret ?_
    refine x_tr ?_
    refine x_br ?_
    refine x_tr ?_
    refine x_tr ?_
    replace hR := l_ret hR hn57
    refine x_br ?_
    refine x_tr ?_
    replace hR := j_ret hR hk55
    refine x_tr ?_
    refine x_res1 F rfl (rv_t F rfl) ?_
    obtain rfl := Option.some.inj hR
    exact ⟨_, rfl, hB, rfl, (by decide)⟩
   replace hR := ifF hb96 hR
   refine x_skip ?_
   refine x_tn ?_
   refine x_reg ?_
   refine o_move F rfl rfl (fun a F => ?_)
   refine o_move F rfl rfl (fun a F => ?_)
   obtain ⟨z97, c98, hR⟩ := bnd_some hR
   refine o_scat F rfl rfl rfl c98 (fun a F => ?_)
   obtain ⟨z99, c100, hR⟩ := bnd_some hR
   refine o_scat F rfl rfl rfl c100 (fun a F => ?_)
   refine o_assign F rfl rfl (fun a F => ?_)
   refine x_end ?_
   refine x_bn ?_
   refine x_tn ?_
   refine x_reg ?_
   refine o_inc F rfl rfl rfl ink65 (fun a F => ?_)
   refine o_move F rfl rfl (fun a F => ?_)
   refine x_end ?_
   refine x_tn ?_
   replace hR := l_go hR hn57
   exact ⟨_, Nat.lt_succ_self _, k65 + 1, rest66, z99, ⟨hd69.1, hd69.2.2⟩, rfl, hR, F.sub (sc rfl (sc rfl (sc rfl (sc rfl sn)))), hB, (scat_sz c100), h16⟩
 intro a w ⟨s62, ho56, F, hB, i63⟩
 subst ho56
 have hR := then_nx hk55
 refine x_tn ?_
 refine x_seq ?_
 refine x_reg ?_
 refine o_move F rfl rfl (fun a F => ?_)
 refine o_assign F rfl rfl (fun a F => ?_)
 refine x_end ?_
 refine x_tn ?_
 refine x_ret ?_
 refine x_res1 F rfl (rv_t F rfl) ?_
 obtain rfl := Option.some.inj hR
 exact ⟨_, rfl, hB, rfl, i63⟩
end Go.Proofs.YtjjdbdlbjdoebaaDoor
