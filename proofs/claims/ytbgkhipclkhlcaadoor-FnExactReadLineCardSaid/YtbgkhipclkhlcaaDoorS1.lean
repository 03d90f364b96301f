/-
  Functions of the program as plain functions, and that they compute them. Printed by fxio.py.
-/
import Derived.Test.YtbgkhipclkhlcaaDoorZ
import Derived.Test.YtbgkhipclkhlcaaDoorGL
namespace Go.Proofs.YtbgkhipclkhlcaaDoor
set_option linter.unusedVariables false
set_option linter.unusedSimpArgs false
set_option maxRecDepth 100000
open Go.RowKit
def spec_l00In (x0 : Int) (x1 : Int) (x2 : Int) : Option Bool :=
 thn (σ := Bool) (
  if (decide (x1 ≤ x0)) then  some (.nx (decide (x0 ≤ x2))) else  some (.nx false)) fun s15 =>
 some s15
set_option maxHeartbeats 1000000 in
theorem spec_l00In_c {x0 : Int} {x1 : Int} {x2 : Int} (r : Bool) (hR : spec_l00In x0 x1 x2 = some r)  (w0 : World) (hx0 : I64 x0) (hx1 : I64 x1) (hx2 : I64 x2) : Calls Tryd.prog 25 #[.int .i64 x0, .int .i64 x1, .int .i64 x2] w0 (Says (.bool r) w0) := by
 unfold spec_l00In at hR
 refine x_enter (L := [(0, .int .i64 x0), (1, .int .i64 x1), (2, .int .i64 x2)]) Tryd.func25 rfl rfl rfl (sc rfl (sc rfl (sc rfl sn))) (fun a F => ?_)
 have hB := Below.refl w0.heap.size w0
 refine x_seq ?_
 refine x_reg ?_
 refine o_assign F rfl rfl (fun a F => ?_)
 refine x_end ?_
 refine x_tn ?_
 refine x_seq ?_
 obtain ⟨o12, hR, hk13⟩ := thn_some hR
 refine x_cutQ (fun a w => ∃ (s15 : Bool), o12 = .nx s15 ∧ Sk a 15 [(6, .bool s15)] ∧ Below w0.heap.size w0 w) ?_ ?_
 ·
  refine x_reg ?_
  refine o_move F rfl rfl (fun a F => ?_)
  refine o_move F rfl rfl (fun a F => ?_)
  refine o_geq F rfl rfl rfl (fun a F => ?_)
  refine o_move F rfl rfl (fun a F => ?_)
  rcases bcases (decide (x1 ≤ x0)) with hb16 | hb16
  ·
   replace hR := ifT hb16 hR
   have F := F.eq (t := 10) rfl (congrArg Value.bool hb16)
   refine o_move F rfl rfl (fun a F => ?_)
   refine o_move F rfl rfl (fun a F => ?_)
   refine o_leq F rfl rfl rfl (fun a F => ?_)
   refine o_pickt F rfl rfl rfl (fun a F => ?_)
   refine o_assign F rfl rfl (fun a F => ?_)
   refine x_end ?_
   refine x_tn ?_
   exact ⟨(decide (x0 ≤ x2)), (Option.some.inj hR).symm, F.sub (sc rfl sn), hB⟩
  replace hR := ifF hb16 hR
  have F := F.eq (t := 10) rfl (congrArg Value.bool hb16)
  refine o_no F rfl rfl (fun a F => ?_)
  refine o_no F rfl rfl (fun a F => ?_)
  refine o_no F rfl rfl (fun a F => ?_)
  refine o_pickf F rfl rfl rfl (fun a F => ?_)
  refine o_assign F rfl rfl (fun a F => ?_)
  refine x_end ?_
  refine x_tn ?_
  exact ⟨false, (Option.some.inj hR).symm, F.sub (sc rfl sn), hB⟩
 intro a w ⟨s15, ho14, F, hB⟩
 subst ho14
 have hR := then_nx hk13
 refine x_tn ?_
 refine x_ret ?_
 refine x_res1 F rfl (rv_t F rfl) ?_
 obtain rfl := Option.some.inj hR
 exact ⟨rfl, hB⟩

def spec_l08Words (x0 : Int) : Option (ByteArray × Int) :=
 if (x0 == 1) then
  some ((bstr [99, 104, 111, 111, 115, 101]), 2)
 else
  if (x0 == 2) then
   some ((bstr [114, 101, 109, 111, 118, 101]), 3)
  else
   if (x0 == 3) then
    some ((bstr [101, 109, 112, 116, 121]), 1)
   else
    some ((bstr []), 0)
set_option maxHeartbeats 1000000 in
theorem spec_l08Words_c {x0 : Int} (r : ByteArray × Int) (hR : spec_l08Words x0 = some r)  (w0 : World) (hx0 : I64 x0) : Calls Tryd.prog 14 #[.int .i64 x0] w0 (Gives (fun v w' => v = .tuple #[.string r.1, .int .i64 r.2] ∧ r.1.size ≤ maxLen ∧ I64 r.2) w0) := by
 unfold spec_l08Words at hR
 refine x_enter (L := [(0, .int .i64 x0)]) Tryd.func14 rfl rfl rfl (sc rfl sn) (fun a F => ?_)
 have hB := Below.refl w0.heap.size w0
 refine x_seq ?_
 refine x_reg ?_
 refine o_assign F rfl rfl (fun a F => ?_)
 refine o_assign F rfl rfl (fun a F => ?_)
 refine x_end ?_
 refine x_tn ?_
 refine x_seq ?_
 refine x_seq ?_
 refine x_reg ?_
 refine o_move F rfl rfl (fun a F => ?_)
 refine x_end ?_
 refine x_tn ?_
 refine x_blk ?_
 refine x_seq ?_
 refine x_reg ?_
 refine o_eql F rfl rfl rfl (fun a F => ?_)
 refine o_assign F rfl rfl (fun a F => ?_)
 refine x_end ?_
 refine x_tn ?_
 refine x_if F rfl (fun hb11 => ?_) (fun hb11 => ?_)
 ·
  replace hR := ifT hb11 hR
  refine x_seq ?_
  refine x_reg ?_
  refine o_assign F rfl rfl (fun a F => ?_)
  refine o_assign F rfl rfl (fun a F => ?_)
  refine x_end ?_
  refine x_tn ?_
  refine x_ret ?_
  refine x_br ?_
  refine x_tr ?_
  refine x_res2 F rfl (rv_t F rfl) (rv_t F rfl) ?_
  obtain rfl := Option.some.inj hR
  exact ⟨_, rfl, hB, rfl, (by decide), (show I64 (2) by decide)⟩
 replace hR := ifF hb11 hR
 refine x_seq ?_
 refine x_reg ?_
 refine o_eql F rfl rfl rfl (fun a F => ?_)
 refine o_assign F rfl rfl (fun a F => ?_)
 refine x_end ?_
 refine x_tn ?_
 refine x_if F rfl (fun hb12 => ?_) (fun hb12 => ?_)
 ·
  replace hR := ifT hb12 hR
  refine x_seq ?_
  refine x_reg ?_
  refine o_assign F rfl rfl (fun a F => ?_)
  refine o_assign F rfl rfl (fun a F => ?_)
  refine x_end ?_
  refine x_tn ?_
  refine x_ret ?_
  refine x_br ?_
  refine x_tr ?_
  refine x_res2 F rfl (rv_t F rfl) (rv_t F rfl) ?_
  obtain rfl := Option.some.inj hR
  exact ⟨_, rfl, hB, rfl, (by decide), (show I64 (3) by decide)⟩
 replace hR := ifF hb12 hR
 refine x_seq ?_
 refine x_reg ?_
 refine o_eql F rfl rfl rfl (fun a F => ?_)
 refine o_assign F rfl rfl (fun a F => ?_)
 refine x_end ?_
 refine x_tn ?_
 refine x_if F rfl (fun hb13 => ?_) (fun hb13 => ?_)
 ·
  replace hR := ifT hb13 hR
  refine x_seq ?_
  refine x_reg ?_
  refine o_assign F rfl rfl (fun a F => ?_)
  refine o_assign F rfl rfl (fun a F => ?_)
  refine x_end ?_
  refine x_tn ?_
  refine x_ret ?_
  refine x_br ?_
  refine x_tr ?_
  refine x_res2 F rfl (rv_t F rfl) (rv_t F rfl) ?_
  obtain rfl := Option.some.inj hR
  exact ⟨_, rfl, hB, rfl, (by decide), (show I64 (1) by decide)⟩
 replace hR := ifF hb13 hR
 refine x_skip ?_
 refine x_bn ?_
 refine x_tn ?_
 refine x_seq ?_
 refine x_reg ?_
 refine o_assign F rfl rfl (fun a F => ?_)
 refine o_assign F rfl rfl (fun a F => ?_)
 refine x_end ?_
 refine x_tn ?_
 refine x_ret ?_
 refine x_res2 F rfl (rv_t F rfl) (rv_t F rfl) ?_
 obtain rfl := Option.some.inj hR
 exact ⟨_, rfl, hB, rfl, (by decide), (show I64 (0) by decide)⟩

def spec_l08Numbers (x0 : Line) : Option (List Int) :=
 some ([x0.var, x0.value, x0.con])
set_option maxHeartbeats 1000000 in
theorem spec_l08Numbers_c {x0 : Line} (r : (List Int)) (hR : spec_l08Numbers x0 = some r) {v0 : Value} {b0 : List Nat} (w0 : World) (A0 : Rd (Pt 4 RLine) w0 v0 x0 b0) : Calls Tryd.prog 24 #[v0] w0 (Gives (fun v w' => ∃ (v1' : Value) (rb2' : List Nat), v = v1' ∧ Row 1 RInt 2 w0.heap.size w' v1' r rb2' []) w0) := by
 unfold spec_l08Numbers at hR
 refine x_enter (L := [(0, v0)]) Tryd.func24 rfl rfl rfl (sc rfl sn) (fun a F => ?_)
 have hB := Below.refl w0.heap.size w0
 refine x_seq ?_
 refine x_reg ?_
 refine o_assign F rfl rfl (fun a F => ?_)
 refine x_end ?_
 refine x_tn ?_
 refine x_seq ?_
 refine x_drawn (by kernel_rfl) (fun w l => ?_)
 replace hB := Below.through l hB
 refine b_q0 0 rfl (by kernel_rfl) (by kernel_rfl) (by kernel_rfl) ?_
 refine v_val F rfl (fun w l => r_move F rfl) (fun a F => ?_)
 refine b_q 1 (by kernel_rfl) rfl (by kernel_rfl) (by kernel_rfl) (by kernel_rfl) (by kernel_rfl) ?_
 refine v_val F rfl (fun w l => r_nilCheckP F rfl (A0.go hB)) (fun a F => ?_)
 refine b_q 2 (by kernel_rfl) rfl (by kernel_rfl) (by kernel_rfl) (by kernel_rfl) (by kernel_rfl) ?_
 refine v_field (s' := 1) fa23_1 F rfl rfl (A0.go hB) RLine.f1 (fun a p11 b12 h13 s14 F => ?_)
 refine b_q 3 (by kernel_rfl) rfl (by kernel_rfl) (by kernel_rfl) (by kernel_rfl) (by kernel_rfl) ?_
 have i15 := (h13).i64
 refine v_val F rfl (fun w l => r_loadI Tryd.isAgg2 F rfl ((h13).go l)) (fun a F => ?_)
 refine b_q0 4 rfl (by kernel_rfl) (by kernel_rfl) (by kernel_rfl) ?_
 refine v_val F rfl (fun w l => r_move F rfl) (fun a F => ?_)
 refine b_q 5 (by kernel_rfl) rfl (by kernel_rfl) (by kernel_rfl) (by kernel_rfl) (by kernel_rfl) ?_
 refine v_val F rfl (fun w l => r_nilCheckP F rfl (A0.go hB)) (fun a F => ?_)
 refine b_q 6 (by kernel_rfl) rfl (by kernel_rfl) (by kernel_rfl) (by kernel_rfl) (by kernel_rfl) ?_
 refine v_field (s' := 1) fa23_2 F rfl rfl (A0.go hB) RLine.f2 (fun a p16 b17 h18 s19 F => ?_)
 refine b_q 7 (by kernel_rfl) rfl (by kernel_rfl) (by kernel_rfl) (by kernel_rfl) (by kernel_rfl) ?_
 have i20 := (h18).i64
 refine v_val F rfl (fun w l => r_loadI Tryd.isAgg2 F rfl ((h18).go l)) (fun a F => ?_)
 refine b_q0 8 rfl (by kernel_rfl) (by kernel_rfl) (by kernel_rfl) ?_
 refine v_val F rfl (fun w l => r_move F rfl) (fun a F => ?_)
 refine b_q 9 (by kernel_rfl) rfl (by kernel_rfl) (by kernel_rfl) (by kernel_rfl) (by kernel_rfl) ?_
 refine v_val F rfl (fun w l => r_nilCheckP F rfl (A0.go hB)) (fun a F => ?_)
 refine b_q 10 (by kernel_rfl) rfl (by kernel_rfl) (by kernel_rfl) (by kernel_rfl) (by kernel_rfl) ?_
 refine v_field (s' := 1) fa23_3 F rfl rfl (A0.go hB) RLine.f3 (fun a p21 b22 h23 s24 F => ?_)
 refine b_q 11 (by kernel_rfl) rfl (by kernel_rfl) (by kernel_rfl) (by kernel_rfl) (by kernel_rfl) ?_
 have i25 := (h23).i64
 refine v_val F rfl (fun w l => r_loadI Tryd.isAgg2 F rfl ((h23).go l)) (fun a F => ?_)
 refine b_e 12 rfl (by kernel_rfl) ?_
 refine o_litI (xs := [.tmp 6, .tmp 10, .tmp 14]) (l := [x0.var, x0.value, x0.con]) Tryd.underlying41 Tryd.sizeOf2 Tryd.zeroValue2 rfl F rfl rfl rfl (by simp) (by simp) rfl (by simp only [List.forall_mem_cons, List.not_mem_nil, false_implies, implies_true, and_true]; exact ⟨i15, i20, i25⟩) (fun a w v26 rb27 h28 l F => ?_)
 replace h28 := h28.base hB.size
 replace hB := Below.through l hB
 refine x_end ?_
 refine x_tn ?_
 refine ⟨.inl l, ?_⟩
 refine b_q0 13 rfl (by kernel_rfl) (by kernel_rfl) (by kernel_rfl) ?_
 refine v_val F rfl (fun w l => r_assign F rfl) (fun a F => ?_)
 refine b_end (by kernel_rfl) ?_
 refine x_tn ?_
 refine x_ret ?_
 refine x_res1 F rfl (rv_t F rfl) ?_
 obtain rfl := Option.some.inj hR
 exact ⟨_, rfl, hB, v26, rb27, rfl, h28⟩

def spec_l08Line (x0 : Line) : Option Bool :=
 bnd (spec_l08Words x0.kind) fun z16 =>
 bnd (spec_l08Numbers x0) fun z21 =>
 thn (σ := Unit) (
  forI (σ := Unit) (ρ := Bool) (fun (k76 : Nat) (s : Unit) =>
    match s with
    | _ =>
    thn (σ := Bool) (
     bnd (ix z21 (k76 : Int)) fun z104 =>
     bnd (spec_l00In z104 0 999) fun z112 =>
     if (!z112) then  some (.nx true) else  if (decide (z16.2 ≤ (k76 : Int))) then  some (.nx (z104 != 0)) else  some (.nx false)) fun s103 =>
    if s103 then
     some (.ret false)
    else
     some (.go ())) (3 : Int).toNat 0 ()) fun _ =>
 some ((decide (0 < z16.2)))
set_option maxHeartbeats 1000000 in
theorem spec_l08Line_c {x0 : Line} (r : Bool) (hR : spec_l08Line x0 = some r) {v0 : Value} {b0 : List Nat} (w0 : World) (A0 : Rd (Pt 4 RLine) w0 v0 x0 b0) : Calls Tryd.prog 16 #[v0] w0 (Says (.bool r) w0) := by
 unfold spec_l08Line at hR
 refine x_enter (L := [(0, v0)]) Tryd.func16 rfl rfl rfl (sc rfl sn) (fun a F => ?_)
 have hB := Below.refl w0.heap.size w0
 refine x_seq ?_
 refine x_reg ?_
 refine o_assign F rfl rfl (fun a F => ?_)
 refine x_end ?_
 refine x_tn ?_
 refine x_seq ?_
 refine x_reg ?_
 refine o_move F rfl rfl (fun a F => ?_)
 refine o_nilCheckP F rfl rfl (A0.go hB) (fun a F => ?_)
 refine o_field (s' := 1) fa23_0 F rfl rfl (A0.go hB) RLine.f0 (fun a p11 b12 h13 s14 F => ?_)
 have i15 := (h13).i64
 refine o_loadI Tryd.isAgg2 F rfl rfl h13 (fun a F => ?_)
 obtain ⟨z16, c17, hR⟩ := bnd_some hR
 refine o_gives F rfl Tryd.call14 rfl (spec_l08Words_c z16 c17 _ i15) (fun a vv w l ⟨hv20, i18, i19⟩ F => ?_)
 subst vv
 replace hB := Below.through l hB
 refine o_move F rfl rfl (fun a F => ?_)
 refine o_extract F rfl rfl rfl (fun a F => ?_)
 refine o_extract F rfl rfl rfl (fun a F => ?_)
 refine o_assign F rfl rfl (fun a F => ?_)
 refine o_assign F rfl rfl (fun a F => ?_)
 refine x_end ?_
 refine x_tn ?_
 refine x_seq ?_
 refine x_reg ?_
 refine o_move F rfl rfl (fun a F => ?_)
 obtain ⟨z21, c22, hR⟩ := bnd_some hR
 refine o_gives F rfl Tryd.call24 rfl (spec_l08Numbers_c z21 c22 _ (A0.go hB)) (fun a vv w l ⟨v23, rb24, hv27, h26⟩ F => ?_)
 subst vv
 replace h26 := h26.base hB.size
 replace hB := Below.through l hB
 refine o_assign F rfl rfl (fun a F => ?_)
 refine x_end ?_
 refine x_tn ?_
 refine x_seq ?_
 refine x_seq ?_
 refine x_reg ?_
 refine o_assign F rfl rfl (fun a F => ?_)
 refine x_end ?_
 refine x_tn ?_
 obtain ⟨o70, hR, hk71⟩ := thn_some hR
 refine x_cutQ (fun a w => o70 = .nx () ∧ Sk a 41 [(4, .int .i64 z16.2)] ∧ Below w0.heap.size w0 w) ?_ ?_
 ·
  refine x_blk ?_
  obtain ⟨fl74, hf75, hR⟩ := forI_gen hR
  refine x_loop (fun g a w => ∃ (k76 : Nat), k76 + g = (3 : Int).toNat ∧ forI fl74 g k76 () = some o70 ∧ Sk a 41 [(6, .int .i64 (k76 : Int)), (4, .int .i64 z16.2), (5, v23)] ∧ Below w0.heap.size w0 w ∧ Row 1 RInt 2 w0.heap.size w v23 z21 rb24 ([])) (3 : Int).toNat ?_ ?_
  ·
   exact ⟨0, (Nat.zero_add _), hR, F.sub (sc rfl (sc rfl (sc rfl sn))), hB, h26⟩
  intro g79 a w ⟨k76, hd80, hR, F, hB, h26⟩
  cases g79 with
  | zero =>
   replace hR := forI_zero hR
   have hlk76 := dec_noI hd80
   refine x_seq ?_
   refine x_seq ?_
   refine x_reg ?_
   refine o_move F rfl rfl (fun a F => ?_)
   refine o_lss F rfl rfl rfl (fun a F => ?_)
   refine x_end ?_
   refine x_tn ?_
   refine x_ifF F rfl hlk76 ?_
   refine x_exit ?_
   refine x_te ?_
   refine x_te ?_
   refine x_be ?_
   refine x_tn ?_
   exact ⟨(Option.some.inj hR).symm, F.sub (sc rfl sn), hB⟩
  | succ g79 =>
   obtain ⟨ck76, hR, hn73⟩ := forI_succ hR
   rw [hf75] at hR
   have hlk76 := dec_yesI hd80
   refine x_seq ?_
   refine x_seq ?_
   refine x_reg ?_
   refine o_move F rfl rfl (fun a F => ?_)
   refine o_lss F rfl rfl rfl (fun a F => ?_)
   refine x_end ?_
   refine x_tn ?_
   refine x_ifT F rfl hlk76 ?_
   refine x_skip ?_
   refine x_tn ?_
   refine x_seq ?_
   have ikk76 := k64I hd80 (show I64 (3) by decide)
   have ink76 := inc64I hd80 (show I64 (3) by decide)
   refine x_blk ?_
   refine x_seq ?_
   obtain ⟨o100, hR, hk101⟩ := thn_some hR
   refine x_cutQ (fun a w => ∃ (s103 : Bool), o100 = .nx s103 ∧ Sk a 41 [(4, .int .i64 z16.2), (5, v23), (6, .int .i64 (k76 : Int)), (38, .bool s103)] ∧ Below w0.heap.size w0 w ∧ Row 1 RInt 2 w0.heap.size w v23 z21 rb24 ([])) ?_ ?_
   ·
    refine x_reg ?_
    refine o_move F rfl rfl (fun a F => ?_)
    refine o_move F rfl rfl (fun a F => ?_)
    obtain ⟨z104, c105, hR⟩ := bnd_some hR
    refine o_rindex Tryd.underlying41 Tryd.sizeOf2 F rfl rfl rfl h26 c105 (fun a p106 b107 h108 s109 rp110 F => ?_)
    have i111 := (h108).i64
    refine o_loadI Tryd.isAgg2 F rfl rfl h108 (fun a F => ?_)
    obtain ⟨z112, c113, hR⟩ := bnd_some hR
    refine o_says F rfl Tryd.call25 rfl (spec_l00In_c z112 c113 _ i111 (show I64 (0) by decide) (show I64 (999) by decide)) (fun a w l F => ?_)
    replace hB := Below.through l hB
    replace h26 := h26.go l
    refine o_not F rfl rfl (fun a F => ?_)
    refine o_move F rfl rfl (fun a F => ?_)
    rcases bcases (!z112) with hb114 | hb114
    ·
     replace hR := ifT hb114 hR
     have F := F.eq (t := 27) rfl (congrArg Value.bool hb114)
     refine o_no F rfl rfl (fun a F => ?_)
     refine o_no F rfl rfl (fun a F => ?_)
     refine o_no F rfl rfl (fun a F => ?_)
     refine o_no F rfl rfl (fun a F => ?_)
     refine o_no F rfl rfl (fun a F => ?_)
     refine o_no F rfl rfl (fun a F => ?_)
     refine o_no F rfl rfl (fun a F => ?_)
     refine o_no F rfl rfl (fun a F => ?_)
     refine o_no F rfl rfl (fun a F => ?_)
     refine o_no F rfl rfl (fun a F => ?_)
     refine o_pickt F rfl rfl rfl (fun a F => ?_)
     refine x_end ?_
     refine x_tn ?_
     exact ⟨true, (Option.some.inj hR).symm, F.sub (sc rfl (sc rfl (sc rfl (sc rfl sn)))), hB, h26⟩
    replace hR := ifF hb114 hR
    have F := F.eq (t := 27) rfl (congrArg Value.bool hb114)
    refine o_move F rfl rfl (fun a F => ?_)
    refine o_move F rfl rfl (fun a F => ?_)
    refine o_geq F rfl rfl rfl (fun a F => ?_)
    refine o_move F rfl rfl (fun a F => ?_)
    rcases bcases (decide (z16.2 ≤ (k76 : Int))) with hb115 | hb115
    ·
     replace hR := ifT hb115 hR
     have F := F.eq (t := 31) rfl (congrArg Value.bool hb115)
     refine o_move F rfl rfl (fun a F => ?_)
     refine o_move F rfl rfl (fun a F => ?_)
     refine o_rindex Tryd.underlying41 Tryd.sizeOf2 F rfl rfl rfl h26 c105 (fun a p116 b117 h118 s119 rp120 F => ?_)
     have i121 := (h118).i64
     refine o_loadI Tryd.isAgg2 F rfl rfl h118 (fun a F => ?_)
     refine o_neq F rfl rfl rfl (fun a F => ?_)
     refine o_pickt F rfl rfl rfl (fun a F => ?_)
     refine o_pickf F rfl rfl rfl (fun a F => ?_)
     refine x_end ?_
     refine x_tn ?_
     exact ⟨(z104 != 0), (Option.some.inj hR).symm, F.sub (sc rfl (sc rfl (sc rfl (sc rfl sn)))), hB, h26⟩
    replace hR := ifF hb115 hR
    have F := F.eq (t := 31) rfl (congrArg Value.bool hb115)
    refine o_no F rfl rfl (fun a F => ?_)
    refine o_no F rfl rfl (fun a F => ?_)
    refine o_no F rfl rfl (fun a F => ?_)
    refine o_no F rfl rfl (fun a F => ?_)
    refine o_no F rfl rfl (fun a F => ?_)
    refine o_pickf F rfl rfl rfl (fun a F => ?_)
    refine o_pickf F rfl rfl rfl (fun a F => ?_)
    refine x_end ?_
    refine x_tn ?_
    exact ⟨false, (Option.some.inj hR).symm, F.sub (sc rfl (sc rfl (sc rfl (sc rfl sn)))), hB, h26⟩
   intro a w ⟨s103, ho102, F, hB, h26⟩
   subst ho102
   have hR := then_nx hk101
   refine x_tn ?_
   refine x_if F rfl (fun hb122 => ?_) (fun hb122 => ?_)
   ·
    replace hR := ifT hb122 hR
    refine x_seq ?_
    refine x_reg ?_
    refine o_assign F rfl rfl (fun a F => ?_)
    refine x_end ?_
    refine x_tn ?_
    refine x_ret ?_
    refine x_br ?_
    refine x_tr ?_
    refine x_tr ?_
    replace hR := l_ret hR hn73
    refine x_br ?_
    refine x_tr ?_
    replace hR := j_ret hR hk71
    refine x_tr ?_
    refine x_res1 F rfl (rv_t F rfl) ?_
    obtain rfl := Option.some.inj hR
    exact ⟨rfl, hB⟩
   replace hR := ifF hb122 hR
   refine x_skip ?_
   refine x_bn ?_
   refine x_tn ?_
   refine x_reg ?_
   refine o_move F rfl rfl (fun a F => ?_)
   refine o_inc F rfl rfl rfl ink76 (fun a F => ?_)
   refine o_assign F rfl rfl (fun a F => ?_)
   refine x_end ?_
   refine x_tn ?_
   replace hR := l_go hR hn73
   exact ⟨_, Nat.lt_succ_self _, k76 + 1, (by omega), hR, F.sub (sc rfl (sc rfl (sc rfl sn))), hB, h26⟩
 intro a w ⟨ho72, F, hB⟩
 subst ho72
 have hR := then_nx hk71
 refine x_tn ?_
 refine x_seq ?_
 refine x_reg ?_
 refine o_move F rfl rfl (fun a F => ?_)
 refine o_gtr F rfl rfl rfl (fun a F => ?_)
 refine o_assign F rfl rfl (fun a F => ?_)
 refine x_end ?_
 refine x_tn ?_
 refine x_ret ?_
 refine x_res1 F rfl (rv_t F rfl) ?_
 obtain rfl := Option.some.inj hR
 exact ⟨rfl, hB⟩

def impl_within (x0 : Int) (x1 : Int) (x2 : Int) : Option Bool :=
 thn (σ := Bool) (
  if (decide (x1 ≤ x0)) then  some (.nx (decide (x0 ≤ x2))) else  some (.nx false)) fun s15 =>
 some s15
set_option maxHeartbeats 1000000 in
theorem impl_within_c {x0 : Int} {x1 : Int} {x2 : Int} (r : Bool) (hR : impl_within x0 x1 x2 = some r)  (w0 : World) (hx0 : I64 x0) (hx1 : I64 x1) (hx2 : I64 x2) : Calls Tryd.prog 32 #[.int .i64 x0, .int .i64 x1, .int .i64 x2] w0 (Says (.bool r) w0) := by
 unfold impl_within at hR
 refine x_enter (L := [(0, .int .i64 x0), (1, .int .i64 x1), (2, .int .i64 x2)]) Tryd.func32 rfl rfl rfl (sc rfl (sc rfl (sc rfl sn))) (fun a F => ?_)
 have hB := Below.refl w0.heap.size w0
 refine x_seq ?_
 refine x_reg ?_
 refine o_assign F rfl rfl (fun a F => ?_)
 refine x_end ?_
 refine x_tn ?_
 refine x_seq ?_
 obtain ⟨o12, hR, hk13⟩ := thn_some hR
 refine x_cutQ (fun a w => ∃ (s15 : Bool), o12 = .nx s15 ∧ Sk a 15 [(6, .bool s15)] ∧ Below w0.heap.size w0 w) ?_ ?_
 ·
  refine x_reg ?_
  refine o_move F rfl rfl (fun a F => ?_)
  refine o_move F rfl rfl (fun a F => ?_)
  refine o_geq F rfl rfl rfl (fun a F => ?_)
  refine o_move F rfl rfl (fun a F => ?_)
  rcases bcases (decide (x1 ≤ x0)) with hb16 | hb16
  ·
   replace hR := ifT hb16 hR
   have F := F.eq (t := 10) rfl (congrArg Value.bool hb16)
   refine o_move F rfl rfl (fun a F => ?_)
   refine o_move F rfl rfl (fun a F => ?_)
   refine o_leq F rfl rfl rfl (fun a F => ?_)
   refine o_pickt F rfl rfl rfl (fun a F => ?_)
   refine o_assign F rfl rfl (fun a F => ?_)
   refine x_end ?_
   refine x_tn ?_
   exact ⟨(decide (x0 ≤ x2)), (Option.some.inj hR).symm, F.sub (sc rfl sn), hB⟩
  replace hR := ifF hb16 hR
  have F := F.eq (t := 10) rfl (congrArg Value.bool hb16)
  refine o_no F rfl rfl (fun a F => ?_)
  refine o_no F rfl rfl (fun a F => ?_)
  refine o_no F rfl rfl (fun a F => ?_)
  refine o_pickf F rfl rfl rfl (fun a F => ?_)
  refine o_assign F rfl rfl (fun a F => ?_)
  refine x_end ?_
  refine x_tn ?_
  exact ⟨false, (Option.some.inj hR).symm, F.sub (sc rfl sn), hB⟩
 intro a w ⟨s15, ho14, F, hB⟩
 subst ho14
 have hR := then_nx hk13
 refine x_tn ?_
 refine x_ret ?_
 refine x_res1 F rfl (rv_t F rfl) ?_
 obtain rfl := Option.some.inj hR
 exact ⟨rfl, hB⟩

def slices_IndexFunc_s_int64_int64 (x0 : List Int) (x1 : Int → Option Bool) : Option Int :=
 thn (σ := Unit) (
  forL (σ := Unit) (ρ := Int) (fun (k26 : Nat) (x28 : Int) (s : Unit) =>
    match s with
    | _ =>
    bnd (x1 x28) fun z37 =>
    if z37 then
     some (.ret ((k26 : Int)))
    else
     some (.go ())) x0 0 ()) fun _ =>
 some ((-1))
set_option maxHeartbeats 1000000 in
theorem slices_IndexFunc_s_int64_int64_c {x0 : List Int} {x1 : Int → Option Bool} (r : Int) (hR : slices_IndexFunc_s_int64_int64 x0 x1 = some r) {v0 : Value} {b0 : List Nat} {g1 : FuncId} {lb1 : List Value} (w0 : World) (A0 : Rd (Sl 1 RInt) w0 v0 x0 b0) (hg1 : ∀ args w, (callFunc g1 args).run Tryd.prog w = .ok (.enter g1 args) w) (hp1 : ∀ (a0 : Int) (r : Bool), x1 a0 = some r → ∀ W, Below w0.heap.size w0 W → I64 a0 → Calls Tryd.prog g1 ([.int .i64 a0] ++ lb1 : List Value).toArray W (Says (.bool r) W)) : Calls Tryd.prog 49 #[v0, .func (.func g1) #[] lb1.toArray] w0 (SaysI r w0) := by
 unfold slices_IndexFunc_s_int64_int64 at hR
 refine x_enter (L := [(0, v0), (1, .func (.func g1) #[] lb1.toArray)]) Tryd.func49 rfl rfl rfl (sc rfl (sc rfl sn)) (fun a F => ?_)
 have hB := Below.refl w0.heap.size w0
 refine x_seq ?_
 refine x_reg ?_
 refine o_assign F rfl rfl (fun a F => ?_)
 refine x_end ?_
 refine x_tn ?_
 refine x_seq ?_
 refine x_seq ?_
 refine x_reg ?_
 refine o_move F rfl rfl (fun a F => ?_)
 refine o_len Tryd.underlying41 F rfl rfl (A0.go hB) (fun a F => ?_)
 have i11 := ((A0.go hB)).r.len64
 refine o_move F rfl rfl (fun a F => ?_)
 refine x_end ?_
 refine x_tn ?_
 obtain ⟨o20, hR, hk21⟩ := thn_some hR
 refine x_cutQ (fun a w => o20 = .nx () ∧ Sk a 19 [] ∧ Below w0.heap.size w0 w) ?_ ?_
 ·
  refine x_blk ?_
  obtain ⟨fl24, hf25, hR⟩ := forL_gen hR
  refine x_loop (fun g a w => ∃ (k26 : Nat) (rest27 : List Int), (k26 ≤ x0.length ∧ x0.drop k26 = rest27) ∧ rest27.length = g ∧ forL fl24 rest27 k26 () = some o20 ∧ Sk a 19 [(8, .int .i64 (k26 : Int)), (0, v0), (1, .func (.func g1) #[] lb1.toArray), (7, .int .i64 (x0.length : Int))] ∧ Below w0.heap.size w0 w) x0.length ?_ ?_
  ·
   exact ⟨0, x0, ⟨Nat.zero_le _, rfl⟩, rfl, hR, F.sub (sc rfl (sc rfl (sc rfl (sc rfl sn)))), hB⟩
  intro g29 a w ⟨k26, rest27, hd30, hg31, hR, F, hB⟩
  cases rest27 with
  | nil =>
   replace hR := forL_nil hR
   have hkk26 := drop_nil hd30.1 hd30.2
   have hlk26 := dec_no hkk26
   refine x_seq ?_
   refine x_reg ?_
   refine o_lss F rfl rfl rfl (fun a F => ?_)
   refine x_end ?_
   refine x_tn ?_
   refine x_seq ?_
   refine x_ifF F rfl hlk26 ?_
   refine x_exit ?_
   refine x_te ?_
   refine x_te ?_
   refine x_be ?_
   refine x_tn ?_
   exact ⟨(Option.some.inj hR).symm, F.sub sn, hB⟩
  | cons x28 rest27 =>
   subst hg31
   replace hd30 := drop_cons hd30.2
   have hxk26 := ix_nat hd30.2.1
   obtain ⟨ck26, hR, hn23⟩ := forL_cons hR
   rw [hf25] at hR
   have hlk26 := dec_yes hd30.1
   refine x_seq ?_
   refine x_reg ?_
   refine o_lss F rfl rfl rfl (fun a F => ?_)
   refine x_end ?_
   refine x_tn ?_
   refine x_seq ?_
   refine x_ifT F rfl hlk26 ?_
   refine x_skip ?_
   refine x_tn ?_
   refine x_seq ?_
   have ikk26 := k64 (Nat.le_of_lt hd30.1) i11
   have ink26 := inc64 hd30.1 i11
   refine x_blk ?_
   refine x_seq ?_
   refine x_reg ?_
   refine o_move F rfl rfl (fun a F => ?_)
   refine o_assign F rfl rfl (fun a F => ?_)
   refine x_end ?_
   refine x_tn ?_
   refine x_seq ?_
   refine x_reg ?_
   refine o_move F rfl rfl (fun a F => ?_)
   refine o_move F rfl rfl (fun a F => ?_)
   refine o_move F rfl rfl (fun a F => ?_)
   refine o_index Tryd.underlying41 Tryd.sizeOf2 F rfl rfl rfl (A0.go hB) hxk26 (fun a p32 b33 h34 s35 F => ?_)
   have i36 := (h34).i64
   refine o_loadI Tryd.isAgg2 F rfl rfl h34 (fun a F => ?_)
   obtain ⟨z37, c38, hR⟩ := bnd_some hR
   refine o_saysV F rfl rfl hg1 rfl (hp1 _ z37 c38 _ hB i36) (fun a w l F => ?_)
   replace hB := Below.through l hB
   refine x_end ?_
   refine x_tn ?_
   refine x_if F rfl (fun hb39 => ?_) (fun hb39 => ?_)
   ·
    replace hR := ifT hb39 hR
    refine x_seq ?_
    refine x_reg ?_
    refine o_move F rfl rfl (fun a F => ?_)
    refine o_assign F rfl rfl (fun a F => ?_)
    refine x_end ?_
    refine x_tn ?_
    refine x_ret ?_
    refine x_br ?_
    refine x_tr ?_
    refine x_tr ?_
    replace hR := l_ret hR hn23
    refine x_br ?_
    refine x_tr ?_
    replace hR := j_ret hR hk21
    refine x_tr ?_
    refine x_res1 F rfl (rv_t F rfl) ?_
    obtain rfl := Option.some.inj hR
    exact ⟨⟨rfl, hB⟩, ikk26⟩
   replace hR := ifF hb39 hR
   refine x_skip ?_
   refine x_bn ?_
   refine x_tn ?_
   refine x_reg ?_
   refine o_inc F rfl rfl rfl ink26 (fun a F => ?_)
   refine o_move F rfl rfl (fun a F => ?_)
   refine x_end ?_
   refine x_tn ?_
   replace hR := l_go hR hn23
   exact ⟨_, Nat.lt_succ_self _, k26 + 1, rest27, ⟨hd30.1, hd30.2.2⟩, rfl, hR, F.sub (sc rfl (sc rfl (sc rfl (sc rfl sn)))), hB⟩
 intro a w ⟨ho22, F, hB⟩
 subst ho22
 have hR := then_nx hk21
 refine x_tn ?_
 refine x_seq ?_
 refine x_reg ?_
 refine o_assign F rfl rfl (fun a F => ?_)
 refine x_end ?_
 refine x_tn ?_
 refine x_ret ?_
 refine x_res1 F rfl (rv_t F rfl) ?_
 obtain rfl := Option.some.inj hR
 exact ⟨⟨rfl, hB⟩, (show I64 (-1) by decide)⟩

def slices_ContainsFunc_s_int64_int64 (x0 : List Int) (x1 : Int → Option Bool) : Option Bool :=
 bnd (slices_IndexFunc_s_int64_int64 x0 x1) fun z11 =>
 some ((decide (0 ≤ z11)))
set_option maxHeartbeats 1000000 in
theorem slices_ContainsFunc_s_int64_int64_c {x0 : List Int} {x1 : Int → Option Bool} (r : Bool) (hR : slices_ContainsFunc_s_int64_int64 x0 x1 = some r) {v0 : Value} {b0 : List Nat} {g1 : FuncId} {lb1 : List Value} (w0 : World) (A0 : Rd (Sl 1 RInt) w0 v0 x0 b0) (hg1 : ∀ args w, (callFunc g1 args).run Tryd.prog w = .ok (.enter g1 args) w) (hp1 : ∀ (a0 : Int) (r : Bool), x1 a0 = some r → ∀ W, Below w0.heap.size w0 W → I64 a0 → Calls Tryd.prog g1 ([.int .i64 a0] ++ lb1 : List Value).toArray W (Says (.bool r) W)) : Calls Tryd.prog 34 #[v0, .func (.func g1) #[] lb1.toArray] w0 (Says (.bool r) w0) := by
 unfold slices_ContainsFunc_s_int64_int64 at hR
 refine x_enter (L := [(0, v0), (1, .func (.func g1) #[] lb1.toArray)]) Tryd.func34 rfl rfl rfl (sc rfl (sc rfl sn)) (fun a F => ?_)
 have hB := Below.refl w0.heap.size w0
 refine x_seq ?_
 refine x_reg ?_
 refine o_assign F rfl rfl (fun a F => ?_)
 refine x_end ?_
 refine x_tn ?_
 refine x_seq ?_
 refine x_reg ?_
 refine o_move F rfl rfl (fun a F => ?_)
 refine o_move F rfl rfl (fun a F => ?_)
 obtain ⟨z11, c12, hR⟩ := bnd_some hR
 refine o_saysI F rfl Tryd.call49 rfl (slices_IndexFunc_s_int64_int64_c z11 c12 _ (A0.go hB) hg1 (fun a0 r h W l => hp1 a0 r h W (hB.through' l))) (fun a w l iz11 F => ?_)
 replace hB := Below.through l hB
 refine o_geq F rfl rfl rfl (fun a F => ?_)
 refine o_assign F rfl rfl (fun a F => ?_)
 refine x_end ?_
 refine x_tn ?_
 refine x_ret ?_
 refine x_res1 F rfl (rv_t F rfl) ?_
 obtain rfl := Option.some.inj hR
 exact ⟨rfl, hB⟩

def impl_isValue (x0 : Int) (x1 : Int) : Option Bool :=
 bnd (ck (x0 - 1)) fun z11 =>
 bnd (impl_within x1 0 z11) fun z13 =>
 some z13
set_option maxHeartbeats 1000000 in
theorem impl_isValue_c {x0 : Int} {x1 : Int} (r : Bool) (hR : impl_isValue x0 x1 = some r)  (w0 : World) (hx0 : I64 x0) (hx1 : I64 x1) : Calls Tryd.prog 48 #[.int .i64 x0, .int .i64 x1] w0 (Says (.bool r) w0) := by
 unfold impl_isValue at hR
 refine x_enter (L := [(0, .int .i64 x0), (1, .int .i64 x1)]) Tryd.func48 rfl rfl rfl (sc rfl (sc rfl sn)) (fun a F => ?_)
 have hB := Below.refl w0.heap.size w0
 refine x_seq ?_
 refine x_reg ?_
 refine o_assign F rfl rfl (fun a F => ?_)
 refine x_end ?_
 refine x_tn ?_
 refine x_seq ?_
 refine x_reg ?_
 refine o_move F rfl rfl (fun a F => ?_)
 refine o_move F rfl rfl (fun a F => ?_)
 obtain ⟨z11, c12, hR⟩ := bnd_some hR
 refine o_sub F rfl rfl rfl c12 (fun a F => ?_)
 obtain ⟨z13, c14, hR⟩ := bnd_some hR
 refine o_says F rfl Tryd.call32 rfl (impl_within_c z13 c14 _ hx1 (show I64 (0) by decide) (ck64 c12)) (fun a w l F => ?_)
 replace hB := Below.through l hB
 refine o_assign F rfl rfl (fun a F => ?_)
 refine x_end ?_
 refine x_tn ?_
 refine x_ret ?_
 refine x_res1 F rfl (rv_t F rfl) ?_
 obtain rfl := Option.some.inj hR
 exact ⟨rfl, hB⟩

def impl_areValues_1 (x0 : Int) (y0 : Int) : Option Bool :=
 bnd (impl_isValue y0 x0) fun z12 =>
 some ((!z12))
set_option maxHeartbeats 1000000 in
theorem impl_areValues_1_c {x0 : Int} {y0 : Int} (r : Bool) (hR : impl_areValues_1 x0 y0 = some r) {v1 : Value} {b1 : List Nat} (w0 : World) (hx0 : I64 x0) (A1 : Rd (Pt 1 RInt) w0 v1 y0 b1) : Calls Tryd.prog 47 #[.int .i64 x0, v1] w0 (Says (.bool r) w0) := by
 unfold impl_areValues_1 at hR
 refine x_enter (L := [(0, .int .i64 x0), (1, v1)]) Tryd.func47 rfl rfl rfl (sc rfl (sc rfl sn)) (fun a F => ?_)
 have hB := Below.refl w0.heap.size w0
 refine x_seq ?_
 refine x_reg ?_
 refine o_assign F rfl rfl (fun a F => ?_)
 refine x_end ?_
 refine x_tn ?_
 refine x_seq ?_
 refine x_reg ?_
 have i11 := ((A1.go hB)).i64
 refine o_loadI Tryd.isAgg2 F rfl rfl (A1.go hB) (fun a F => ?_)
 refine o_move F rfl rfl (fun a F => ?_)
 obtain ⟨z12, c13, hR⟩ := bnd_some hR
 refine o_says F rfl Tryd.call48 rfl (impl_isValue_c z12 c13 _ i11 hx0) (fun a w l F => ?_)
 replace hB := Below.through l hB
 refine o_not F rfl rfl (fun a F => ?_)
 refine o_assign F rfl rfl (fun a F => ?_)
 refine x_end ?_
 refine x_tn ?_
 refine x_ret ?_
 refine x_res1 F rfl (rv_t F rfl) ?_
 obtain rfl := Option.some.inj hR
 exact ⟨rfl, hB⟩

def impl_areValues (x0 : Int) (x1 : List Int) (x2 : Int) : Option Bool :=
 thn (σ := Bool) (
  if ((x1.length : Int) == x2) then  bnd (slices_ContainsFunc_s_int64_int64 x1 (fun a0 => impl_areValues_1 a0 x0)) fun z23 =>
   some (.nx (!z23)) else  some (.nx false)) fun s20 =>
 some s20
set_option maxHeartbeats 1000000 in
theorem impl_areValues_c {x0 : Int} {x1 : List Int} {x2 : Int} (r : Bool) (hR : impl_areValues x0 x1 x2 = some r) {v1 : Value} {b1 : List Nat} (w0 : World) (hx0 : I64 x0) (A1 : Rd (Sl 1 RInt) w0 v1 x1 b1) (hx2 : I64 x2) : Calls Tryd.prog 33 #[.int .i64 x0, v1, .int .i64 x2] w0 (Says (.bool r) w0) := by
 unfold impl_areValues at hR
 refine x_enter (L := [(0, .int .i64 x0), (1, v1), (2, .int .i64 x2)]) Tryd.func33 rfl rfl rfl (sc rfl (sc rfl (sc rfl sn))) (fun a F => ?_)
 have hB := Below.refl w0.heap.size w0
 refine x_seq ?_
 refine x_reg ?_
 refine o_box F rfl rfl rfl (fun a w b11 K12 l BK12 F => ?_)
 have CK12 := Nat.le_trans hB.size BK12
 replace hB := Below.through l hB
 refine o_assign F rfl rfl (fun a F => ?_)
 refine x_end ?_
 refine x_tn ?_
 refine x_seq ?_
 obtain ⟨o17, hR, hk18⟩ := thn_some hR
 refine x_cutQ (fun a w => ∃ (s20 : Bool), o17 = .nx s20 ∧ Sk a 17 [(6, .bool s20)] ∧ Below w0.heap.size w0 w) ?_ ?_
 ·
  refine x_reg ?_
  refine o_move F rfl rfl (fun a F => ?_)
  refine o_len Tryd.underlying41 F rfl rfl (A1.go hB) (fun a F => ?_)
  have i21 := ((A1.go hB)).r.len64
  refine o_move F rfl rfl (fun a F => ?_)
  refine o_eql F rfl rfl rfl (fun a F => ?_)
  refine o_move F rfl rfl (fun a F => ?_)
  rcases bcases ((x1.length : Int) == x2) with hb22 | hb22
  ·
   replace hR := ifT hb22 hR
   have F := F.eq (t := 11) rfl (congrArg Value.bool hb22)
   refine o_move F rfl rfl (fun a F => ?_)
   refine o_func F rfl rfl rfl (fun a F => ?_)
   obtain ⟨z23, c24, hR⟩ := bnd_some hR
   refine o_says F rfl Tryd.call34 rfl (slices_ContainsFunc_s_int64_int64_c z23 c24 _ (A1.go hB) Tryd.call47 (fun a0 r h W l f0 => impl_areValues_1_c r h W f0 ((cell1I K12 hx0).go l))) (fun a w l F => ?_)
   replace hB := Below.through l hB
   refine o_not F rfl rfl (fun a F => ?_)
   refine o_pickt F rfl rfl rfl (fun a F => ?_)
   refine o_assign F rfl rfl (fun a F => ?_)
   refine x_end ?_
   refine x_tn ?_
   exact ⟨(!z23), (Option.some.inj hR).symm, F.sub (sc rfl sn), hB⟩
  replace hR := ifF hb22 hR
  have F := F.eq (t := 11) rfl (congrArg Value.bool hb22)
  refine o_no F rfl rfl (fun a F => ?_)
  refine o_no F rfl rfl (fun a F => ?_)
  refine o_no F rfl rfl (fun a F => ?_)
  refine o_no F rfl rfl (fun a F => ?_)
  refine o_pickf F rfl rfl rfl (fun a F => ?_)
  refine o_assign F rfl rfl (fun a F => ?_)
  refine x_end ?_
  refine x_tn ?_
  exact ⟨false, (Option.some.inj hR).symm, F.sub (sc rfl sn), hB⟩
 intro a w ⟨s20, ho19, F, hB⟩
 subst ho19
 have hR := then_nx hk18
 refine x_tn ?_
 refine x_ret ?_
 refine x_res1 F rfl (rv_t F rfl) ?_
 obtain rfl := Option.some.inj hR
 exact ⟨rfl, hB⟩

def impl_Line_mentioned (x0 : Line) : Option (List Int) :=
 bnd (ck (x0.kind - 1)) fun z19 =>
 bnd (ix ([2, 3, 1]) z19) fun z31 =>
 bnd (sl ([x0.var, x0.value, x0.con]) 0 z31) fun z38 =>
 some z38
set_option maxHeartbeats 1000000 in
theorem impl_Line_mentioned_c {x0 : Line} (r : (List Int)) (hR : impl_Line_mentioned x0 = some r) {v0 : Value} {b0 : List Nat} (w0 : World) (A0 : Rd (Agg 4 RLine) w0 v0 x0 b0) : Calls Tryd.prog 22 #[v0] w0 (Gives (fun v w' => ∃ (v1' : Value) (b2' : List Nat), v = v1' ∧ Rd (Sl 1 RInt) w' v1' r b2') w0) := by
 unfold impl_Line_mentioned at hR
 refine x_enter (L := [(0, v0)]) Tryd.func22 rfl rfl rfl (sc rfl sn) (fun a F => ?_)
 have hB := Below.refl w0.heap.size w0
 refine x_seq ?_
 refine x_reg ?_
 obtain ⟨e18, i14, i15, i16, i17, eb13⟩ := RLine.rd (A0.go hB)
 subst e18
 refine o_box F rfl rfl rfl (fun a w b11 K12 l BK12 F => ?_)
 have CK12 := Nat.le_trans hB.size BK12
 replace hB := Below.through l hB
 refine o_assign F rfl rfl (fun a F => ?_)
 refine x_end ?_
 refine x_tn ?_
 refine x_seq ?_
 obtain ⟨z19, c20, hR⟩ := bnd_some hR
 obtain ⟨z31, c32, hR⟩ := bnd_some hR
 obtain ⟨z38, c39, hR⟩ := bnd_some hR
 refine x_drawn (by kernel_rfl) (fun w l => ?_)
 replace hB := Below.through l hB
 replace K12 := K12.thru l
 refine dp (fun G => ∀ (v73 : Value) (rb74 : List Nat) (a : Act) (w : World), Sk a 17 [(2, (.slice none 0 0)), (9, v73), (15, .int .i64 z31)] → Below w0.heap.size w0 w → Row 1 RInt 2 w0.heap.size w v73 ([x0.var, x0.value, x0.con]) rb74 ([]) → I64 z31 → ∀ ls, ls = #[true, true, true, true, true, true, true, true, true, true, true, true, true, false, false] → G 2 ls a w) ?_ (fun H78 => ?_)
 ·
  intro v73 rb74 a w F hB h75 i77 ls hls
  subst hls
  refine b_q 13 (by kernel_rfl) rfl (by kernel_rfl) (by kernel_rfl) (by kernel_rfl) (by kernel_rfl) ?_
  refine v_sliceh Tryd.underlying41 Tryd.sizeOf2 F rfl rfl rfl h75.rd c39 (fun a v79 b80 h81 s82 F => ?_)
  refine b_q0 14 rfl (by kernel_rfl) (by kernel_rfl) (by kernel_rfl) ?_
  refine v_val F rfl (fun w l => r_assign F rfl) (fun a F => ?_)
  refine b_end (by kernel_rfl) ?_
  refine x_tn ?_
  refine x_ret ?_
  refine x_res1 F rfl (rv_t F rfl) ?_
  obtain rfl := Option.some.inj hR
  exact ⟨_, rfl, hB, v79, b80, rfl, h81⟩
 refine b_q 0 (by kernel_rfl) rfl (by kernel_rfl) (by kernel_rfl) (by kernel_rfl) (by kernel_rfl) ?_
 refine v_val F rfl (fun w l => r_bfield fa23_1 F rfl rfl) (fun a F => ?_)
 refine b_q 1 (by kernel_rfl) rfl (by kernel_rfl) (by kernel_rfl) (by kernel_rfl) (by kernel_rfl) ?_
 refine v_val F rfl (fun w l => r_load1 Tryd.isAgg2 F rfl (((K12.thru l).cell _).trans rfl)) (fun a F => ?_)
 refine b_q 2 (by kernel_rfl) rfl (by kernel_rfl) (by kernel_rfl) (by kernel_rfl) (by kernel_rfl) ?_
 refine v_val F rfl (fun w l => r_bfield fa23_2 F rfl rfl) (fun a F => ?_)
 refine b_q 3 (by kernel_rfl) rfl (by kernel_rfl) (by kernel_rfl) (by kernel_rfl) (by kernel_rfl) ?_
 refine v_val F rfl (fun w l => r_load1 Tryd.isAgg2 F rfl (((K12.thru l).cell _).trans rfl)) (fun a F => ?_)
 refine b_q 4 (by kernel_rfl) rfl (by kernel_rfl) (by kernel_rfl) (by kernel_rfl) (by kernel_rfl) ?_
 refine v_val F rfl (fun w l => r_bfield fa23_3 F rfl rfl) (fun a F => ?_)
 refine b_q 5 (by kernel_rfl) rfl (by kernel_rfl) (by kernel_rfl) (by kernel_rfl) (by kernel_rfl) ?_
 refine v_val F rfl (fun w l => r_load1 Tryd.isAgg2 F rfl (((K12.thru l).cell _).trans rfl)) (fun a F => ?_)
 refine b_q 8 (by kernel_rfl) rfl (by kernel_rfl) (by kernel_rfl) (by kernel_rfl) (by kernel_rfl) ?_
 refine v_val F rfl (fun w l => r_bfield fa23_0 F rfl rfl) (fun a F => ?_)
 refine b_q 9 (by kernel_rfl) rfl (by kernel_rfl) (by kernel_rfl) (by kernel_rfl) (by kernel_rfl) ?_
 refine v_val F rfl (fun w l => r_load1 Tryd.isAgg2 F rfl (((K12.thru l).cell _).trans rfl)) (fun a F => ?_)
 refine b_q0 10 rfl (by kernel_rfl) (by kernel_rfl) (by kernel_rfl) ?_
 refine v_val F rfl (fun w l => r_sub F rfl rfl c20) (fun a F => ?_)
 refine b_es [6, 7] (by kernel_rfl) (by simp) ⟨⟨_, rfl, ?_⟩, ⟨_, rfl, ?_⟩, trivial⟩
 ·
  refine o_litI (xs := [.tmp 4, .tmp 6, .tmp 8]) (l := [x0.var, x0.value, x0.con]) Tryd.underlying41 Tryd.sizeOf2 Tryd.zeroValue2 rfl F rfl rfl rfl (by simp) (by simp) rfl (by simp only [List.forall_mem_cons, List.not_mem_nil, false_implies, implies_true, and_true]; exact ⟨i15, i16, i17⟩) (fun a w v44 rb45 h46 l F => ?_)
  replace h46 := h46.base hB.size
  replace hB := Below.through l hB
  refine x_end ?_
  refine x_tn ?_
  refine ⟨.inl l, ?_⟩
  refine b_e 7 rfl (by kernel_rfl) ?_
  refine o_litI (xs := [.const (.int .i64 2), .const (.int .i64 3), .const (.int .i64 1)]) (l := [2, 3, 1]) Tryd.underlying67 Tryd.sizeOf3 Tryd.zeroValue3 rfl F rfl rfl rfl (by decide) (by decide) rfl (by simp only [List.forall_mem_cons, List.not_mem_nil, false_implies, implies_true, and_true]; exact ⟨(show I64 (2) by decide), (show I64 (3) by decide), (show I64 (1) by decide)⟩) (fun a w v48 rb49 h50 l F => ?_)
  have d52 := Dj.new h46.rd.m h50.ownR (Nat.le_refl _)
  have d53 := Dj.app' (Dj.new h46.memR h50.ownR (Nat.le_refl _)).symm (Dj.nil' _)
  replace h50 := h50.base hB.size
  replace hB := Below.through l hB
  replace h46 := h46.go l
  refine x_end ?_
  refine x_tn ?_
  refine ⟨.inl l, ?_⟩
  refine b_q 11 (by kernel_rfl) rfl (by kernel_rfl) (by kernel_rfl) (by kernel_rfl) (by kernel_rfl) ?_
  refine v_index Tryd.underlying67 Tryd.sizeOf3 F rfl rfl rfl h50.rd c32 (fun a p54 b55 h56 s57 F => ?_)
  refine b_q 12 (by kernel_rfl) rfl (by kernel_rfl) (by kernel_rfl) (by kernel_rfl) (by kernel_rfl) ?_
  have i58 := (h56).i64
  refine v_val F rfl (fun w l => r_loadI Tryd.isAgg3 F rfl ((h56).go l)) (fun a F => ?_)
  exact H78 v44 rb45 _ _ (F.sub (sc rfl (sc rfl (sc rfl sn)))) hB h46 i58 _ (by kernel_rfl)
 refine o_litI (xs := [.const (.int .i64 2), .const (.int .i64 3), .const (.int .i64 1)]) (l := [2, 3, 1]) Tryd.underlying67 Tryd.sizeOf3 Tryd.zeroValue3 rfl F rfl rfl rfl (by decide) (by decide) rfl (by simp only [List.forall_mem_cons, List.not_mem_nil, false_implies, implies_true, and_true]; exact ⟨(show I64 (2) by decide), (show I64 (3) by decide), (show I64 (1) by decide)⟩) (fun a w v59 rb60 h61 l F => ?_)
 replace h61 := h61.base hB.size
 replace hB := Below.through l hB
 refine x_end ?_
 refine x_tn ?_
 refine ⟨.inl l, ?_⟩
 refine b_q 11 (by kernel_rfl) rfl (by kernel_rfl) (by kernel_rfl) (by kernel_rfl) (by kernel_rfl) ?_
 refine v_index Tryd.underlying67 Tryd.sizeOf3 F rfl rfl rfl h61.rd c32 (fun a p63 b64 h65 s66 F => ?_)
 refine b_q 12 (by kernel_rfl) rfl (by kernel_rfl) (by kernel_rfl) (by kernel_rfl) (by kernel_rfl) ?_
 have i67 := (h65).i64
 refine v_val F rfl (fun w l => r_loadI Tryd.isAgg3 F rfl ((h65).go l)) (fun a F => ?_)
 refine b_e 6 rfl (by kernel_rfl) ?_
 refine o_litI (xs := [.tmp 4, .tmp 6, .tmp 8]) (l := [x0.var, x0.value, x0.con]) Tryd.underlying41 Tryd.sizeOf2 Tryd.zeroValue2 rfl F rfl rfl rfl (by simp) (by simp) rfl (by simp only [List.forall_mem_cons, List.not_mem_nil, false_implies, implies_true, and_true]; exact ⟨i15, i16, i17⟩) (fun a w v68 rb69 h70 l F => ?_)
 have d72 := Dj.app' (Dj.new h61.memR h70.ownR (Nat.le_refl _)).symm (Dj.nil' _)
 replace h70 := h70.base hB.size
 replace hB := Below.through l hB
 refine x_end ?_
 refine x_tn ?_
 refine ⟨.inl l, ?_⟩
 exact H78 v68 rb69 _ _ (F.sub (sc rfl (sc rfl (sc rfl sn)))) hB h70 i67 _ (by kernel_rfl)

def impl_ValidLine_1 (x0 : Int) : Option Bool :=
 some ((x0 != 0))
set_option maxHeartbeats 1000000 in
theorem impl_ValidLine_1_c {x0 : Int} (r : Bool) (hR : impl_ValidLine_1 x0 = some r)  (w0 : World) (hx0 : I64 x0) : Calls Tryd.prog 35 #[.int .i64 x0] w0 (Says (.bool r) w0) := by
 unfold impl_ValidLine_1 at hR
 refine x_enter (L := [(0, .int .i64 x0)]) Tryd.func35 rfl rfl rfl (sc rfl sn) (fun a F => ?_)
 have hB := Below.refl w0.heap.size w0
 refine x_seq ?_
 refine x_reg ?_
 refine o_assign F rfl rfl (fun a F => ?_)
 refine x_end ?_
 refine x_tn ?_
 refine x_seq ?_
 refine x_reg ?_
 refine o_move F rfl rfl (fun a F => ?_)
 refine o_neq F rfl rfl rfl (fun a F => ?_)
 refine o_assign F rfl rfl (fun a F => ?_)
 refine x_end ?_
 refine x_tn ?_
 refine x_ret ?_
 refine x_res1 F rfl (rv_t F rfl) ?_
 obtain rfl := Option.some.inj hR
 exact ⟨rfl, hB⟩

def impl_ValidLine (x0 : Line) : Option Bool :=
 thn (σ := Bool) (
  bnd (impl_within x0.kind 1 3) fun z33 =>
  if (!z33) then  some (.nx true) else  bnd (impl_areValues 1000 ([x0.var, x0.value, x0.con]) 3) fun z36 =>
   some (.nx (!z36))) fun s32 =>
 if s32 then
  some false
 else
  bnd (impl_Line_mentioned (Line.mk x0.kind x0.var x0.value x0.con)) fun z40 =>
  bnd (sl ([x0.var, x0.value, x0.con]) (z40.length : Int) (([x0.var, x0.value, x0.con]).length : Int)) fun z47 =>
  bnd (slices_ContainsFunc_s_int64_int64 z47 (fun a0 => impl_ValidLine_1 a0)) fun z53 =>
  some ((!z53))
set_option maxHeartbeats 1000000 in
theorem impl_ValidLine_c {x0 : Line} (r : Bool) (hR : impl_ValidLine x0 = some r) {v0 : Value} {b0 : List Nat} (w0 : World) (A0 : Rd (Agg 4 RLine) w0 v0 x0 b0) : Calls Tryd.prog 20 #[v0] w0 (Says (.bool r) w0) := by
 unfold impl_ValidLine at hR
 refine x_enter (L := [(0, v0)]) Tryd.func20 rfl rfl rfl (sc rfl sn) (fun a F => ?_)
 have hB := Below.refl w0.heap.size w0
 refine x_seq ?_
 refine x_reg ?_
 obtain ⟨e18, i14, i15, i16, i17, eb13⟩ := RLine.rd (A0.go hB)
 subst e18
 refine o_box F rfl rfl rfl (fun a w b11 K12 l BK12 F => ?_)
 have CK12 := Nat.le_trans hB.size BK12
 replace hB := Below.through l hB
 refine o_assign F rfl rfl (fun a F => ?_)
 refine x_end ?_
 refine x_tn ?_
 refine x_seq ?_
 refine x_reg ?_
 refine o_bfield fa23_1 F rfl rfl rfl (fun a F => ?_)
 refine o_bload Tryd.isAgg2 F rfl rfl K12 rfl (fun a F => ?_)
 refine o_bfield fa23_2 F rfl rfl rfl (fun a F => ?_)
 refine o_bload Tryd.isAgg2 F rfl rfl K12 rfl (fun a F => ?_)
 refine o_bfield fa23_3 F rfl rfl rfl (fun a F => ?_)
 refine o_bload Tryd.isAgg2 F rfl rfl K12 rfl (fun a F => ?_)
 refine o_litI (xs := [.tmp 5, .tmp 7, .tmp 9]) (l := [x0.var, x0.value, x0.con]) Tryd.underlying41 Tryd.sizeOf2 Tryd.zeroValue2 rfl F rfl rfl rfl (by simp) (by simp) rfl (by simp only [List.forall_mem_cons, List.not_mem_nil, false_implies, implies_true, and_true]; exact ⟨i15, i16, i17⟩) (fun a w v19 rb20 h21 l F => ?_)
 have d23 := Dj.new (inm1 K12) h21.ownR (Nat.le_refl _)
 replace h21 := h21.base hB.size
 replace hB := Below.through l hB
 replace K12 := K12.thru l
 refine o_assign F rfl rfl (fun a F => ?_)
 refine x_end ?_
 refine x_tn ?_
 refine x_seq ?_
 refine x_seq ?_
 obtain ⟨o29, hR, hk30⟩ := thn_some hR
 refine x_cutQ (fun a w => ∃ (s32 : Bool), o29 = .nx s32 ∧ Sk a 27 [(1, .pointer (some ⟨b11, 0, none⟩)), (3, v19), (19, .bool s32)] ∧ Below w0.heap.size w0 w ∧ Row 1 RInt 2 w0.heap.size w v19 ([x0.var, x0.value, x0.con]) rb20 ([]) ∧ Blk w b11 #[.int .i64 x0.kind, .int .i64 x0.var, .int .i64 x0.value, .int .i64 x0.con] 23) ?_ ?_
 ·
  refine x_reg ?_
  refine o_bfield fa23_0 F rfl rfl rfl (fun a F => ?_)
  refine o_bload Tryd.isAgg2 F rfl rfl K12 rfl (fun a F => ?_)
  obtain ⟨z33, c34, hR⟩ := bnd_some hR
  refine o_says F rfl Tryd.call32 rfl (impl_within_c z33 c34 _ i14 (show I64 (1) by decide) (show I64 (3) by decide)) (fun a w l F => ?_)
  replace hB := Below.through l hB
  replace h21 := h21.go l
  replace K12 := K12.thru l
  refine o_not F rfl rfl (fun a F => ?_)
  refine o_move F rfl rfl (fun a F => ?_)
  rcases bcases (!z33) with hb35 | hb35
  ·
   replace hR := ifT hb35 hR
   have F := F.eq (t := 15) rfl (congrArg Value.bool hb35)
   refine o_no F rfl rfl (fun a F => ?_)
   refine o_no F rfl rfl (fun a F => ?_)
   refine o_no F rfl rfl (fun a F => ?_)
   refine o_pickt F rfl rfl rfl (fun a F => ?_)
   refine x_end ?_
   refine x_tn ?_
   exact ⟨true, (Option.some.inj hR).symm, F.sub (sc rfl (sc rfl (sc rfl sn))), hB, h21, K12⟩
  replace hR := ifF hb35 hR
  have F := F.eq (t := 15) rfl (congrArg Value.bool hb35)
  refine o_move F rfl rfl (fun a F => ?_)
  obtain ⟨z36, c37, hR⟩ := bnd_some hR
  refine o_says F rfl Tryd.call33 rfl (impl_areValues_c z36 c37 _ (show I64 (1000) by decide) h21.rd (show I64 (3) by decide)) (fun a w l F => ?_)
  replace hB := Below.through l hB
  replace h21 := h21.go l
  replace K12 := K12.thru l
  refine o_not F rfl rfl (fun a F => ?_)
  refine o_pickf F rfl rfl rfl (fun a F => ?_)
  refine x_end ?_
  refine x_tn ?_
  exact ⟨(!z36), (Option.some.inj hR).symm, F.sub (sc rfl (sc rfl (sc rfl sn))), hB, h21, K12⟩
 intro a w ⟨s32, ho31, F, hB, h21, K12⟩
 subst ho31
 have hR := then_nx hk30
 refine x_tn ?_
 refine x_if F rfl (fun hb38 => ?_) (fun hb38 => ?_)
 ·
  replace hR := ifT hb38 hR
  refine x_seq ?_
  refine x_reg ?_
  refine o_assign F rfl rfl (fun a F => ?_)
  refine x_end ?_
  refine x_tn ?_
  refine x_ret ?_
  refine x_tr ?_
  refine x_res1 F rfl (rv_t F rfl) ?_
  obtain rfl := Option.some.inj hR
  exact ⟨rfl, hB⟩
 replace hR := ifF hb38 hR
 refine x_skip ?_
 refine x_tn ?_
 refine x_seq ?_
 refine x_reg ?_
 refine o_move F rfl rfl (fun a F => ?_)
 refine o_bloadA (cs := [.int .i64 x0.kind, .int .i64 x0.var, .int .i64 x0.value, .int .i64 x0.con]) Tryd.isAgg23 Tryd.sizeOf23 F rfl rfl K12 rfl (fun j hj => by match j, hj with | 0, _ => rfl | 1, _ => rfl | 2, _ => rfl | 3, _ => rfl) (fun a F => ?_)
 have h39 := RLine.mk2 (w := w) i14 i15 i16 i17
 obtain ⟨z40, c41, hR⟩ := bnd_some hR
 refine o_gives F rfl Tryd.call22 rfl (impl_Line_mentioned_c z40 c41 _ h39) (fun a vv w l ⟨v42, b43, hv45, h44⟩ F => ?_)
 subst vv
 replace hB := Below.through l hB
 replace h21 := h21.go l
 refine o_len Tryd.underlying41 F rfl rfl h44 (fun a F => ?_)
 have i46 := (h44).r.len64
 obtain ⟨z47, c48, hR⟩ := bnd_some hR
 refine o_slicel Tryd.underlying41 Tryd.sizeOf2 F rfl rfl rfl h21.rd c48 (fun a v49 b50 h51 s52 F => ?_)
 obtain ⟨z53, c54, hR⟩ := bnd_some hR
 refine o_says F rfl Tryd.call34 rfl (slices_ContainsFunc_s_int64_int64_c z53 c54 _ h51 Tryd.call35 (fun a0 r h W l f0 => impl_ValidLine_1_c r h W f0)) (fun a w l F => ?_)
 replace hB := Below.through l hB
 refine o_not F rfl rfl (fun a F => ?_)
 refine o_assign F rfl rfl (fun a F => ?_)
 refine x_end ?_
 refine x_tn ?_
 refine x_ret ?_
 refine x_res1 F rfl (rv_t F rfl) ?_
 obtain rfl := Option.some.inj hR
 exact ⟨rfl, hB⟩

def impl_lineWords : Option (List ByteArray) :=
 some ([(bstr [99, 104, 111, 111, 115, 101]), (bstr [114, 101, 109, 111, 118, 101]), (bstr [101, 109, 112, 116, 121])])
set_option maxHeartbeats 1000000 in
theorem impl_lineWords_c (r : (List ByteArray)) (hR : impl_lineWords = some r)  (w0 : World) : Calls Tryd.prog 10 #[] w0 (Gives (fun v w' => ∃ (v1' : Value) (rb2' : List Nat), v = v1' ∧ Row 1 RStr 9 w0.heap.size w' v1' r rb2' []) w0) := by
 unfold impl_lineWords at hR
 refine x_enter (L := []) Tryd.func10 rfl rfl rfl sn (fun a F => ?_)
 have hB := Below.refl w0.heap.size w0
 refine x_seq ?_
 refine x_reg ?_
 refine o_assign F rfl rfl (fun a F => ?_)
 refine x_end ?_
 refine x_tn ?_
 refine x_seq ?_
 refine x_reg ?_
 refine o_litE Value.string _ litStr (fun _ => rfl) (xs := [.const (.string (bstr [99, 104, 111, 111, 115, 101])), .const (.string (bstr [114, 101, 109, 111, 118, 101])), .const (.string (bstr [101, 109, 112, 116, 121]))]) (l := [(bstr [99, 104, 111, 111, 115, 101]), (bstr [114, 101, 109, 111, 118, 101]), (bstr [101, 109, 112, 116, 121])]) Tryd.underlying30 Tryd.sizeOf9 Tryd.zeroValue9 rfl F rfl rfl rfl (by simp) (by simp) rfl (by simp only [List.forall_mem_cons, List.not_mem_nil, false_implies, implies_true, and_true]; exact ⟨(by decide), (by decide), (by decide)⟩) (fun a w v11 rb12 h13 l F => ?_)
 replace h13 := h13.base hB.size
 replace hB := Below.through l hB
 refine o_assign F rfl rfl (fun a F => ?_)
 refine x_end ?_
 refine x_tn ?_
 refine x_ret ?_
 refine x_res1 F rfl (rv_t F rfl) ?_
 obtain rfl := Option.some.inj hR
 exact ⟨_, rfl, hB, v11, rb12, rfl, h13⟩

def impl_dec (x0 : Int) : Option ByteArray :=
 bnd (strconv_FormatInt x0 10) fun z11 =>
 some z11
set_option maxHeartbeats 1000000 in
theorem impl_dec_c {x0 : Int} (r : ByteArray) (hR : impl_dec x0 = some r)  (w0 : World) (hG : Glo w0) (hx0 : I64 x0) : Calls Tryd.prog 19 #[.int .i64 x0] w0 (Gives (fun v w' => v = .string r ∧ r.size ≤ maxLen) w0) := by
 unfold impl_dec at hR
 refine x_enter (L := [(0, .int .i64 x0)]) Tryd.func19 rfl rfl rfl (sc rfl sn) (fun a F => ?_)
 have hB := Below.refl w0.heap.size w0
 refine x_seq ?_
 refine x_reg ?_
 refine o_assign F rfl rfl (fun a F => ?_)
 refine x_end ?_
 refine x_tn ?_
 refine x_seq ?_
 refine x_reg ?_
 refine o_move F rfl rfl (fun a F => ?_)
 obtain ⟨z11, c12, hR⟩ := bnd_some hR
 refine o_gives F rfl Tryd.call31 rfl (strconv_FormatInt_c z11 c12 _ (hG.go hB) hx0 (show I64 (10) by decide)) (fun a vv w l ⟨hv14, i13⟩ F => ?_)
 subst vv
 replace hB := Below.through l hB
 refine o_assign F rfl rfl (fun a F => ?_)
 refine x_end ?_
 refine x_tn ?_
 refine x_ret ?_
 refine x_res1 F rfl (rv_t F rfl) ?_
 obtain rfl := Option.some.inj hR
 exact ⟨_, rfl, hB, rfl, i13⟩

def impl_spaced (x0 : List Int) : Option ByteArray :=
 thn (σ := (List ByteArray)) (
  forL (σ := (List ByteArray)) (ρ := ByteArray) (fun (k58 : Nat) (x60 : Int) (s48 : (List ByteArray)) =>
   bnd (impl_dec x60) fun z69 =>
   bnd (ap s48 ([z69])) fun z79 =>
   some (.go z79)) x0 0 []) fun s53 =>
 bnd (strings_Join s53 (bstr [32])) fun z85 =>
 some z85
set_option maxHeartbeats 1000000 in
theorem impl_spaced_c {x0 : List Int} (r : ByteArray) (hR : impl_spaced x0 = some r) {v0 : Value} {b0 : List Nat} (w0 : World) (hG : Glo w0) (A0 : Rd (Sl 1 RInt) w0 v0 x0 b0) : Calls Tryd.prog 21 #[v0] w0 (Gives (fun v w' => v = .string r ∧ r.size ≤ maxLen) w0) := by
 unfold impl_spaced at hR
 refine x_enter (L := [(0, v0)]) Tryd.func21 rfl rfl rfl (sc rfl sn) (fun a F => ?_)
 have hB := Below.refl w0.heap.size w0
 refine x_seq ?_
 refine x_reg ?_
 refine o_assign F rfl rfl (fun a F => ?_)
 refine x_end ?_
 refine x_tn ?_
 refine x_seq ?_
 refine x_reg ?_
 refine o_lit0 (R := RStr) Tryd.underlying30 Tryd.sizeOf9 F rfl (fun a w v11 rb12 h13 l F => ?_)
 replace h13 := h13.base hB.size
 replace hB := Below.through l hB
 refine o_assign F rfl rfl (fun a F => ?_)
 refine x_end ?_
 refine x_tn ?_
 refine x_seq ?_
 refine x_seq ?_
 refine x_reg ?_
 refine o_move F rfl rfl (fun a F => ?_)
 refine o_len Tryd.underlying41 F rfl rfl (A0.go hB) (fun a F => ?_)
 have i15 := ((A0.go hB)).r.len64
 refine o_move F rfl rfl (fun a F => ?_)
 refine x_end ?_
 refine x_tn ?_
 obtain ⟨o42, hR, hk43⟩ := thn_some hR
 refine x_cutQ (fun a w => ∃ (s53 : List ByteArray) (v56 : Value) (rb57 : List Nat), o42 = .nx s53 ∧ Sk a 21 [(3, v56)] ∧ Below w0.heap.size w0 w ∧ Row 1 RStr 9 w0.heap.size w v56 s53 rb57 ([])) ?_ ?_
 ·
  refine x_blk ?_
  obtain ⟨fl46, hf47, hR⟩ := forL_gen hR
  refine x_loop (fun g a w => ∃ (k58 : Nat) (rest59 : List Int) (s48 : List ByteArray) (v51 : Value) (rb52 : List Nat), (k58 ≤ x0.length ∧ x0.drop k58 = rest59) ∧ rest59.length = g ∧ forL fl46 rest59 k58 s48 = some o42 ∧ Sk a 21 [(9, .int .i64 (k58 : Int)), (3, v51), (7, v0), (8, .int .i64 (x0.length : Int))] ∧ Below w0.heap.size w0 w ∧ Row 1 RStr 9 w0.heap.size w v51 s48 rb52 ([])) x0.length ?_ ?_
  ·
   exact ⟨0, x0, [], v11, rb12, ⟨Nat.zero_le _, rfl⟩, rfl, hR, F.sub (sc rfl (sc rfl (sc rfl (sc rfl sn)))), hB, h13⟩
  intro g61 a w ⟨k58, rest59, s48, v51, rb52, hd62, hg63, hR, F, hB, h50⟩
  cases rest59 with
  | nil =>
   replace hR := forL_nil hR
   have hkk58 := drop_nil hd62.1 hd62.2
   have hlk58 := dec_no hkk58
   refine x_seq ?_
   refine x_reg ?_
   refine o_lss F rfl rfl rfl (fun a F => ?_)
   refine x_end ?_
   refine x_tn ?_
   refine x_seq ?_
   refine x_ifF F rfl hlk58 ?_
   refine x_exit ?_
   refine x_te ?_
   refine x_te ?_
   refine x_be ?_
   refine x_tn ?_
   exact ⟨s48, v51, rb52, (Option.some.inj hR).symm, F.sub (sc rfl sn), hB, h50⟩
  | cons x60 rest59 =>
   subst hg63
   replace hd62 := drop_cons hd62.2
   have hxk58 := ix_nat hd62.2.1
   obtain ⟨ck58, hR, hn45⟩ := forL_cons hR
   rw [hf47] at hR
   have hlk58 := dec_yes hd62.1
   refine x_seq ?_
   refine x_reg ?_
   refine o_lss F rfl rfl rfl (fun a F => ?_)
   refine x_end ?_
   refine x_tn ?_
   refine x_seq ?_
   refine x_ifT F rfl hlk58 ?_
   refine x_skip ?_
   refine x_tn ?_
   refine x_seq ?_
   have ikk58 := k64 (Nat.le_of_lt hd62.1) i15
   have ink58 := inc64 hd62.1 i15
   refine x_blk ?_
   refine x_seq ?_
   refine x_reg ?_
   refine o_index Tryd.underlying41 Tryd.sizeOf2 F rfl rfl rfl (A0.go hB) hxk58 (fun a p64 b65 h66 s67 F => ?_)
   have i68 := (h66).i64
   refine o_loadI Tryd.isAgg2 F rfl rfl h66 (fun a F => ?_)
   refine o_assign F rfl rfl (fun a F => ?_)
   refine x_end ?_
   refine x_tn ?_
   refine x_reg ?_
   refine o_move F rfl rfl (fun a F => ?_)
   refine o_move F rfl rfl (fun a F => ?_)
   obtain ⟨z69, c70, hR⟩ := bnd_some hR
   refine o_gives F rfl Tryd.call19 rfl (impl_dec_c z69 c70 _ (hG.go hB) i68) (fun a vv w l ⟨hv72, i71⟩ F => ?_)
   subst vv
   replace hB := Below.through l hB
   replace h50 := h50.go l
   refine o_lit1 (R := RStr) (y := z69) Tryd.underlying30 Tryd.sizeOf9 Tryd.zeroValue9 rfl (by decide) (by decide) F rfl rfl (El.str i71) (fun a w v73 rb74 h75 l F => ?_)
   have d77 := Dj.new h50.rd.m h75.ownR (Nat.le_refl _)
   have d78 := Dj.app' (Dj.new h50.memR h75.ownR (Nat.le_refl _)).symm (Dj.nil' _)
   replace h75 := h75.base hB.size
   replace hB := Below.through l hB
   replace h50 := h50.go l
   obtain ⟨z79, c80, hR⟩ := bnd_some hR
   refine o_append (sz := 1) (R := RStr) (z := (.string ByteArray.empty)) (bytes := 16) Tryd.underlying30 (by kernel_rfl) rfl (by decide) (by decide) (by decide) F rfl rfl rfl h50 h75.src hB.size (Dj.nil _) c80 (fun a w v81 rb82 h83 l keep F => ?_)
   replace h83 := row_nil2 h83
   replace hB := hB.o l h50.lo hB.size
   refine o_assign F rfl rfl (fun a F => ?_)
   refine x_end ?_
   refine x_bn ?_
   refine x_tn ?_
   refine x_reg ?_
   refine o_inc F rfl rfl rfl ink58 (fun a F => ?_)
   refine o_move F rfl rfl (fun a F => ?_)
   refine x_end ?_
   refine x_tn ?_
   replace hR := l_go hR hn45
   exact ⟨_, Nat.lt_succ_self _, k58 + 1, rest59, z79, v81, rb82, ⟨hd62.1, hd62.2.2⟩, rfl, hR, F.sub (sc rfl (sc rfl (sc rfl (sc rfl sn)))), hB, h83⟩
 intro a w ⟨s53, v56, rb57, ho44, F, hB, h55⟩
 subst ho44
 have hR := then_nx hk43
 refine x_tn ?_
 refine x_seq ?_
 refine x_reg ?_
 refine o_move F rfl rfl (fun a F => ?_)
 obtain ⟨z85, c86, hR⟩ := bnd_some hR
 refine o_gives F rfl Tryd.call36 rfl (strings_Join_c z85 c86 _ h55.rd (by decide)) (fun a vv w l ⟨hv88, i87⟩ F => ?_)
 subst vv
 replace hB := Below.through l hB
 refine o_assign F rfl rfl (fun a F => ?_)
 refine x_end ?_
 refine x_tn ?_
 refine x_ret ?_
 refine x_res1 F rfl (rv_t F rfl) ?_
 obtain rfl := Option.some.inj hR
 exact ⟨_, rfl, hB, rfl, i87⟩

def impl_LineText (x0 : Line) : Option ByteArray :=
 bnd (impl_ValidLine (Line.mk x0.kind x0.var x0.value x0.con)) fun z20 =>
 if (!z20) then
  some ((bstr []))
 else
  bnd (ck (x0.kind - 1)) fun z23 =>
  bnd (impl_lineWords) fun z26 =>
  bnd (ix z26 z23) fun z35 =>
  bnd (scat z35 (bstr [32])) fun z42 =>
  bnd (impl_Line_mentioned (Line.mk x0.kind x0.var x0.value x0.con)) fun z44 =>
  bnd (impl_spaced z44) fun z50 =>
  bnd (scat z42 z50) fun z54 =>
  some z54
set_option maxHeartbeats 1000000 in
theorem impl_LineText_c {x0 : Line} (r : ByteArray) (hR : impl_LineText x0 = some r) {v0 : Value} {b0 : List Nat} (w0 : World) (hG : Glo w0) (A0 : Rd (Agg 4 RLine) w0 v0 x0 b0) : Calls Tryd.prog 12 #[v0] w0 (Gives (fun v w' => v = .string r ∧ r.size ≤ maxLen) w0) := by
 unfold impl_LineText at hR
 refine x_enter (L := [(0, v0)]) Tryd.func12 rfl rfl rfl (sc rfl sn) (fun a F => ?_)
 have hB := Below.refl w0.heap.size w0
 refine x_seq ?_
 refine x_reg ?_
 obtain ⟨e18, i14, i15, i16, i17, eb13⟩ := RLine.rd (A0.go hB)
 subst e18
 refine o_box F rfl rfl rfl (fun a w b11 K12 l BK12 F => ?_)
 have CK12 := Nat.le_trans hB.size BK12
 replace hB := Below.through l hB
 refine o_assign F rfl rfl (fun a F => ?_)
 refine x_end ?_
 refine x_tn ?_
 refine x_seq ?_
 refine x_seq ?_
 refine x_reg ?_
 refine o_bloadA (cs := [.int .i64 x0.kind, .int .i64 x0.var, .int .i64 x0.value, .int .i64 x0.con]) Tryd.isAgg23 Tryd.sizeOf23 F rfl rfl K12 rfl (fun j hj => by match j, hj with | 0, _ => rfl | 1, _ => rfl | 2, _ => rfl | 3, _ => rfl) (fun a F => ?_)
 have h19 := RLine.mk2 (w := w) i14 i15 i16 i17
 obtain ⟨z20, c21, hR⟩ := bnd_some hR
 refine o_says F rfl Tryd.call20 rfl (impl_ValidLine_c z20 c21 _ h19) (fun a w l F => ?_)
 replace hB := Below.through l hB
 replace K12 := K12.thru l
 refine o_not F rfl rfl (fun a F => ?_)
 refine x_end ?_
 refine x_tn ?_
 refine x_if F rfl (fun hb22 => ?_) (fun hb22 => ?_)
 ·
  replace hR := ifT hb22 hR
  refine x_seq ?_
  refine x_reg ?_
  refine o_assign F rfl rfl (fun a F => ?_)
  refine x_end ?_
  refine x_tn ?_
  refine x_ret ?_
  refine x_tr ?_
  refine x_res1 F rfl (rv_t F rfl) ?_
  obtain rfl := Option.some.inj hR
  exact ⟨_, rfl, hB, rfl, (by decide)⟩
 replace hR := ifF hb22 hR
 refine x_skip ?_
 refine x_tn ?_
 refine x_seq ?_
 refine x_drawn (by kernel_rfl) (fun w l => ?_)
 replace hB := Below.through l hB
 replace K12 := K12.thru l
 refine b_q 1 (by kernel_rfl) rfl (by kernel_rfl) (by kernel_rfl) (by kernel_rfl) (by kernel_rfl) ?_
 refine v_val F rfl (fun w l => r_bfield fa23_0 F rfl rfl) (fun a F => ?_)
 refine b_q 2 (by kernel_rfl) rfl (by kernel_rfl) (by kernel_rfl) (by kernel_rfl) (by kernel_rfl) ?_
 refine v_val F rfl (fun w l => r_load1 Tryd.isAgg2 F rfl (((K12.thru l).cell _).trans rfl)) (fun a F => ?_)
 refine b_q0 3 rfl (by kernel_rfl) (by kernel_rfl) (by kernel_rfl) ?_
 obtain ⟨z23, c24, hR⟩ := bnd_some hR
 refine v_val F rfl (fun w l => r_sub F rfl rfl c24) (fun a F => ?_)
 refine b_q 7 (by kernel_rfl) rfl (by kernel_rfl) (by kernel_rfl) (by kernel_rfl) (by kernel_rfl) ?_
 refine v_val F rfl (fun w l => r_bloadA (cs := [.int .i64 x0.kind, .int .i64 x0.var, .int .i64 x0.value, .int .i64 x0.con]) Tryd.isAgg23 Tryd.sizeOf23 F rfl (K12.thru l) rfl (fun j hj => by match j, hj with | 0, _ => rfl | 1, _ => rfl | 2, _ => rfl | 3, _ => rfl)) (fun a F => ?_)
 have h25 := RLine.mk2 (w := w) i14 i15 i16 i17
 refine b_e 0 rfl (by kernel_rfl) ?_
 obtain ⟨z26, c27, hR⟩ := bnd_some hR
 refine o_gives F rfl Tryd.call10 rfl (impl_lineWords_c z26 c27 _) (fun a vv w l ⟨v28, rb29, hv32, h31⟩ F => ?_)
 subst vv
 have d34 := Dj.new h25.m h31.ownR (Nat.le_refl _)
 replace h31 := h31.base hB.size
 replace hB := Below.through l hB
 replace h25 := h25.go l
 refine x_end ?_
 refine x_tn ?_
 refine ⟨.inl l, ?_⟩
 refine b_q 4 (by kernel_rfl) rfl (by kernel_rfl) (by kernel_rfl) (by kernel_rfl) (by kernel_rfl) ?_
 obtain ⟨z35, c36, hR⟩ := bnd_some hR
 refine v_index Tryd.underlying30 Tryd.sizeOf9 F rfl rfl rfl h31.rd c36 (fun a p37 b38 h39 s40 F => ?_)
 refine b_q 5 (by kernel_rfl) rfl (by kernel_rfl) (by kernel_rfl) (by kernel_rfl) (by kernel_rfl) ?_
 have i41 := (h39).str
 refine v_val F rfl (fun w l => r_loadT Tryd.isAgg9 F rfl ((h39).go l)) (fun a F => ?_)
 refine b_q0 6 rfl (by kernel_rfl) (by kernel_rfl) (by kernel_rfl) ?_
 obtain ⟨z42, c43, hR⟩ := bnd_some hR
 refine v_val F rfl (fun w l => r_scat F rfl rfl c43) (fun a F => ?_)
 refine b_e 8 rfl (by kernel_rfl) ?_
 obtain ⟨z44, c45, hR⟩ := bnd_some hR
 refine o_gives F rfl Tryd.call22 rfl (impl_Line_mentioned_c z44 c45 _ h25) (fun a vv w l ⟨v46, b47, hv49, h48⟩ F => ?_)
 subst vv
 replace hB := Below.through l hB
 refine x_end ?_
 refine x_tn ?_
 refine ⟨.inl l, ?_⟩
 refine b_e 9 rfl (by kernel_rfl) ?_
 obtain ⟨z50, c51, hR⟩ := bnd_some hR
 refine o_gives F rfl Tryd.call21 rfl (impl_spaced_c z50 c51 _ (hG.go hB) h48) (fun a vv w l ⟨hv53, i52⟩ F => ?_)
 subst vv
 replace hB := Below.through l hB
 refine x_end ?_
 refine x_tn ?_
 refine ⟨.inl l, ?_⟩
 refine b_q0 10 rfl (by kernel_rfl) (by kernel_rfl) (by kernel_rfl) ?_
 obtain ⟨z54, c55, hR⟩ := bnd_some hR
 refine v_val F rfl (fun w l => r_scat F rfl rfl c55) (fun a F => ?_)
 refine b_q0 11 rfl (by kernel_rfl) (by kernel_rfl) (by kernel_rfl) ?_
 refine v_val F rfl (fun w l => r_assign F rfl) (fun a F => ?_)
 refine b_end (by kernel_rfl) ?_
 refine x_tn ?_
 refine x_ret ?_
 refine x_res1 F rfl (rv_t F rfl) ?_
 obtain rfl := Option.some.inj hR
 exact ⟨_, rfl, hB, rfl, (scat_sz c55)⟩
end Go.Proofs.YtbgkhipclkhlcaaDoor
