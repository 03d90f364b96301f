/-
  Functions of the program as plain functions, and that they compute them. Printed by fxio.py.
-/
import Derived.Test.YtfggmelojaicfaaGreatZ
namespace Go.Proofs.YtfggmelojaicfaaGreat
set_option linter.unusedVariables false
set_option linter.unusedSimpArgs false
set_option maxRecDepth 100000
open Go.RowKit
def impl_within (x0 : Int) (x1 : Int) (x2 : Int) : Option Bool :=
 thn (σ := Bool) (
  if (decide (x1 ≤ x0)) then  some (.nx (decide (x0 ≤ x2))) else  some (.nx false)) fun s15 =>
 some s15
set_option maxHeartbeats 1000000 in
theorem impl_within_c {x0 : Int} {x1 : Int} {x2 : Int} (r : Bool) (hR : impl_within x0 x1 x2 = some r)  (w0 : World) (hx0 : I64 x0) (hx1 : I64 x1) (hx2 : I64 x2) : Calls Tryz.prog 171 #[.int .i64 x0, .int .i64 x1, .int .i64 x2] w0 (Says (.bool r) w0) := by
 unfold impl_within at hR
 refine x_enter (L := [(0, .int .i64 x0), (1, .int .i64 x1), (2, .int .i64 x2)]) Tryz.func171 rfl rfl rfl (sc rfl (sc rfl (sc rfl sn))) (fun a F => ?_)
 have hB := Below.refl w0.heap.size w0
 refine x_seq ?_
 refine x_reg ?_
 refine o_assign F rfl rfl (fun a F => ?_)
 refine x_end ?_
 refine x_tn ?_
 refine x_seq ?_
 obtain ⟨o12, hR, hk13⟩ := thn_some hR
 refine x_cutQ (fun a w => ∃ (s15 : Bool), o12 = .nx s15 ∧ Sk a 15 [(6, .bool s15)] ∧ Below w0.heap.size w0 w) ?_ ?_
 ·
  refine x_reg ?_
  refine o_move F rfl rfl (fun a F => ?_)
  refine o_move F rfl rfl (fun a F => ?_)
  refine o_geq F rfl rfl rfl (fun a F => ?_)
  refine o_move F rfl rfl (fun a F => ?_)
  rcases bcases (decide (x1 ≤ x0)) with hb16 | hb16
  ·
   replace hR := ifT hb16 hR
   have F := F.eq (t := 10) rfl (congrArg Value.bool hb16)
   refine o_move F rfl rfl (fun a F => ?_)
   refine o_move F rfl rfl (fun a F => ?_)
   refine o_leq F rfl rfl rfl (fun a F => ?_)
   refine o_pickt F rfl rfl rfl (fun a F => ?_)
   refine o_assign F rfl rfl (fun a F => ?_)
   refine x_end ?_
   refine x_tn ?_
   exact ⟨(decide (x0 ≤ x2)), (Option.some.inj hR).symm, F.sub (sc rfl sn), hB⟩
  replace hR := ifF hb16 hR
  have F := F.eq (t := 10) rfl (congrArg Value.bool hb16)
  refine o_no F rfl rfl (fun a F => ?_)
  refine o_no F rfl rfl (fun a F => ?_)
  refine o_no F rfl rfl (fun a F => ?_)
  refine o_pickf F rfl rfl rfl (fun a F => ?_)
  refine o_assign F rfl rfl (fun a F => ?_)
  refine x_end ?_
  refine x_tn ?_
  exact ⟨false, (Option.some.inj hR).symm, F.sub (sc rfl sn), hB⟩
 intro a w ⟨s15, ho14, F, hB⟩
 subst ho14
 have hR := then_nx hk13
 refine x_tn ?_
 refine x_ret ?_
 refine x_res1 F rfl (rv_t F rfl) ?_
 obtain rfl := Option.some.inj hR
 exact ⟨rfl, hB⟩

def impl_isSize (x0 : Int) : Option Bool :=
 bnd (impl_within x0 1 4) fun z11 =>
 some z11
set_option maxHeartbeats 1000000 in
theorem impl_isSize_c {x0 : Int} (r : Bool) (hR : impl_isSize x0 = some r)  (w0 : World) (hx0 : I64 x0) : Calls Tryz.prog 227 #[.int .i64 x0] w0 (Says (.bool r) w0) := by
 unfold impl_isSize at hR
 refine x_enter (L := [(0, .int .i64 x0)]) Tryz.func227 rfl rfl rfl (sc rfl sn) (fun a F => ?_)
 have hB := Below.refl w0.heap.size w0
 refine x_seq ?_
 refine x_reg ?_
 refine o_assign F rfl rfl (fun a F => ?_)
 refine x_end ?_
 refine x_tn ?_
 refine x_seq ?_
 refine x_reg ?_
 refine o_move F rfl rfl (fun a F => ?_)
 obtain ⟨z11, c12, hR⟩ := bnd_some hR
 refine o_says F rfl Tryz.call171 rfl (impl_within_c z11 c12 _ hx0 (show I64 (1) by decide) (show I64 (4) by decide)) (fun a w l F => ?_)
 replace hB := Below.through l hB
 refine o_assign F rfl rfl (fun a F => ?_)
 refine x_end ?_
 refine x_tn ?_
 refine x_ret ?_
 refine x_res1 F rfl (rv_t F rfl) ?_
 obtain rfl := Option.some.inj hR
 exact ⟨rfl, hB⟩

def impl_isArity (x0 : Int) : Option Bool :=
 bnd (impl_within x0 1 4) fun z11 =>
 some z11
set_option maxHeartbeats 1000000 in
theorem impl_isArity_c {x0 : Int} (r : Bool) (hR : impl_isArity x0 = some r)  (w0 : World) (hx0 : I64 x0) : Calls Tryz.prog 176 #[.int .i64 x0] w0 (Says (.bool r) w0) := by
 unfold impl_isArity at hR
 refine x_enter (L := [(0, .int .i64 x0)]) Tryz.func176 rfl rfl rfl (sc rfl sn) (fun a F => ?_)
 have hB := Below.refl w0.heap.size w0
 refine x_seq ?_
 refine x_reg ?_
 refine o_assign F rfl rfl (fun a F => ?_)
 refine x_end ?_
 refine x_tn ?_
 refine x_seq ?_
 refine x_reg ?_
 refine o_move F rfl rfl (fun a F => ?_)
 obtain ⟨z11, c12, hR⟩ := bnd_some hR
 refine o_says F rfl Tryz.call171 rfl (impl_within_c z11 c12 _ hx0 (show I64 (1) by decide) (show I64 (4) by decide)) (fun a w l F => ?_)
 replace hB := Below.through l hB
 refine o_assign F rfl rfl (fun a F => ?_)
 refine x_end ?_
 refine x_tn ?_
 refine x_ret ?_
 refine x_res1 F rfl (rv_t F rfl) ?_
 obtain rfl := Option.some.inj hR
 exact ⟨rfl, hB⟩

def impl_isValue (x0 : Int) (x1 : Int) : Option Bool :=
 bnd (ck (x0 - 1)) fun z11 =>
 bnd (impl_within x1 0 z11) fun z13 =>
 some z13
set_option maxHeartbeats 1000000 in
theorem impl_isValue_c {x0 : Int} {x1 : Int} (r : Bool) (hR : impl_isValue x0 x1 = some r)  (w0 : World) (hx0 : I64 x0) (hx1 : I64 x1) : Calls Tryz.prog 175 #[.int .i64 x0, .int .i64 x1] w0 (Says (.bool r) w0) := by
 unfold impl_isValue at hR
 refine x_enter (L := [(0, .int .i64 x0), (1, .int .i64 x1)]) Tryz.func175 rfl rfl rfl (sc rfl (sc rfl sn)) (fun a F => ?_)
 have hB := Below.refl w0.heap.size w0
 refine x_seq ?_
 refine x_reg ?_
 refine o_assign F rfl rfl (fun a F => ?_)
 refine x_end ?_
 refine x_tn ?_
 refine x_seq ?_
 refine x_reg ?_
 refine o_move F rfl rfl (fun a F => ?_)
 refine o_move F rfl rfl (fun a F => ?_)
 obtain ⟨z11, c12, hR⟩ := bnd_some hR
 refine o_sub F rfl rfl rfl c12 (fun a F => ?_)
 obtain ⟨z13, c14, hR⟩ := bnd_some hR
 refine o_says F rfl Tryz.call171 rfl (impl_within_c z13 c14 _ hx1 (show I64 (0) by decide) (ck64 c12)) (fun a w l F => ?_)
 replace hB := Below.through l hB
 refine o_assign F rfl rfl (fun a F => ?_)
 refine x_end ?_
 refine x_tn ?_
 refine x_ret ?_
 refine x_res1 F rfl (rv_t F rfl) ?_
 obtain rfl := Option.some.inj hR
 exact ⟨rfl, hB⟩

def spec_l00In (x0 : Int) (x1 : Int) (x2 : Int) : Option Bool :=
 thn (σ := Bool) (
  if (decide (x1 ≤ x0)) then  some (.nx (decide (x0 ≤ x2))) else  some (.nx false)) fun s15 =>
 some s15
set_option maxHeartbeats 1000000 in
theorem spec_l00In_c {x0 : Int} {x1 : Int} {x2 : Int} (r : Bool) (hR : spec_l00In x0 x1 x2 = some r)  (w0 : World) (hx0 : I64 x0) (hx1 : I64 x1) (hx2 : I64 x2) : Calls Tryz.prog 162 #[.int .i64 x0, .int .i64 x1, .int .i64 x2] w0 (Says (.bool r) w0) := by
 unfold spec_l00In at hR
 refine x_enter (L := [(0, .int .i64 x0), (1, .int .i64 x1), (2, .int .i64 x2)]) Tryz.func162 rfl rfl rfl (sc rfl (sc rfl (sc rfl sn))) (fun a F => ?_)
 have hB := Below.refl w0.heap.size w0
 refine x_seq ?_
 refine x_reg ?_
 refine o_assign F rfl rfl (fun a F => ?_)
 refine x_end ?_
 refine x_tn ?_
 refine x_seq ?_
 obtain ⟨o12, hR, hk13⟩ := thn_some hR
 refine x_cutQ (fun a w => ∃ (s15 : Bool), o12 = .nx s15 ∧ Sk a 15 [(6, .bool s15)] ∧ Below w0.heap.size w0 w) ?_ ?_
 ·
  refine x_reg ?_
  refine o_move F rfl rfl (fun a F => ?_)
  refine o_move F rfl rfl (fun a F => ?_)
  refine o_geq F rfl rfl rfl (fun a F => ?_)
  refine o_move F rfl rfl (fun a F => ?_)
  rcases bcases (decide (x1 ≤ x0)) with hb16 | hb16
  ·
   replace hR := ifT hb16 hR
   have F := F.eq (t := 10) rfl (congrArg Value.bool hb16)
   refine o_move F rfl rfl (fun a F => ?_)
   refine o_move F rfl rfl (fun a F => ?_)
   refine o_leq F rfl rfl rfl (fun a F => ?_)
   refine o_pickt F rfl rfl rfl (fun a F => ?_)
   refine o_assign F rfl rfl (fun a F => ?_)
   refine x_end ?_
   refine x_tn ?_
   exact ⟨(decide (x0 ≤ x2)), (Option.some.inj hR).symm, F.sub (sc rfl sn), hB⟩
  replace hR := ifF hb16 hR
  have F := F.eq (t := 10) rfl (congrArg Value.bool hb16)
  refine o_no F rfl rfl (fun a F => ?_)
  refine o_no F rfl rfl (fun a F => ?_)
  refine o_no F rfl rfl (fun a F => ?_)
  refine o_pickf F rfl rfl rfl (fun a F => ?_)
  refine o_assign F rfl rfl (fun a F => ?_)
  refine x_end ?_
  refine x_tn ?_
  exact ⟨false, (Option.some.inj hR).symm, F.sub (sc rfl sn), hB⟩
 intro a w ⟨s15, ho14, F, hB⟩
 subst ho14
 have hR := then_nx hk13
 refine x_tn ?_
 refine x_ret ?_
 refine x_res1 F rfl (rv_t F rfl) ?_
 obtain rfl := Option.some.inj hR
 exact ⟨rfl, hB⟩

def spec_l01Size (x0 : Int) : Option Bool :=
 bnd (spec_l00In x0 1 4) fun z11 =>
 some z11
set_option maxHeartbeats 1000000 in
theorem spec_l01Size_c {x0 : Int} (r : Bool) (hR : spec_l01Size x0 = some r)  (w0 : World) (hx0 : I64 x0) : Calls Tryz.prog 242 #[.int .i64 x0] w0 (Says (.bool r) w0) := by
 unfold spec_l01Size at hR
 refine x_enter (L := [(0, .int .i64 x0)]) Tryz.func242 rfl rfl rfl (sc rfl sn) (fun a F => ?_)
 have hB := Below.refl w0.heap.size w0
 refine x_seq ?_
 refine x_reg ?_
 refine o_assign F rfl rfl (fun a F => ?_)
 refine x_end ?_
 refine x_tn ?_
 refine x_seq ?_
 refine x_reg ?_
 refine o_move F rfl rfl (fun a F => ?_)
 obtain ⟨z11, c12, hR⟩ := bnd_some hR
 refine o_says F rfl Tryz.call162 rfl (spec_l00In_c z11 c12 _ hx0 (show I64 (1) by decide) (show I64 (4) by decide)) (fun a w l F => ?_)
 replace hB := Below.through l hB
 refine o_assign F rfl rfl (fun a F => ?_)
 refine x_end ?_
 refine x_tn ?_
 refine x_ret ?_
 refine x_res1 F rfl (rv_t F rfl) ?_
 obtain rfl := Option.some.inj hR
 exact ⟨rfl, hB⟩

def spec_l01Arity (x0 : Int) : Option Bool :=
 bnd (spec_l00In x0 1 4) fun z11 =>
 some z11
set_option maxHeartbeats 1000000 in
theorem spec_l01Arity_c {x0 : Int} (r : Bool) (hR : spec_l01Arity x0 = some r)  (w0 : World) (hx0 : I64 x0) : Calls Tryz.prog 164 #[.int .i64 x0] w0 (Says (.bool r) w0) := by
 unfold spec_l01Arity at hR
 refine x_enter (L := [(0, .int .i64 x0)]) Tryz.func164 rfl rfl rfl (sc rfl sn) (fun a F => ?_)
 have hB := Below.refl w0.heap.size w0
 refine x_seq ?_
 refine x_reg ?_
 refine o_assign F rfl rfl (fun a F => ?_)
 refine x_end ?_
 refine x_tn ?_
 refine x_seq ?_
 refine x_reg ?_
 refine o_move F rfl rfl (fun a F => ?_)
 obtain ⟨z11, c12, hR⟩ := bnd_some hR
 refine o_says F rfl Tryz.call162 rfl (spec_l00In_c z11 c12 _ hx0 (show I64 (1) by decide) (show I64 (4) by decide)) (fun a w l F => ?_)
 replace hB := Below.through l hB
 refine o_assign F rfl rfl (fun a F => ?_)
 refine x_end ?_
 refine x_tn ?_
 refine x_ret ?_
 refine x_res1 F rfl (rv_t F rfl) ?_
 obtain rfl := Option.some.inj hR
 exact ⟨rfl, hB⟩

def spec_l00Same (x0 : List Int) (x1 : List Int) : Option Bool :=
 if ((x0.length : Int) != (x1.length : Int)) then
  some false
 else
  thn (σ := Unit) (
   forL (σ := Unit) (ρ := Bool) (fun (k35 : Nat) (x37 : Int) (s : Unit) =>
     match s with
     | _ =>
     bnd (ix x1 (k35 : Int)) fun z47 =>
     if (x37 != z47) then
      some (.ret false)
     else
      some (.go ())) x0 0 ()) fun _ =>
  some true
set_option maxHeartbeats 1000000 in
theorem spec_l00Same_c {x0 : List Int} {x1 : List Int} (r : Bool) (hR : spec_l00Same x0 x1 = some r) {v0 : Value} {b0 : List Nat} {v1 : Value} {b1 : List Nat} (w0 : World) (A0 : Rd (Sl 1 RInt) w0 v0 x0 b0) (A1 : Rd (Sl 1 RInt) w0 v1 x1 b1) : Calls Tryz.prog 86 #[v0, v1] w0 (Says (.bool r) w0) := by
 unfold spec_l00Same at hR
 refine x_enter (L := [(0, v0), (1, v1)]) Tryz.func86 rfl rfl rfl (sc rfl (sc rfl sn)) (fun a F => ?_)
 have hB := Below.refl w0.heap.size w0
 refine x_seq ?_
 refine x_reg ?_
 refine o_assign F rfl rfl (fun a F => ?_)
 refine x_end ?_
 refine x_tn ?_
 refine x_seq ?_
 refine x_seq ?_
 refine x_reg ?_
 refine o_move F rfl rfl (fun a F => ?_)
 refine o_len Tryz.underlying42 F rfl rfl (A0.go hB) (fun a F => ?_)
 have i11 := ((A0.go hB)).r.len64
 refine o_move F rfl rfl (fun a F => ?_)
 refine o_len Tryz.underlying42 F rfl rfl (A1.go hB) (fun a F => ?_)
 have i12 := ((A1.go hB)).r.len64
 refine o_neq F rfl rfl rfl (fun a F => ?_)
 refine x_end ?_
 refine x_tn ?_
 refine x_if F rfl (fun hb13 => ?_) (fun hb13 => ?_)
 ·
  replace hR := ifT hb13 hR
  refine x_seq ?_
  refine x_reg ?_
  refine o_assign F rfl rfl (fun a F => ?_)
  refine x_end ?_
  refine x_tn ?_
  refine x_ret ?_
  refine x_tr ?_
  refine x_res1 F rfl (rv_t F rfl) ?_
  obtain rfl := Option.some.inj hR
  exact ⟨rfl, hB⟩
 replace hR := ifF hb13 hR
 refine x_skip ?_
 refine x_tn ?_
 refine x_seq ?_
 refine x_seq ?_
 refine x_reg ?_
 refine o_assign F rfl rfl (fun a F => ?_)
 refine x_end ?_
 refine x_tn ?_
 obtain ⟨o29, hR, hk30⟩ := thn_some hR
 refine x_cutQ (fun a w => o29 = .nx () ∧ Sk a 26 [] ∧ Below w0.heap.size w0 w) ?_ ?_
 ·
  refine x_blk ?_
  obtain ⟨fl33, hf34, hR⟩ := forL_gen hR
  refine x_loop (fun g a w => ∃ (k35 : Nat) (rest36 : List Int), (k35 ≤ x0.length ∧ x0.drop k35 = rest36) ∧ rest36.length = g ∧ forL fl33 rest36 k35 () = some o29 ∧ Sk a 26 [(5, .int .i64 (k35 : Int)), (0, v0), (1, v1)] ∧ Below w0.heap.size w0 w) x0.length ?_ ?_
  ·
   exact ⟨0, x0, ⟨Nat.zero_le _, rfl⟩, rfl, hR, F.sub (sc rfl (sc rfl (sc rfl sn))), hB⟩
  intro g38 a w ⟨k35, rest36, hd39, hg40, hR, F, hB⟩
  cases rest36 with
  | nil =>
   replace hR := forL_nil hR
   have hkk35 := drop_nil hd39.1 hd39.2
   have hlk35 := dec_no hkk35
   refine x_seq ?_
   refine x_seq ?_
   refine x_reg ?_
   refine o_move F rfl rfl (fun a F => ?_)
   refine o_move F rfl rfl (fun a F => ?_)
   refine o_len Tryz.underlying42 F rfl rfl (A0.go hB) (fun a F => ?_)
   have i55 := ((A0.go hB)).r.len64
   refine o_lss F rfl rfl rfl (fun a F => ?_)
   refine x_end ?_
   refine x_tn ?_
   refine x_ifF F rfl hlk35 ?_
   refine x_exit ?_
   refine x_te ?_
   refine x_te ?_
   refine x_be ?_
   refine x_tn ?_
   exact ⟨(Option.some.inj hR).symm, F.sub sn, hB⟩
  | cons x37 rest36 =>
   subst hg40
   replace hd39 := drop_cons hd39.2
   have hxk35 := ix_nat hd39.2.1
   obtain ⟨ck35, hR, hn32⟩ := forL_cons hR
   rw [hf34] at hR
   have hlk35 := dec_yes hd39.1
   refine x_seq ?_
   refine x_seq ?_
   refine x_reg ?_
   refine o_move F rfl rfl (fun a F => ?_)
   refine o_move F rfl rfl (fun a F => ?_)
   refine o_len Tryz.underlying42 F rfl rfl (A0.go hB) (fun a F => ?_)
   have i41 := ((A0.go hB)).r.len64
   refine o_lss F rfl rfl rfl (fun a F => ?_)
   refine x_end ?_
   refine x_tn ?_
   refine x_ifT F rfl hlk35 ?_
   refine x_skip ?_
   refine x_tn ?_
   refine x_seq ?_
   have ikk35 := k64 (Nat.le_of_lt hd39.1) i41
   have ink35 := inc64 hd39.1 i41
   refine x_blk ?_
   refine x_seq ?_
   refine x_draw (by kernel_rfl) (by kernel_rfl) ?_
   refine q_val F rfl (fun w l => r_move F rfl) (fun a F => ?_)
   refine q_val F rfl (fun w l => r_move F rfl) (fun a F => ?_)
   refine q_index Tryz.underlying42 Tryz.sizeOf2 F rfl rfl rfl (A0.go hB) hxk35 (fun a p42 b43 h44 s45 F => ?_)
   have i46 := (h44).i64
   refine q_val F rfl (fun w l => r_loadI Tryz.isAgg2 F rfl ((h44).go l)) (fun a F => ?_)
   refine q_val F rfl (fun w l => r_move F rfl) (fun a F => ?_)
   refine q_val F rfl (fun w l => r_move F rfl) (fun a F => ?_)
   obtain ⟨z47, c48, hR⟩ := bnd_some hR
   refine q_index Tryz.underlying42 Tryz.sizeOf2 F rfl rfl rfl (A1.go hB) c48 (fun a p49 b50 h51 s52 F => ?_)
   have i53 := (h51).i64
   refine q_val F rfl (fun w l => r_loadI Tryz.isAgg2 F rfl ((h51).go l)) (fun a F => ?_)
   refine q_val F rfl (fun w l => r_neq F rfl rfl) (fun a F => ?_)
   refine q_end (fun w l => ?_)
   replace hB := Below.through l hB
   refine x_tn ?_
   refine x_if F rfl (fun hb54 => ?_) (fun hb54 => ?_)
   ·
    replace hR := ifT hb54 hR
    refine x_seq ?_
    refine x_reg ?_
    refine o_assign F rfl rfl (fun a F => ?_)
    refine x_end ?_
    refine x_tn ?_
    refine x_ret ?_
    refine x_br ?_
    refine x_tr ?_
    refine x_tr ?_
    replace hR := l_ret hR hn32
    refine x_br ?_
    refine x_tr ?_
    replace hR := j_ret hR hk30
    refine x_tr ?_
    refine x_res1 F rfl (rv_t F rfl) ?_
    obtain rfl := Option.some.inj hR
    exact ⟨rfl, hB⟩
   replace hR := ifF hb54 hR
   refine x_skip ?_
   refine x_bn ?_
   refine x_tn ?_
   refine x_reg ?_
   refine o_move F rfl rfl (fun a F => ?_)
   refine o_inc F rfl rfl rfl ink35 (fun a F => ?_)
   refine o_assign F rfl rfl (fun a F => ?_)
   refine x_end ?_
   refine x_tn ?_
   replace hR := l_go hR hn32
   exact ⟨_, Nat.lt_succ_self _, k35 + 1, rest36, ⟨hd39.1, hd39.2.2⟩, rfl, hR, F.sub (sc rfl (sc rfl (sc rfl sn))), hB⟩
 intro a w ⟨ho31, F, hB⟩
 subst ho31
 have hR := then_nx hk30
 refine x_tn ?_
 refine x_seq ?_
 refine x_reg ?_
 refine o_assign F rfl rfl (fun a F => ?_)
 refine x_end ?_
 refine x_tn ?_
 refine x_ret ?_
 refine x_res1 F rfl (rv_t F rfl) ?_
 obtain rfl := Option.some.inj hR
 exact ⟨rfl, hB⟩

def impl_areValues_1 (x0 : Int) (y0 : Int) : Option Bool :=
 bnd (impl_isValue y0 x0) fun z12 =>
 some ((!z12))
set_option maxHeartbeats 1000000 in
theorem impl_areValues_1_c {x0 : Int} {y0 : Int} (r : Bool) (hR : impl_areValues_1 x0 y0 = some r) {v1 : Value} {b1 : List Nat} (w0 : World) (hx0 : I64 x0) (A1 : Rd (Pt 1 RInt) w0 v1 y0 b1) : Calls Tryz.prog 195 #[.int .i64 x0, v1] w0 (Says (.bool r) w0) := by
 unfold impl_areValues_1 at hR
 refine x_enter (L := [(0, .int .i64 x0), (1, v1)]) Tryz.func195 rfl rfl rfl (sc rfl (sc rfl sn)) (fun a F => ?_)
 have hB := Below.refl w0.heap.size w0
 refine x_seq ?_
 refine x_reg ?_
 refine o_assign F rfl rfl (fun a F => ?_)
 refine x_end ?_
 refine x_tn ?_
 refine x_seq ?_
 refine x_reg ?_
 have i11 := ((A1.go hB)).i64
 refine o_loadI Tryz.isAgg2 F rfl rfl (A1.go hB) (fun a F => ?_)
 refine o_move F rfl rfl (fun a F => ?_)
 obtain ⟨z12, c13, hR⟩ := bnd_some hR
 refine o_says F rfl Tryz.call175 rfl (impl_isValue_c z12 c13 _ i11 hx0) (fun a w l F => ?_)
 replace hB := Below.through l hB
 refine o_not F rfl rfl (fun a F => ?_)
 refine o_assign F rfl rfl (fun a F => ?_)
 refine x_end ?_
 refine x_tn ?_
 refine x_ret ?_
 refine x_res1 F rfl (rv_t F rfl) ?_
 obtain rfl := Option.some.inj hR
 exact ⟨rfl, hB⟩

def spec_l01Tuple (x0 : Int) (x1 : Int) (x2 : List Int) : Option Bool :=
 thn (σ := Unit) (
  forL (σ := Unit) (ρ := Bool) (fun (k29 : Nat) (x31 : Int) (s : Unit) =>
    match s with
    | _ =>
    bnd (ck (x0 - 1)) fun z41 =>
    bnd (spec_l00In x31 0 z41) fun z43 =>
    if (!z43) then
     some (.ret false)
    else
     some (.go ())) x2 0 ()) fun _ =>
 some (((x2.length : Int) == x1))
set_option maxHeartbeats 1000000 in
theorem spec_l01Tuple_c {x0 : Int} {x1 : Int} {x2 : List Int} (r : Bool) (hR : spec_l01Tuple x0 x1 x2 = some r) {v2 : Value} {b2 : List Nat} (w0 : World) (hx0 : I64 x0) (hx1 : I64 x1) (A2 : Rd (Sl 1 RInt) w0 v2 x2 b2) : Calls Tryz.prog 115 #[.int .i64 x0, .int .i64 x1, v2] w0 (Says (.bool r) w0) := by
 unfold spec_l01Tuple at hR
 refine x_enter (L := [(0, .int .i64 x0), (1, .int .i64 x1), (2, v2)]) Tryz.func115 rfl rfl rfl (sc rfl (sc rfl (sc rfl sn))) (fun a F => ?_)
 have hB := Below.refl w0.heap.size w0
 refine x_seq ?_
 refine x_reg ?_
 refine o_assign F rfl rfl (fun a F => ?_)
 refine x_end ?_
 refine x_tn ?_
 refine x_seq ?_
 refine x_seq ?_
 refine x_reg ?_
 refine o_assign F rfl rfl (fun a F => ?_)
 refine x_end ?_
 refine x_tn ?_
 obtain ⟨o23, hR, hk24⟩ := thn_some hR
 refine x_cutQ (fun a w => o23 = .nx () ∧ Sk a 26 [(1, .int .i64 x1), (2, v2)] ∧ Below w0.heap.size w0 w) ?_ ?_
 ·
  refine x_blk ?_
  obtain ⟨fl27, hf28, hR⟩ := forL_gen hR
  refine x_loop (fun g a w => ∃ (k29 : Nat) (rest30 : List Int), (k29 ≤ x2.length ∧ x2.drop k29 = rest30) ∧ rest30.length = g ∧ forL fl27 rest30 k29 () = some o23 ∧ Sk a 26 [(7, .int .i64 (k29 : Int)), (0, .int .i64 x0), (1, .int .i64 x1), (2, v2)] ∧ Below w0.heap.size w0 w) x2.length ?_ ?_
  ·
   exact ⟨0, x2, ⟨Nat.zero_le _, rfl⟩, rfl, hR, F.sub (sc rfl (sc rfl (sc rfl (sc rfl sn)))), hB⟩
  intro g32 a w ⟨k29, rest30, hd33, hg34, hR, F, hB⟩
  cases rest30 with
  | nil =>
   replace hR := forL_nil hR
   have hkk29 := drop_nil hd33.1 hd33.2
   have hlk29 := dec_no hkk29
   refine x_seq ?_
   refine x_seq ?_
   refine x_reg ?_
   refine o_move F rfl rfl (fun a F => ?_)
   refine o_move F rfl rfl (fun a F => ?_)
   refine o_len Tryz.underlying42 F rfl rfl (A2.go hB) (fun a F => ?_)
   have i46 := ((A2.go hB)).r.len64
   refine o_lss F rfl rfl rfl (fun a F => ?_)
   refine x_end ?_
   refine x_tn ?_
   refine x_ifF F rfl hlk29 ?_
   refine x_exit ?_
   refine x_te ?_
   refine x_te ?_
   refine x_be ?_
   refine x_tn ?_
   exact ⟨(Option.some.inj hR).symm, F.sub (sc rfl (sc rfl sn)), hB⟩
  | cons x31 rest30 =>
   subst hg34
   replace hd33 := drop_cons hd33.2
   have hxk29 := ix_nat hd33.2.1
   obtain ⟨ck29, hR, hn26⟩ := forL_cons hR
   rw [hf28] at hR
   have hlk29 := dec_yes hd33.1
   refine x_seq ?_
   refine x_seq ?_
   refine x_reg ?_
   refine o_move F rfl rfl (fun a F => ?_)
   refine o_move F rfl rfl (fun a F => ?_)
   refine o_len Tryz.underlying42 F rfl rfl (A2.go hB) (fun a F => ?_)
   have i35 := ((A2.go hB)).r.len64
   refine o_lss F rfl rfl rfl (fun a F => ?_)
   refine x_end ?_
   refine x_tn ?_
   refine x_ifT F rfl hlk29 ?_
   refine x_skip ?_
   refine x_tn ?_
   refine x_seq ?_
   have ikk29 := k64 (Nat.le_of_lt hd33.1) i35
   have ink29 := inc64 hd33.1 i35
   refine x_blk ?_
   refine x_seq ?_
   refine x_reg ?_
   refine o_move F rfl rfl (fun a F => ?_)
   refine o_move F rfl rfl (fun a F => ?_)
   refine o_index Tryz.underlying42 Tryz.sizeOf2 F rfl rfl rfl (A2.go hB) hxk29 (fun a p36 b37 h38 s39 F => ?_)
   have i40 := (h38).i64
   refine o_loadI Tryz.isAgg2 F rfl rfl h38 (fun a F => ?_)
   refine o_move F rfl rfl (fun a F => ?_)
   obtain ⟨z41, c42, hR⟩ := bnd_some hR
   refine o_sub F rfl rfl rfl c42 (fun a F => ?_)
   obtain ⟨z43, c44, hR⟩ := bnd_some hR
   refine o_says F rfl Tryz.call162 rfl (spec_l00In_c z43 c44 _ i40 (show I64 (0) by decide) (ck64 c42)) (fun a w l F => ?_)
   replace hB := Below.through l hB
   refine o_not F rfl rfl (fun a F => ?_)
   refine x_end ?_
   refine x_tn ?_
   refine x_if F rfl (fun hb45 => ?_) (fun hb45 => ?_)
   ·
    replace hR := ifT hb45 hR
    refine x_seq ?_
    refine x_reg ?_
    refine o_assign F rfl rfl (fun a F => ?_)
    refine x_end ?_
    refine x_tn ?_
    refine x_ret ?_
    refine x_br ?_
    refine x_tr ?_
    refine x_tr ?_
    replace hR := l_ret hR hn26
    refine x_br ?_
    refine x_tr ?_
    replace hR := j_ret hR hk24
    refine x_tr ?_
    refine x_res1 F rfl (rv_t F rfl) ?_
    obtain rfl := Option.some.inj hR
    exact ⟨rfl, hB⟩
   replace hR := ifF hb45 hR
   refine x_skip ?_
   refine x_bn ?_
   refine x_tn ?_
   refine x_reg ?_
   refine o_move F rfl rfl (fun a F => ?_)
   refine o_inc F rfl rfl rfl ink29 (fun a F => ?_)
   refine o_assign F rfl rfl (fun a F => ?_)
   refine x_end ?_
   refine x_tn ?_
   replace hR := l_go hR hn26
   exact ⟨_, Nat.lt_succ_self _, k29 + 1, rest30, ⟨hd33.1, hd33.2.2⟩, rfl, hR, F.sub (sc rfl (sc rfl (sc rfl (sc rfl sn)))), hB⟩
 intro a w ⟨ho25, F, hB⟩
 subst ho25
 have hR := then_nx hk24
 refine x_tn ?_
 refine x_seq ?_
 refine x_reg ?_
 refine o_move F rfl rfl (fun a F => ?_)
 refine o_len Tryz.underlying42 F rfl rfl (A2.go hB) (fun a F => ?_)
 have i47 := ((A2.go hB)).r.len64
 refine o_move F rfl rfl (fun a F => ?_)
 refine o_eql F rfl rfl rfl (fun a F => ?_)
 refine o_assign F rfl rfl (fun a F => ?_)
 refine x_end ?_
 refine x_tn ?_
 refine x_ret ?_
 refine x_res1 F rfl (rv_t F rfl) ?_
 obtain rfl := Option.some.inj hR
 exact ⟨rfl, hB⟩

def spec_l01Before (x0 : List Int) (x1 : List Int) : Option Bool :=
 thn (σ := Unit) (
  forL (σ := Unit) (ρ := Bool) (fun (k42 : Nat) (x44 : Int) (s : Unit) =>
    match s with
    | _ =>
    bnd (ix x1 (k42 : Int)) fun z54 =>
    if (x44 != z54) then
     some (.ret ((decide (x44 < z54))))
    else
     some (.go ())) x0 0 ()) fun _ =>
 some false
set_option maxHeartbeats 1000000 in
theorem spec_l01Before_c {x0 : List Int} {x1 : List Int} (r : Bool) (hR : spec_l01Before x0 x1 = some r) {v0 : Value} {b0 : List Nat} {v1 : Value} {b1 : List Nat} (w0 : World) (A0 : Rd (Sl 1 RInt) w0 v0 x0 b0) (A1 : Rd (Sl 1 RInt) w0 v1 x1 b1) : Calls Tryz.prog 284 #[v0, v1] w0 (Says (.bool r) w0) := by
 unfold spec_l01Before at hR
 refine x_enter (L := [(0, v0), (1, v1)]) Tryz.func284 rfl rfl rfl (sc rfl (sc rfl sn)) (fun a F => ?_)
 have hB := Below.refl w0.heap.size w0
 refine x_seq ?_
 refine x_reg ?_
 refine o_assign F rfl rfl (fun a F => ?_)
 refine x_end ?_
 refine x_tn ?_
 refine x_seq ?_
 refine x_seq ?_
 refine x_reg ?_
 refine o_assign F rfl rfl (fun a F => ?_)
 refine x_end ?_
 refine x_tn ?_
 obtain ⟨o36, hR, hk37⟩ := thn_some hR
 refine x_cutQ (fun a w => o36 = .nx () ∧ Sk a 30 [] ∧ Below w0.heap.size w0 w) ?_ ?_
 ·
  refine x_blk ?_
  obtain ⟨fl40, hf41, hR⟩ := forL_gen hR
  refine x_loop (fun g a w => ∃ (k42 : Nat) (rest43 : List Int), (k42 ≤ x0.length ∧ x0.drop k42 = rest43) ∧ rest43.length = g ∧ forL fl40 rest43 k42 () = some o36 ∧ Sk a 30 [(5, .int .i64 (k42 : Int)), (0, v0), (1, v1)] ∧ Below w0.heap.size w0 w) x0.length ?_ ?_
  ·
   exact ⟨0, x0, ⟨Nat.zero_le _, rfl⟩, rfl, hR, F.sub (sc rfl (sc rfl (sc rfl sn))), hB⟩
  intro g45 a w ⟨k42, rest43, hd46, hg47, hR, F, hB⟩
  cases rest43 with
  | nil =>
   replace hR := forL_nil hR
   have hkk42 := drop_nil hd46.1 hd46.2
   have hlk42 := dec_no hkk42
   refine x_seq ?_
   refine x_seq ?_
   refine x_reg ?_
   refine o_move F rfl rfl (fun a F => ?_)
   refine o_move F rfl rfl (fun a F => ?_)
   refine o_len Tryz.underlying42 F rfl rfl (A0.go hB) (fun a F => ?_)
   have i72 := ((A0.go hB)).r.len64
   refine o_lss F rfl rfl rfl (fun a F => ?_)
   refine x_end ?_
   refine x_tn ?_
   refine x_ifF F rfl hlk42 ?_
   refine x_exit ?_
   refine x_te ?_
   refine x_te ?_
   refine x_be ?_
   refine x_tn ?_
   exact ⟨(Option.some.inj hR).symm, F.sub sn, hB⟩
  | cons x44 rest43 =>
   subst hg47
   replace hd46 := drop_cons hd46.2
   have hxk42 := ix_nat hd46.2.1
   obtain ⟨ck42, hR, hn39⟩ := forL_cons hR
   rw [hf41] at hR
   have hlk42 := dec_yes hd46.1
   refine x_seq ?_
   refine x_seq ?_
   refine x_reg ?_
   refine o_move F rfl rfl (fun a F => ?_)
   refine o_move F rfl rfl (fun a F => ?_)
   refine o_len Tryz.underlying42 F rfl rfl (A0.go hB) (fun a F => ?_)
   have i48 := ((A0.go hB)).r.len64
   refine o_lss F rfl rfl rfl (fun a F => ?_)
   refine x_end ?_
   refine x_tn ?_
   refine x_ifT F rfl hlk42 ?_
   refine x_skip ?_
   refine x_tn ?_
   refine x_seq ?_
   have ikk42 := k64 (Nat.le_of_lt hd46.1) i48
   have ink42 := inc64 hd46.1 i48
   refine x_blk ?_
   refine x_seq ?_
   refine x_draw (by kernel_rfl) (by kernel_rfl) ?_
   refine q_val F rfl (fun w l => r_move F rfl) (fun a F => ?_)
   refine q_val F rfl (fun w l => r_move F rfl) (fun a F => ?_)
   refine q_index Tryz.underlying42 Tryz.sizeOf2 F rfl rfl rfl (A0.go hB) hxk42 (fun a p49 b50 h51 s52 F => ?_)
   have i53 := (h51).i64
   refine q_val F rfl (fun w l => r_loadI Tryz.isAgg2 F rfl ((h51).go l)) (fun a F => ?_)
   refine q_val F rfl (fun w l => r_move F rfl) (fun a F => ?_)
   refine q_val F rfl (fun w l => r_move F rfl) (fun a F => ?_)
   obtain ⟨z54, c55, hR⟩ := bnd_some hR
   refine q_index Tryz.underlying42 Tryz.sizeOf2 F rfl rfl rfl (A1.go hB) c55 (fun a p56 b57 h58 s59 F => ?_)
   have i60 := (h58).i64
   refine q_val F rfl (fun w l => r_loadI Tryz.isAgg2 F rfl ((h58).go l)) (fun a F => ?_)
   refine q_val F rfl (fun w l => r_neq F rfl rfl) (fun a F => ?_)
   refine q_end (fun w l => ?_)
   replace hB := Below.through l hB
   refine x_tn ?_
   refine x_if F rfl (fun hb61 => ?_) (fun hb61 => ?_)
   ·
    replace hR := ifT hb61 hR
    refine x_seq ?_
    refine x_draw (by kernel_rfl) (by kernel_rfl) ?_
    refine q_val F rfl (fun w l => r_move F rfl) (fun a F => ?_)
    refine q_val F rfl (fun w l => r_move F rfl) (fun a F => ?_)
    refine q_index Tryz.underlying42 Tryz.sizeOf2 F rfl rfl rfl (A0.go hB) hxk42 (fun a p62 b63 h64 s65 F => ?_)
    have i66 := (h64).i64
    refine q_val F rfl (fun w l => r_loadI Tryz.isAgg2 F rfl ((h64).go l)) (fun a F => ?_)
    refine q_val F rfl (fun w l => r_move F rfl) (fun a F => ?_)
    refine q_val F rfl (fun w l => r_move F rfl) (fun a F => ?_)
    refine q_index Tryz.underlying42 Tryz.sizeOf2 F rfl rfl rfl (A1.go hB) c55 (fun a p67 b68 h69 s70 F => ?_)
    have i71 := (h69).i64
    refine q_val F rfl (fun w l => r_loadI Tryz.isAgg2 F rfl ((h69).go l)) (fun a F => ?_)
    refine q_val F rfl (fun w l => r_lss F rfl rfl) (fun a F => ?_)
    refine q_val F rfl (fun w l => r_assign F rfl) (fun a F => ?_)
    refine q_end (fun w l => ?_)
    replace hB := Below.through l hB
    refine x_tn ?_
    refine x_ret ?_
    refine x_br ?_
    refine x_tr ?_
    refine x_tr ?_
    replace hR := l_ret hR hn39
    refine x_br ?_
    refine x_tr ?_
    replace hR := j_ret hR hk37
    refine x_tr ?_
    refine x_res1 F rfl (rv_t F rfl) ?_
    obtain rfl := Option.some.inj hR
    exact ⟨rfl, hB⟩
   replace hR := ifF hb61 hR
   refine x_skip ?_
   refine x_bn ?_
   refine x_tn ?_
   refine x_reg ?_
   refine o_move F rfl rfl (fun a F => ?_)
   refine o_inc F rfl rfl rfl ink42 (fun a F => ?_)
   refine o_assign F rfl rfl (fun a F => ?_)
   refine x_end ?_
   refine x_tn ?_
   replace hR := l_go hR hn39
   exact ⟨_, Nat.lt_succ_self _, k42 + 1, rest43, ⟨hd46.1, hd46.2.2⟩, rfl, hR, F.sub (sc rfl (sc rfl (sc rfl sn))), hB⟩
 intro a w ⟨ho38, F, hB⟩
 subst ho38
 have hR := then_nx hk37
 refine x_tn ?_
 refine x_seq ?_
 refine x_reg ?_
 refine o_assign F rfl rfl (fun a F => ?_)
 refine x_end ?_
 refine x_tn ?_
 refine x_ret ?_
 refine x_res1 F rfl (rv_t F rfl) ?_
 obtain rfl := Option.some.inj hR
 exact ⟨rfl, hB⟩

def spec_l01Ok (x0 : Int) (x1 : Rel) : Option Bool :=
 thn (σ := Bool) (
  bnd (spec_l01Size x0) fun z25 =>
  if (!z25) then  some (.nx true) else  bnd (spec_l01Arity x1.arity) fun z33 =>
   some (.nx (!z33))) fun s24 =>
 if s24 then
  some false
 else
  thn (σ := Unit) (
   forL (σ := Unit) (ρ := Bool) (fun (k191 : Nat) (x193 : (List Int)) (s : Unit) =>
     match s with
     | _ =>
     thn (σ := Bool) (
      bnd (spec_l01Tuple x0 x1.arity x193) fun z294 =>
      if (!z294) then  some (.nx true) else  if (decide (0 < (k191 : Int))) then  bnd (ck ((k191 : Int) - 1)) fun z306 =>
        bnd (ix x1.tuples z306) fun z308 =>
        bnd (spec_l01Before z308 x193) fun z334 =>
        some (.nx (!z334)) else  some (.nx false)) fun s272 =>
     if s272 then
      some (.ret false)
     else
      some (.go ())) x1.tuples 0 ()) fun _ =>
  some true
set_option maxHeartbeats 1000000 in
theorem spec_l01Ok_c {x0 : Int} {x1 : Rel} (r : Bool) (hR : spec_l01Ok x0 x1 = some r) {v1 : Value} {b1 : List Nat} (w0 : World) (hx0 : I64 x0) (A1 : Rd (Pt 2 RRel) w0 v1 x1 b1) : Calls Tryz.prog 241 #[.int .i64 x0, v1] w0 (Says (.bool r) w0) := by
 unfold spec_l01Ok at hR
 refine x_enter (L := [(0, .int .i64 x0), (1, v1)]) Tryz.func241 rfl rfl rfl (sc rfl (sc rfl sn)) (fun a F => ?_)
 have hB := Below.refl w0.heap.size w0
 refine x_seq ?_
 refine x_reg ?_
 refine o_assign F rfl rfl (fun a F => ?_)
 refine x_end ?_
 refine x_tn ?_
 refine x_seq ?_
 refine x_seq ?_
 obtain ⟨o21, hR, hk22⟩ := thn_some hR
 refine x_cutQ (fun a w => ∃ (s24 : Bool), o21 = .nx s24 ∧ Sk a 63 [(0, .int .i64 x0), (1, v1), (16, .bool s24)] ∧ Below w0.heap.size w0 w) ?_ ?_
 ·
  refine x_reg ?_
  refine o_move F rfl rfl (fun a F => ?_)
  obtain ⟨z25, c26, hR⟩ := bnd_some hR
  refine o_says F rfl Tryz.call242 rfl (spec_l01Size_c z25 c26 _ hx0) (fun a w l F => ?_)
  replace hB := Below.through l hB
  refine o_not F rfl rfl (fun a F => ?_)
  refine o_move F rfl rfl (fun a F => ?_)
  rcases bcases (!z25) with hb27 | hb27
  ·
   replace hR := ifT hb27 hR
   have F := F.eq (t := 9) rfl (congrArg Value.bool hb27)
   refine o_no F rfl rfl (fun a F => ?_)
   refine o_no F rfl rfl (fun a F => ?_)
   refine o_no F rfl rfl (fun a F => ?_)
   refine o_no F rfl rfl (fun a F => ?_)
   refine o_no F rfl rfl (fun a F => ?_)
   refine o_no F rfl rfl (fun a F => ?_)
   refine o_pickt F rfl rfl rfl (fun a F => ?_)
   refine x_end ?_
   refine x_tn ?_
   exact ⟨true, (Option.some.inj hR).symm, F.sub (sc rfl (sc rfl (sc rfl sn))), hB⟩
  replace hR := ifF hb27 hR
  have F := F.eq (t := 9) rfl (congrArg Value.bool hb27)
  refine o_move F rfl rfl (fun a F => ?_)
  refine o_nilCheckP F rfl rfl (A1.go hB) (fun a F => ?_)
  refine o_field (s' := 1) fa101_0 F rfl rfl (A1.go hB) RRel.f0 (fun a p28 b29 h30 s31 F => ?_)
  have i32 := (h30).i64
  refine o_loadI Tryz.isAgg2 F rfl rfl h30 (fun a F => ?_)
  obtain ⟨z33, c34, hR⟩ := bnd_some hR
  refine o_says F rfl Tryz.call164 rfl (spec_l01Arity_c z33 c34 _ i32) (fun a w l F => ?_)
  replace hB := Below.through l hB
  refine o_not F rfl rfl (fun a F => ?_)
  refine o_pickf F rfl rfl rfl (fun a F => ?_)
  refine x_end ?_
  refine x_tn ?_
  exact ⟨(!z33), (Option.some.inj hR).symm, F.sub (sc rfl (sc rfl (sc rfl sn))), hB⟩
 intro a w ⟨s24, ho23, F, hB⟩
 subst ho23
 have hR := then_nx hk22
 refine x_tn ?_
 refine x_if F rfl (fun hb35 => ?_) (fun hb35 => ?_)
 ·
  replace hR := ifT hb35 hR
  refine x_seq ?_
  refine x_reg ?_
  refine o_assign F rfl rfl (fun a F => ?_)
  refine x_end ?_
  refine x_tn ?_
  refine x_ret ?_
  refine x_tr ?_
  refine x_res1 F rfl (rv_t F rfl) ?_
  obtain rfl := Option.some.inj hR
  exact ⟨rfl, hB⟩
 replace hR := ifF hb35 hR
 refine x_skip ?_
 refine x_tn ?_
 refine x_seq ?_
 refine x_seq ?_
 refine x_reg ?_
 refine o_assign F rfl rfl (fun a F => ?_)
 refine x_end ?_
 refine x_tn ?_
 obtain ⟨o185, hR, hk186⟩ := thn_some hR
 refine x_cutQ (fun a w => o185 = .nx () ∧ Sk a 63 [] ∧ Below w0.heap.size w0 w) ?_ ?_
 ·
  refine x_blk ?_
  obtain ⟨fl189, hf190, hR⟩ := forL_gen hR
  refine x_loop (fun g a w => ∃ (k191 : Nat) (rest192 : List (List Int)), (k191 ≤ x1.tuples.length ∧ x1.tuples.drop k191 = rest192) ∧ rest192.length = g ∧ forL fl189 rest192 k191 () = some o185 ∧ Sk a 63 [(5, .int .i64 (k191 : Int)), (0, .int .i64 x0), (1, v1)] ∧ Below w0.heap.size w0 w) x1.tuples.length ?_ ?_
  ·
   exact ⟨0, x1.tuples, ⟨Nat.zero_le _, rfl⟩, rfl, hR, F.sub (sc rfl (sc rfl (sc rfl sn))), hB⟩
  intro g194 a w ⟨k191, rest192, hd195, hg196, hR, F, hB⟩
  cases rest192 with
  | nil =>
   replace hR := forL_nil hR
   have hkk191 := drop_nil hd195.1 hd195.2
   have hlk191 := dec_no hkk191
   refine x_seq ?_
   refine x_seq ?_
   refine x_reg ?_
   refine o_move F rfl rfl (fun a F => ?_)
   refine o_move F rfl rfl (fun a F => ?_)
   refine o_nilCheckP F rfl rfl (A1.go hB) (fun a F => ?_)
   refine o_field (s' := 1) fa101_1 F rfl rfl (A1.go hB) RRel.f1 (fun a p337 b338 h339 s340 F => ?_)
   refine o_loadS Tryz.isAgg99 F rfl rfl h339 (fun a v341 b342 h343 s344 F => ?_)
   refine o_len Tryz.underlying99 F rfl rfl h343 (fun a F => ?_)
   have i345 := (h343).r.len64
   refine o_lss F rfl rfl rfl (fun a F => ?_)
   refine x_end ?_
   refine x_tn ?_
   refine x_ifF F rfl hlk191 ?_
   refine x_exit ?_
   refine x_te ?_
   refine x_te ?_
   refine x_be ?_
   refine x_tn ?_
   exact ⟨(Option.some.inj hR).symm, F.sub sn, hB⟩
  | cons x193 rest192 =>
   subst hg196
   replace hd195 := drop_cons hd195.2
   have hxk191 := ix_nat hd195.2.1
   obtain ⟨ck191, hR, hn188⟩ := forL_cons hR
   rw [hf190] at hR
   have hlk191 := dec_yes hd195.1
   refine x_seq ?_
   refine x_seq ?_
   refine x_reg ?_
   refine o_move F rfl rfl (fun a F => ?_)
   refine o_move F rfl rfl (fun a F => ?_)
   refine o_nilCheckP F rfl rfl (A1.go hB) (fun a F => ?_)
   refine o_field (s' := 1) fa101_1 F rfl rfl (A1.go hB) RRel.f1 (fun a p197 b198 h199 s200 F => ?_)
   refine o_loadS Tryz.isAgg99 F rfl rfl h199 (fun a v201 b202 h203 s204 F => ?_)
   refine o_len Tryz.underlying99 F rfl rfl h203 (fun a F => ?_)
   have i205 := (h203).r.len64
   refine o_lss F rfl rfl rfl (fun a F => ?_)
   refine x_end ?_
   refine x_tn ?_
   refine x_ifT F rfl hlk191 ?_
   refine x_skip ?_
   refine x_tn ?_
   refine x_seq ?_
   have ikk191 := k64 (Nat.le_of_lt hd195.1) i205
   have ink191 := inc64 hd195.1 i205
   refine x_blk ?_
   refine x_seq ?_
   obtain ⟨o269, hR, hk270⟩ := thn_some hR
   refine x_cutQ (fun a w => ∃ (s272 : Bool), o269 = .nx s272 ∧ Sk a 63 [(0, .int .i64 x0), (1, v1), (5, .int .i64 (k191 : Int)), (62, .bool s272)] ∧ Below w0.heap.size w0 w) ?_ ?_
   ·
    refine x_draw (by kernel_rfl) (by kernel_rfl) ?_
    refine q_val F rfl (fun w l => r_move F rfl) (fun a F => ?_)
    refine q_val F rfl (fun w l => r_move F rfl) (fun a F => ?_)
    refine q_val F rfl (fun w l => r_nilCheckP F rfl (A1.go hB)) (fun a F => ?_)
    refine q_field (s' := 1) fa101_0 F rfl rfl (A1.go hB) RRel.f0 (fun a p273 b274 h275 s276 F => ?_)
    have i277 := (h275).i64
    refine q_val F rfl (fun w l => r_loadI Tryz.isAgg2 F rfl ((h275).go l)) (fun a F => ?_)
    refine q_val F rfl (fun w l => r_move F rfl) (fun a F => ?_)
    refine q_val F rfl (fun w l => r_nilCheckP F rfl (A1.go hB)) (fun a F => ?_)
    refine q_field (s' := 1) fa101_1 F rfl rfl (A1.go hB) RRel.f1 (fun a p278 b279 h280 s281 F => ?_)
    refine q_loadS (fun _ l => l) Tryz.isAgg99 F rfl rfl h280 (fun a v282 b283 h284 s285 F => ?_)
    refine q_val F rfl (fun w l => r_move F rfl) (fun a F => ?_)
    refine q_index Tryz.underlying99 Tryz.sizeOf42 F rfl rfl rfl h284 hxk191 (fun a p286 b287 h288 s289 F => ?_)
    refine q_loadS (fun _ l => l) Tryz.isAgg42 F rfl rfl h288 (fun a v290 b291 h292 s293 F => ?_)
    obtain ⟨z294, c295, hR⟩ := bnd_some hR
    refine q_says F rfl Tryz.call115 rfl (fun w w' h l => l.through h) (fun w l => spec_l01Tuple_c z294 c295 w hx0 i277 (h292.go l)) (fun a F => ?_)
    refine q_val F rfl (fun w l => r_not F rfl) (fun a F => ?_)
    refine q_val F rfl (fun w l => r_move F rfl) (fun a F => ?_)
    rcases bcases (!z294) with hb296 | hb296
    ·
     replace hR := ifT hb296 hR
     have F := F.eq (t := 40) rfl (congrArg Value.bool hb296)
     refine q_no F rfl rfl (fun a F => ?_)
     refine q_no F rfl rfl (fun a F => ?_)
     refine q_no F rfl rfl (fun a F => ?_)
     refine q_no F rfl rfl (fun a F => ?_)
     refine q_no F rfl rfl (fun a F => ?_)
     refine q_no F rfl rfl (fun a F => ?_)
     refine q_no F rfl rfl (fun a F => ?_)
     refine q_no F rfl rfl (fun a F => ?_)
     refine q_no F rfl rfl (fun a F => ?_)
     refine q_no F rfl rfl (fun a F => ?_)
     refine q_no F rfl rfl (fun a F => ?_)
     refine q_no F rfl rfl (fun a F => ?_)
     refine q_no F rfl rfl (fun a F => ?_)
     refine q_no F rfl rfl (fun a F => ?_)
     refine q_no F rfl rfl (fun a F => ?_)
     refine q_no F rfl rfl (fun a F => ?_)
     refine q_no F rfl rfl (fun a F => ?_)
     refine q_no F rfl rfl (fun a F => ?_)
     refine q_no F rfl rfl (fun a F => ?_)
     refine q_no F rfl rfl (fun a F => ?_)
     refine q_no F rfl rfl (fun a F => ?_)
     refine q_val F rfl (fun w l => r_pickt F rfl rfl) (fun a F => ?_)
     refine q_end (fun w l => ?_)
     replace hB := Below.through l hB
     refine x_tn ?_
     exact ⟨true, (Option.some.inj hR).symm, F.sub (sc rfl (sc rfl (sc rfl (sc rfl sn)))), hB⟩
    replace hR := ifF hb296 hR
    have F := F.eq (t := 40) rfl (congrArg Value.bool hb296)
    refine q_val F rfl (fun w l => r_move F rfl) (fun a F => ?_)
    refine q_val F rfl (fun w l => r_gtr F rfl rfl) (fun a F => ?_)
    refine q_val F rfl (fun w l => r_move F rfl) (fun a F => ?_)
    rcases bcases (decide (0 < (k191 : Int))) with hb297 | hb297
    ·
     replace hR := ifT hb297 hR
     have F := F.eq (t := 43) rfl (congrArg Value.bool hb297)
     refine q_val F rfl (fun w l => r_move F rfl) (fun a F => ?_)
     refine q_val F rfl (fun w l => r_nilCheckP F rfl (A1.go hB)) (fun a F => ?_)
     refine q_field (s' := 1) fa101_1 F rfl rfl (A1.go hB) RRel.f1 (fun a p298 b299 h300 s301 F => ?_)
     refine q_loadS (fun _ l => l) Tryz.isAgg99 F rfl rfl h300 (fun a v302 b303 h304 s305 F => ?_)
     refine q_val F rfl (fun w l => r_move F rfl) (fun a F => ?_)
     obtain ⟨z306, c307, hR⟩ := bnd_some hR
     refine q_val F rfl (fun w l => r_sub F rfl rfl c307) (fun a F => ?_)
     obtain ⟨z308, c309, hR⟩ := bnd_some hR
     refine q_index Tryz.underlying99 Tryz.sizeOf42 F rfl rfl rfl h304 c309 (fun a p310 b311 h312 s313 F => ?_)
     refine q_loadS (fun _ l => l) Tryz.isAgg42 F rfl rfl h312 (fun a v314 b315 h316 s317 F => ?_)
     refine q_val F rfl (fun w l => r_move F rfl) (fun a F => ?_)
     refine q_val F rfl (fun w l => r_nilCheckP F rfl (A1.go hB)) (fun a F => ?_)
     refine q_field (s' := 1) fa101_1 F rfl rfl (A1.go hB) RRel.f1 (fun a p318 b319 h320 s321 F => ?_)
     refine q_loadS (fun _ l => l) Tryz.isAgg99 F rfl rfl h320 (fun a v322 b323 h324 s325 F => ?_)
     refine q_val F rfl (fun w l => r_move F rfl) (fun a F => ?_)
     refine q_index Tryz.underlying99 Tryz.sizeOf42 F rfl rfl rfl h324 hxk191 (fun a p326 b327 h328 s329 F => ?_)
     refine q_loadS (fun _ l => l) Tryz.isAgg42 F rfl rfl h328 (fun a v330 b331 h332 s333 F => ?_)
     obtain ⟨z334, c335, hR⟩ := bnd_some hR
     refine q_says F rfl Tryz.call284 rfl (fun w w' h l => l.through h) (fun w l => spec_l01Before_c z334 c335 w (h316.go l) (h332.go l)) (fun a F => ?_)
     refine q_val F rfl (fun w l => r_not F rfl) (fun a F => ?_)
     refine q_val F rfl (fun w l => r_pickt F rfl rfl) (fun a F => ?_)
     refine q_val F rfl (fun w l => r_pickf F rfl rfl) (fun a F => ?_)
     refine q_end (fun w l => ?_)
     replace hB := Below.through l hB
     refine x_tn ?_
     exact ⟨(!z334), (Option.some.inj hR).symm, F.sub (sc rfl (sc rfl (sc rfl (sc rfl sn)))), hB⟩
    replace hR := ifF hb297 hR
    have F := F.eq (t := 43) rfl (congrArg Value.bool hb297)
    refine q_no F rfl rfl (fun a F => ?_)
    refine q_no F rfl rfl (fun a F => ?_)
    refine q_no F rfl rfl (fun a F => ?_)
    refine q_no F rfl rfl (fun a F => ?_)
    refine q_no F rfl rfl (fun a F => ?_)
    refine q_no F rfl rfl (fun a F => ?_)
    refine q_no F rfl rfl (fun a F => ?_)
    refine q_no F rfl rfl (fun a F => ?_)
    refine q_no F rfl rfl (fun a F => ?_)
    refine q_no F rfl rfl (fun a F => ?_)
    refine q_no F rfl rfl (fun a F => ?_)
    refine q_no F rfl rfl (fun a F => ?_)
    refine q_no F rfl rfl (fun a F => ?_)
    refine q_no F rfl rfl (fun a F => ?_)
    refine q_no F rfl rfl (fun a F => ?_)
    refine q_no F rfl rfl (fun a F => ?_)
    refine q_no F rfl rfl (fun a F => ?_)
    refine q_val F rfl (fun w l => r_pickf F rfl rfl) (fun a F => ?_)
    refine q_val F rfl (fun w l => r_pickf F rfl rfl) (fun a F => ?_)
    refine q_end (fun w l => ?_)
    replace hB := Below.through l hB
    refine x_tn ?_
    exact ⟨false, (Option.some.inj hR).symm, F.sub (sc rfl (sc rfl (sc rfl (sc rfl sn)))), hB⟩
   intro a w ⟨s272, ho271, F, hB⟩
   subst ho271
   have hR := then_nx hk270
   refine x_tn ?_
   refine x_if F rfl (fun hb336 => ?_) (fun hb336 => ?_)
   ·
    replace hR := ifT hb336 hR
    refine x_seq ?_
    refine x_reg ?_
    refine o_assign F rfl rfl (fun a F => ?_)
    refine x_end ?_
    refine x_tn ?_
    refine x_ret ?_
    refine x_br ?_
    refine x_tr ?_
    refine x_tr ?_
    replace hR := l_ret hR hn188
    refine x_br ?_
    refine x_tr ?_
    replace hR := j_ret hR hk186
    refine x_tr ?_
    refine x_res1 F rfl (rv_t F rfl) ?_
    obtain rfl := Option.some.inj hR
    exact ⟨rfl, hB⟩
   replace hR := ifF hb336 hR
   refine x_skip ?_
   refine x_bn ?_
   refine x_tn ?_
   refine x_reg ?_
   refine o_move F rfl rfl (fun a F => ?_)
   refine o_inc F rfl rfl rfl ink191 (fun a F => ?_)
   refine o_assign F rfl rfl (fun a F => ?_)
   refine x_end ?_
   refine x_tn ?_
   replace hR := l_go hR hn188
   exact ⟨_, Nat.lt_succ_self _, k191 + 1, rest192, ⟨hd195.1, hd195.2.2⟩, rfl, hR, F.sub (sc rfl (sc rfl (sc rfl sn))), hB⟩
 intro a w ⟨ho187, F, hB⟩
 subst ho187
 have hR := then_nx hk186
 refine x_tn ?_
 refine x_seq ?_
 refine x_reg ?_
 refine o_assign F rfl rfl (fun a F => ?_)
 refine x_end ?_
 refine x_tn ?_
 refine x_ret ?_
 refine x_res1 F rfl (rv_t F rfl) ?_
 obtain rfl := Option.some.inj hR
 exact ⟨rfl, hB⟩

def impl_power (x0 : Int) (x1 : Int) : Option Int :=
 thn (σ := Int) (
  forI (σ := Int) (ρ := Int) (fun (k25 : Nat) (s21 : Int) =>
   bnd (ck (s21 * x0)) fun z31 =>
   some (.go z31)) x1.toNat 0 1) fun s23 =>
 some s23
set_option maxHeartbeats 1000000 in
theorem impl_power_c {x0 : Int} {x1 : Int} (r : Int) (hR : impl_power x0 x1 = some r)  (w0 : World) (hx0 : I64 x0) (hx1 : I64 x1) : Calls Tryz.prog 178 #[.int .i64 x0, .int .i64 x1] w0 (SaysI r w0) := by
 unfold impl_power at hR
 refine x_enter (L := [(0, .int .i64 x0), (1, .int .i64 x1)]) Tryz.func178 rfl rfl rfl (sc rfl (sc rfl sn)) (fun a F => ?_)
 have hB := Below.refl w0.heap.size w0
 refine x_seq ?_
 refine x_reg ?_
 refine o_assign F rfl rfl (fun a F => ?_)
 refine x_end ?_
 refine x_tn ?_
 refine x_seq ?_
 refine x_reg ?_
 refine o_assign F rfl rfl (fun a F => ?_)
 refine x_end ?_
 refine x_tn ?_
 refine x_seq ?_
 refine x_seq ?_
 refine x_reg ?_
 refine o_move F rfl rfl (fun a F => ?_)
 refine o_move F rfl rfl (fun a F => ?_)
 refine x_end ?_
 refine x_tn ?_
 obtain ⟨o15, hR, hk16⟩ := thn_some hR
 refine x_cutQ (fun a w => ∃ (s23 : Int), o15 = .nx s23 ∧ Sk a 14 [(5, .int .i64 s23)] ∧ Below w0.heap.size w0 w ∧ I64 s23) ?_ ?_
 ·
  refine x_blk ?_
  obtain ⟨fl19, hf20, hR⟩ := forI_gen hR
  refine x_loop (fun g a w => ∃ (k25 : Nat) (s21 : Int), k25 + g = x1.toNat ∧ forI fl19 g k25 s21 = some o15 ∧ Sk a 14 [(7, .int .i64 (k25 : Int)), (0, .int .i64 x0), (5, .int .i64 s21), (6, .int .i64 x1)] ∧ Below w0.heap.size w0 w ∧ I64 s21) x1.toNat ?_ ?_
  ·
   exact ⟨0, 1, (Nat.zero_add _), hR, F.sub (sc rfl (sc rfl (sc rfl (sc rfl sn)))), hB, (show I64 (1) by decide)⟩
  intro g28 a w ⟨k25, s21, hd29, hR, F, hB, i22⟩
  cases g28 with
  | zero =>
   replace hR := forI_zero hR
   have hlk25 := dec_noI hd29
   refine x_seq ?_
   refine x_reg ?_
   refine o_lss F rfl rfl rfl (fun a F => ?_)
   refine x_end ?_
   refine x_tn ?_
   refine x_seq ?_
   refine x_ifF F rfl hlk25 ?_
   refine x_exit ?_
   refine x_te ?_
   refine x_te ?_
   refine x_be ?_
   refine x_tn ?_
   exact ⟨s21, (Option.some.inj hR).symm, F.sub (sc rfl sn), hB, i22⟩
  | succ g28 =>
   obtain ⟨ck25, hR, hn18⟩ := forI_succ hR
   rw [hf20] at hR
   have hlk25 := dec_yesI hd29
   refine x_seq ?_
   refine x_reg ?_
   refine o_lss F rfl rfl rfl (fun a F => ?_)
   refine x_end ?_
   refine x_tn ?_
   refine x_seq ?_
   refine x_ifT F rfl hlk25 ?_
   refine x_skip ?_
   refine x_tn ?_
   refine x_seq ?_
   have ikk25 := k64I hd29 hx1
   have ink25 := inc64I hd29 hx1
   refine x_blk ?_
   refine x_reg ?_
   refine o_move F rfl rfl (fun a F => ?_)
   refine o_move F rfl rfl (fun a F => ?_)
   obtain ⟨z31, c32, hR⟩ := bnd_some hR
   refine o_mul F rfl rfl rfl c32 (fun a F => ?_)
   refine o_assign F rfl rfl (fun a F => ?_)
   refine x_end ?_
   refine x_bn ?_
   refine x_tn ?_
   refine x_reg ?_
   refine o_inc F rfl rfl rfl ink25 (fun a F => ?_)
   refine o_move F rfl rfl (fun a F => ?_)
   refine x_end ?_
   refine x_tn ?_
   replace hR := l_go hR hn18
   exact ⟨_, Nat.lt_succ_self _, k25 + 1, z31, (by omega), hR, F.sub (sc rfl (sc rfl (sc rfl (sc rfl sn)))), hB, (ck64 c32)⟩
 intro a w ⟨s23, ho17, F, hB, i24⟩
 subst ho17
 have hR := then_nx hk16
 refine x_tn ?_
 refine x_seq ?_
 refine x_reg ?_
 refine o_move F rfl rfl (fun a F => ?_)
 refine o_assign F rfl rfl (fun a F => ?_)
 refine x_end ?_
 refine x_tn ?_
 refine x_ret ?_
 refine x_res1 F rfl (rv_t F rfl) ?_
 obtain rfl := Option.some.inj hR
 exact ⟨⟨rfl, hB⟩, i24⟩

def impl_listOf (N : Nat) (x0 : Int) (x1 : Int) (x2 : Int) : Option (List Int) :=
 bnd (mkz (0 : Int) x1) fun z11 =>
 bnd (ck (x1 - 1)) fun z17 =>
 thn (σ := Int × Int × (List Int)) (
  whl (σ := Int × Int × (List Int)) (ρ := (List Int)) (fun (s : Int × Int × (List Int)) =>
    match s with
    | (s74, s76, s78) =>
    if (decide (0 ≤ s76)) then
     bnd (rm s74 x0) fun z99 =>
     bnd (ix s78 s76) fun z101 =>
     bnd (dv s74 x0) fun z112 =>
     bnd (ck (s76 - 1)) fun z114 =>
     some (.go (z112, z114, (s78.set (s76).toNat z99)))
    else
     some (.brk (s74, s76, s78))) N (x2, z17, z11)) fun (s83, s85, s87) =>
 some s87
set_option maxHeartbeats 1000000 in
theorem impl_listOf_c {N : Nat} {x0 : Int} {x1 : Int} {x2 : Int} (r : (List Int)) (hR : impl_listOf N x0 x1 x2 = some r)  (w0 : World) (hx0 : I64 x0) (hx1 : I64 x1) (hx2 : I64 x2) : Calls Tryz.prog 179 #[.int .i64 x0, .int .i64 x1, .int .i64 x2] w0 (Gives (fun v w' => ∃ (v1' : Value) (rb2' : List Nat), v = v1' ∧ Row 1 RInt 2 w0.heap.size w' v1' r rb2' []) w0) := by
 unfold impl_listOf at hR
 refine x_enter (L := [(0, .int .i64 x0), (1, .int .i64 x1), (2, .int .i64 x2)]) Tryz.func179 rfl rfl rfl (sc rfl (sc rfl (sc rfl sn))) (fun a F => ?_)
 have hB := Below.refl w0.heap.size w0
 refine x_seq ?_
 refine x_reg ?_
 refine o_assign F rfl rfl (fun a F => ?_)
 refine x_end ?_
 refine x_tn ?_
 refine x_seq ?_
 refine x_reg ?_
 refine o_move F rfl rfl (fun a F => ?_)
 obtain ⟨z11, c12, hR⟩ := bnd_some hR
 refine o_make (sz := 1) (R := RInt) (z := (.int .i64 0)) (bytes := 8) Tryz.underlying42 (by kernel_rfl) rfl (by decide) (by decide) (fun w => ⟨rfl, by decide, rfl⟩) F rfl rfl rfl c12 (fun a w v13 rb14 h15 l F => ?_)
 replace h15 := h15.base hB.size
 replace hB := Below.through l hB
 refine o_assign F rfl rfl (fun a F => ?_)
 refine x_end ?_
 refine x_tn ?_
 refine x_seq ?_
 refine x_seq ?_
 refine x_reg ?_
 refine o_move F rfl rfl (fun a F => ?_)
 obtain ⟨z17, c18, hR⟩ := bnd_some hR
 refine o_sub F rfl rfl rfl c18 (fun a F => ?_)
 refine o_assign F rfl rfl (fun a F => ?_)
 refine x_end ?_
 refine x_tn ?_
 obtain ⟨o68, hR, hk69⟩ := thn_some hR
 refine x_cutQ (fun a w => ∃ (s83 : Int) (s85 : Int) (s87 : List Int) (v90 : Value) (rb91 : List Nat), o68 = .nx (s83, s85, s87) ∧ Sk a 27 [(7, v90)] ∧ Below w0.heap.size w0 w ∧ I64 s83 ∧ I64 s85 ∧ Row 1 RInt 2 w0.heap.size w v90 s87 rb91 ([])) ?_ ?_
 ·
  refine x_blk ?_
  obtain ⟨fl72, hf73, hR⟩ := whl_gen hR
  refine x_loop (fun g a w => ∃ (s74 : Int) (s76 : Int) (s78 : List Int) (v81 : Value) (rb82 : List Nat), whl fl72 g (s74, s76, s78) = some o68 ∧ Sk a 27 [(0, .int .i64 x0), (2, .int .i64 s74), (7, v81), (8, .int .i64 s76)] ∧ Below w0.heap.size w0 w ∧ I64 s74 ∧ I64 s76 ∧ Row 1 RInt 2 w0.heap.size w v81 s78 rb82 ([])) N ?_ ?_
  ·
   exact ⟨x2, z17, z11, v13, rb14, hR, F.sub (sc rfl (sc rfl (sc rfl (sc rfl sn)))), hB, hx2, (ck64 c18), h15⟩
  intro g95 a w ⟨s74, s76, s78, v81, rb82, hR, F, hB, i75, i77, h80⟩
  obtain ⟨ck92, rest93, hg97, hR, hn71⟩ := whl_round hR
  rw [hf73] at hR
  refine x_seq ?_
  refine x_seq ?_
  refine x_reg ?_
  refine o_move F rfl rfl (fun a F => ?_)
  refine o_geq F rfl rfl rfl (fun a F => ?_)
  refine x_end ?_
  refine x_tn ?_
  refine x_if F rfl (fun hb98 => ?_) (fun hb98 => ?_)
  ·
   replace hR := ifT hb98 hR
   refine x_skip ?_
   refine x_tn ?_
   refine x_seq ?_
   refine x_blk ?_
   refine x_seq ?_
   refine x_reg ?_
   refine o_move F rfl rfl (fun a F => ?_)
   refine o_move F rfl rfl (fun a F => ?_)
   refine o_move F rfl rfl (fun a F => ?_)
   refine o_move F rfl rfl (fun a F => ?_)
   obtain ⟨z99, c100, hR⟩ := bnd_some hR
   refine o_rem F rfl rfl rfl c100 (fun a F => ?_)
   obtain ⟨z101, c102, hR⟩ := bnd_some hR
   refine o_rindex Tryz.underlying42 Tryz.sizeOf2 F rfl rfl rfl h80 c102 (fun a p103 b104 h105 s106 rp107 F => ?_)
   refine o_rstore Tryz.sizeOf2 F rfl rfl rfl h80 rp107 (ix_lt c102) (El.int (rm64 c100 i75 hx0)) rfl (Dj.nil _) (fun w ib109 h108 l s110 keep => ?_)
   obtain rfl : ib109 = [] := sub_nil_nil s110
   replace hB := hB.o l h80.lo hB.size
   refine x_end ?_
   refine x_tn ?_
   refine x_reg ?_
   refine o_move F rfl rfl (fun a F => ?_)
   refine o_move F rfl rfl (fun a F => ?_)
   obtain ⟨z112, c113, hR⟩ := bnd_some hR
   refine o_quo F rfl rfl rfl c113 (fun a F => ?_)
   refine o_assign F rfl rfl (fun a F => ?_)
   refine x_end ?_
   refine x_bn ?_
   refine x_tn ?_
   refine x_reg ?_
   refine o_move F rfl rfl (fun a F => ?_)
   obtain ⟨z114, c115, hR⟩ := bnd_some hR
   refine o_sub F rfl rfl rfl c115 (fun a F => ?_)
   refine o_assign F rfl rfl (fun a F => ?_)
   refine x_end ?_
   refine x_tn ?_
   replace hR := l_go hR hn71
   exact ⟨rest93, (by omega), z112, z114, (s78.set (s76).toNat z99), v81, rb82, hR, F.sub (sc rfl (sc rfl (sc rfl (sc rfl sn)))), hB, (dv64 c113), (ck64 c115), h108⟩
  replace hR := ifF hb98 hR
  refine x_exit ?_
  refine x_te ?_
  refine x_te ?_
  replace hR := l_brk hR hn71
  refine x_be ?_
  refine x_tn ?_
  exact ⟨s74, s76, s78, v81, rb82, (Option.some.inj hR).symm, F.sub (sc rfl sn), hB, i75, i77, h80⟩
 intro a w ⟨s83, s85, s87, v90, rb91, ho70, F, hB, i84, i86, h89⟩
 subst ho70
 have hR := then_nx hk69
 refine x_tn ?_
 refine x_seq ?_
 refine x_reg ?_
 refine o_move F rfl rfl (fun a F => ?_)
 refine o_assign F rfl rfl (fun a F => ?_)
 refine x_end ?_
 refine x_tn ?_
 refine x_ret ?_
 refine x_res1 F rfl (rv_t F rfl) ?_
 obtain rfl := Option.some.inj hR
 exact ⟨_, rfl, hB, v90, rb91, rfl, h89⟩

def spec_l01Power (N : Nat) (x0 : Int) (x1 : Int) : Option Int :=
 thn (σ := Int × Int) (
  whl (σ := Int × Int) (ρ := Int) (fun (s : Int × Int) =>
    match s with
    | (s26, s28) =>
    if (decide (0 < s26)) then
     bnd (ck (s28 * x0)) fun z41 =>
     bnd (ck (s26 - 1)) fun z43 =>
     some (.go (z43, z41))
    else
     some (.brk (s26, s28))) N (x1, 1)) fun (s30, s32) =>
 some s32
set_option maxHeartbeats 1000000 in
theorem spec_l01Power_c {N : Nat} {x0 : Int} {x1 : Int} (r : Int) (hR : spec_l01Power N x0 x1 = some r)  (w0 : World) (hx0 : I64 x0) (hx1 : I64 x1) : Calls Tryz.prog 68 #[.int .i64 x0, .int .i64 x1] w0 (SaysI r w0) := by
 unfold spec_l01Power at hR
 refine x_enter (L := [(0, .int .i64 x0), (1, .int .i64 x1)]) Tryz.func68 rfl rfl rfl (sc rfl (sc rfl sn)) (fun a F => ?_)
 have hB := Below.refl w0.heap.size w0
 refine x_seq ?_
 refine x_reg ?_
 refine o_assign F rfl rfl (fun a F => ?_)
 refine x_end ?_
 refine x_tn ?_
 refine x_seq ?_
 refine x_reg ?_
 refine o_assign F rfl rfl (fun a F => ?_)
 refine x_end ?_
 refine x_tn ?_
 refine x_seq ?_
 obtain ⟨o20, hR, hk21⟩ := thn_some hR
 refine x_cutQ (fun a w => ∃ (s30 : Int) (s32 : Int), o20 = .nx (s30, s32) ∧ Sk a 14 [(5, .int .i64 s32)] ∧ Below w0.heap.size w0 w ∧ I64 s30 ∧ I64 s32) ?_ ?_
 ·
  refine x_blk ?_
  obtain ⟨fl24, hf25, hR⟩ := whl_gen hR
  refine x_loop (fun g a w => ∃ (s26 : Int) (s28 : Int), whl fl24 g (s26, s28) = some o20 ∧ Sk a 14 [(0, .int .i64 x0), (1, .int .i64 s26), (5, .int .i64 s28)] ∧ Below w0.heap.size w0 w ∧ I64 s26 ∧ I64 s28) N ?_ ?_
  ·
   exact ⟨x1, 1, hR, F.sub (sc rfl (sc rfl (sc rfl sn))), hB, hx1, (show I64 (1) by decide)⟩
  intro g37 a w ⟨s26, s28, hR, F, hB, i27, i29⟩
  obtain ⟨ck34, rest35, hg39, hR, hn23⟩ := whl_round hR
  rw [hf25] at hR
  refine x_seq ?_
  refine x_seq ?_
  refine x_reg ?_
  refine o_move F rfl rfl (fun a F => ?_)
  refine o_gtr F rfl rfl rfl (fun a F => ?_)
  refine x_end ?_
  refine x_tn ?_
  refine x_if F rfl (fun hb40 => ?_) (fun hb40 => ?_)
  ·
   replace hR := ifT hb40 hR
   refine x_skip ?_
   refine x_tn ?_
   refine x_seq ?_
   refine x_blk ?_
   refine x_reg ?_
   refine o_move F rfl rfl (fun a F => ?_)
   refine o_move F rfl rfl (fun a F => ?_)
   obtain ⟨z41, c42, hR⟩ := bnd_some hR
   refine o_mul F rfl rfl rfl c42 (fun a F => ?_)
   refine o_assign F rfl rfl (fun a F => ?_)
   refine x_end ?_
   refine x_bn ?_
   refine x_tn ?_
   refine x_reg ?_
   refine o_move F rfl rfl (fun a F => ?_)
   obtain ⟨z43, c44, hR⟩ := bnd_some hR
   refine o_sub F rfl rfl rfl c44 (fun a F => ?_)
   refine o_assign F rfl rfl (fun a F => ?_)
   refine x_end ?_
   refine x_tn ?_
   replace hR := l_go hR hn23
   exact ⟨rest35, (by omega), z43, z41, hR, F.sub (sc rfl (sc rfl (sc rfl sn))), hB, (ck64 c44), (ck64 c42)⟩
  replace hR := ifF hb40 hR
  refine x_exit ?_
  refine x_te ?_
  refine x_te ?_
  replace hR := l_brk hR hn23
  refine x_be ?_
  refine x_tn ?_
  exact ⟨s26, s28, (Option.some.inj hR).symm, F.sub (sc rfl sn), hB, i27, i29⟩
 intro a w ⟨s30, s32, ho22, F, hB, i31, i33⟩
 subst ho22
 have hR := then_nx hk21
 refine x_tn ?_
 refine x_seq ?_
 refine x_reg ?_
 refine o_move F rfl rfl (fun a F => ?_)
 refine o_assign F rfl rfl (fun a F => ?_)
 refine x_end ?_
 refine x_tn ?_
 refine x_ret ?_
 refine x_res1 F rfl (rv_t F rfl) ?_
 obtain rfl := Option.some.inj hR
 exact ⟨⟨rfl, hB⟩, i33⟩

def spec_l01Digits (N : Nat) (x0 : Int) (x1 : Int) (x2 : Int) : Option (List Int) :=
 bnd (mkz (0 : Int) x1) fun z11 =>
 bnd (ck (x1 - 1)) fun z17 =>
 thn (σ := Int × Int × (List Int)) (
  whl (σ := Int × Int × (List Int)) (ρ := (List Int)) (fun (s : Int × Int × (List Int)) =>
    match s with
    | (s74, s76, s78) =>
    if (decide (0 ≤ s76)) then
     bnd (rm s74 x0) fun z99 =>
     bnd (ix s78 s76) fun z101 =>
     bnd (dv s74 x0) fun z112 =>
     bnd (ck (s76 - 1)) fun z114 =>
     some (.go (z112, z114, (s78.set (s76).toNat z99)))
    else
     some (.brk (s74, s76, s78))) N (x2, z17, z11)) fun (s83, s85, s87) =>
 some s87
set_option maxHeartbeats 1000000 in
theorem spec_l01Digits_c {N : Nat} {x0 : Int} {x1 : Int} {x2 : Int} (r : (List Int)) (hR : spec_l01Digits N x0 x1 x2 = some r)  (w0 : World) (hx0 : I64 x0) (hx1 : I64 x1) (hx2 : I64 x2) : Calls Tryz.prog 69 #[.int .i64 x0, .int .i64 x1, .int .i64 x2] w0 (Gives (fun v w' => ∃ (v1' : Value) (rb2' : List Nat), v = v1' ∧ Row 1 RInt 2 w0.heap.size w' v1' r rb2' []) w0) := by
 unfold spec_l01Digits at hR
 refine x_enter (L := [(0, .int .i64 x0), (1, .int .i64 x1), (2, .int .i64 x2)]) Tryz.func69 rfl rfl rfl (sc rfl (sc rfl (sc rfl sn))) (fun a F => ?_)
 have hB := Below.refl w0.heap.size w0
 refine x_seq ?_
 refine x_reg ?_
 refine o_assign F rfl rfl (fun a F => ?_)
 refine x_end ?_
 refine x_tn ?_
 refine x_seq ?_
 refine x_reg ?_
 refine o_move F rfl rfl (fun a F => ?_)
 obtain ⟨z11, c12, hR⟩ := bnd_some hR
 refine o_make (sz := 1) (R := RInt) (z := (.int .i64 0)) (bytes := 8) Tryz.underlying42 (by kernel_rfl) rfl (by decide) (by decide) (fun w => ⟨rfl, by decide, rfl⟩) F rfl rfl rfl c12 (fun a w v13 rb14 h15 l F => ?_)
 replace h15 := h15.base hB.size
 replace hB := Below.through l hB
 refine o_assign F rfl rfl (fun a F => ?_)
 refine x_end ?_
 refine x_tn ?_
 refine x_seq ?_
 refine x_seq ?_
 refine x_reg ?_
 refine o_move F rfl rfl (fun a F => ?_)
 obtain ⟨z17, c18, hR⟩ := bnd_some hR
 refine o_sub F rfl rfl rfl c18 (fun a F => ?_)
 refine o_assign F rfl rfl (fun a F => ?_)
 refine x_end ?_
 refine x_tn ?_
 obtain ⟨o68, hR, hk69⟩ := thn_some hR
 refine x_cutQ (fun a w => ∃ (s83 : Int) (s85 : Int) (s87 : List Int) (v90 : Value) (rb91 : List Nat), o68 = .nx (s83, s85, s87) ∧ Sk a 27 [(7, v90)] ∧ Below w0.heap.size w0 w ∧ I64 s83 ∧ I64 s85 ∧ Row 1 RInt 2 w0.heap.size w v90 s87 rb91 ([])) ?_ ?_
 ·
  refine x_blk ?_
  obtain ⟨fl72, hf73, hR⟩ := whl_gen hR
  refine x_loop (fun g a w => ∃ (s74 : Int) (s76 : Int) (s78 : List Int) (v81 : Value) (rb82 : List Nat), whl fl72 g (s74, s76, s78) = some o68 ∧ Sk a 27 [(0, .int .i64 x0), (2, .int .i64 s74), (7, v81), (8, .int .i64 s76)] ∧ Below w0.heap.size w0 w ∧ I64 s74 ∧ I64 s76 ∧ Row 1 RInt 2 w0.heap.size w v81 s78 rb82 ([])) N ?_ ?_
  ·
   exact ⟨x2, z17, z11, v13, rb14, hR, F.sub (sc rfl (sc rfl (sc rfl (sc rfl sn)))), hB, hx2, (ck64 c18), h15⟩
  intro g95 a w ⟨s74, s76, s78, v81, rb82, hR, F, hB, i75, i77, h80⟩
  obtain ⟨ck92, rest93, hg97, hR, hn71⟩ := whl_round hR
  rw [hf73] at hR
  refine x_seq ?_
  refine x_seq ?_
  refine x_reg ?_
  refine o_move F rfl rfl (fun a F => ?_)
  refine o_geq F rfl rfl rfl (fun a F => ?_)
  refine x_end ?_
  refine x_tn ?_
  refine x_if F rfl (fun hb98 => ?_) (fun hb98 => ?_)
  ·
   replace hR := ifT hb98 hR
   refine x_skip ?_
   refine x_tn ?_
   refine x_seq ?_
   refine x_blk ?_
   refine x_seq ?_
   refine x_reg ?_
   refine o_move F rfl rfl (fun a F => ?_)
   refine o_move F rfl rfl (fun a F => ?_)
   refine o_move F rfl rfl (fun a F => ?_)
   refine o_move F rfl rfl (fun a F => ?_)
   obtain ⟨z99, c100, hR⟩ := bnd_some hR
   refine o_rem F rfl rfl rfl c100 (fun a F => ?_)
   obtain ⟨z101, c102, hR⟩ := bnd_some hR
   refine o_rindex Tryz.underlying42 Tryz.sizeOf2 F rfl rfl rfl h80 c102 (fun a p103 b104 h105 s106 rp107 F => ?_)
   refine o_rstore Tryz.sizeOf2 F rfl rfl rfl h80 rp107 (ix_lt c102) (El.int (rm64 c100 i75 hx0)) rfl (Dj.nil _) (fun w ib109 h108 l s110 keep => ?_)
   obtain rfl : ib109 = [] := sub_nil_nil s110
   replace hB := hB.o l h80.lo hB.size
   refine x_end ?_
   refine x_tn ?_
   refine x_reg ?_
   refine o_move F rfl rfl (fun a F => ?_)
   refine o_move F rfl rfl (fun a F => ?_)
   obtain ⟨z112, c113, hR⟩ := bnd_some hR
   refine o_quo F rfl rfl rfl c113 (fun a F => ?_)
   refine o_assign F rfl rfl (fun a F => ?_)
   refine x_end ?_
   refine x_bn ?_
   refine x_tn ?_
   refine x_reg ?_
   refine o_move F rfl rfl (fun a F => ?_)
   obtain ⟨z114, c115, hR⟩ := bnd_some hR
   refine o_sub F rfl rfl rfl c115 (fun a F => ?_)
   refine o_assign F rfl rfl (fun a F => ?_)
   refine x_end ?_
   refine x_tn ?_
   replace hR := l_go hR hn71
   exact ⟨rest93, (by omega), z112, z114, (s78.set (s76).toNat z99), v81, rb82, hR, F.sub (sc rfl (sc rfl (sc rfl (sc rfl sn)))), hB, (dv64 c113), (ck64 c115), h108⟩
  replace hR := ifF hb98 hR
  refine x_exit ?_
  refine x_te ?_
  refine x_te ?_
  replace hR := l_brk hR hn71
  refine x_be ?_
  refine x_tn ?_
  exact ⟨s74, s76, s78, v81, rb82, (Option.some.inj hR).symm, F.sub (sc rfl sn), hB, i75, i77, h80⟩
 intro a w ⟨s83, s85, s87, v90, rb91, ho70, F, hB, i84, i86, h89⟩
 subst ho70
 have hR := then_nx hk69
 refine x_tn ?_
 refine x_seq ?_
 refine x_reg ?_
 refine o_move F rfl rfl (fun a F => ?_)
 refine o_assign F rfl rfl (fun a F => ?_)
 refine x_end ?_
 refine x_tn ?_
 refine x_ret ?_
 refine x_res1 F rfl (rv_t F rfl) ?_
 obtain rfl := Option.some.inj hR
 exact ⟨_, rfl, hB, v90, rb91, rfl, h89⟩

def spec_l00Own (x0 : List Int) : Option (List Int) :=
 bnd (ap ([]) x0) fun z15 =>
 some z15
set_option maxHeartbeats 1000000 in
theorem spec_l00Own_c {x0 : List Int} (r : (List Int)) (hR : spec_l00Own x0 = some r) {v0 : Value} {b0 : List Nat} (w0 : World) (A0 : Rd (Sl 1 RInt) w0 v0 x0 b0) : Calls Tryz.prog 154 #[v0] w0 (Gives (fun v w' => ∃ (v1' : Value) (rb2' : List Nat), v = v1' ∧ Row 1 RInt 2 w0.heap.size w' v1' r rb2' []) w0) := by
 unfold spec_l00Own at hR
 refine x_enter (L := [(0, v0)]) Tryz.func154 rfl rfl rfl (sc rfl sn) (fun a F => ?_)
 have hB := Below.refl w0.heap.size w0
 refine x_seq ?_
 refine x_reg ?_
 refine o_assign F rfl rfl (fun a F => ?_)
 refine x_end ?_
 refine x_tn ?_
 refine x_seq ?_
 refine x_reg ?_
 refine o_lit0 (R := RInt) Tryz.underlying42 Tryz.sizeOf2 F rfl (fun a w v11 rb12 h13 l F => ?_)
 replace h13 := h13.base hB.size
 replace hB := Below.through l hB
 refine o_move F rfl rfl (fun a F => ?_)
 obtain ⟨z15, c16, hR⟩ := bnd_some hR
 obtain ⟨ib20, sr21, sn22⟩ := Rd.src (by decide) (A0.go hB)
 refine o_append (sz := 1) (R := RInt) (z := (.int .i64 0)) (bytes := 8) Tryz.underlying42 (by kernel_rfl) rfl (by decide) (by decide) (by decide) F rfl rfl rfl h13 sr21 hB.size (Dj.symm (Dj.sub (Dj.new A0.m h13.ownR (Nat.le_refl _)) sn22)) c16 (fun a w v17 rb18 h19 l keep F => ?_)
 obtain rfl : ib20 = [] := src_flat sr21 (fun w f x bs h => by first | exact h.2.2 | exact h.2 | exact h.2.2.2.2 | exact h.2.2.2.2.2.2 | exact h.2.2.2.2.2.2.2.2)
 replace h19 := row_nil2 h19
 replace hB := hB.o l h13.lo hB.size
 refine o_assign F rfl rfl (fun a F => ?_)
 refine x_end ?_
 refine x_tn ?_
 refine x_ret ?_
 refine x_res1 F rfl (rv_t F rfl) ?_
 obtain rfl := Option.some.inj hR
 exact ⟨_, rfl, hB, v17, rb18, rfl, h19⟩

def spec_l03Count (x0 : Int) : Option (List Int) :=
 thn (σ := (List Int)) (
  forI (σ := (List Int)) (ρ := (List Int)) (fun (k48 : Nat) (s38 : (List Int)) =>
   bnd (ap s38 ([(k48 : Int)])) fun z60 =>
   some (.go z60)) x0.toNat 0 []) fun s43 =>
 some s43
set_option maxHeartbeats 1000000 in
theorem spec_l03Count_c {x0 : Int} (r : (List Int)) (hR : spec_l03Count x0 = some r)  (w0 : World) (hx0 : I64 x0) : Calls Tryz.prog 85 #[.int .i64 x0] w0 (Gives (fun v w' => ∃ (v1' : Value) (rb2' : List Nat), v = v1' ∧ Row 1 RInt 2 w0.heap.size w' v1' r rb2' []) w0) := by
 unfold spec_l03Count at hR
 refine x_enter (L := [(0, .int .i64 x0)]) Tryz.func85 rfl rfl rfl (sc rfl sn) (fun a F => ?_)
 have hB := Below.refl w0.heap.size w0
 refine x_seq ?_
 refine x_reg ?_
 refine o_assign F rfl rfl (fun a F => ?_)
 refine x_end ?_
 refine x_tn ?_
 refine x_seq ?_
 refine x_reg ?_
 refine o_lit0 (R := RInt) Tryz.underlying42 Tryz.sizeOf2 F rfl (fun a w v11 rb12 h13 l F => ?_)
 replace h13 := h13.base hB.size
 replace hB := Below.through l hB
 refine o_assign F rfl rfl (fun a F => ?_)
 refine x_end ?_
 refine x_tn ?_
 refine x_seq ?_
 refine x_seq ?_
 refine x_reg ?_
 refine o_assign F rfl rfl (fun a F => ?_)
 refine x_end ?_
 refine x_tn ?_
 obtain ⟨o32, hR, hk33⟩ := thn_some hR
 refine x_cutQ (fun a w => ∃ (s43 : List Int) (v46 : Value) (rb47 : List Nat), o32 = .nx s43 ∧ Sk a 16 [(3, v46)] ∧ Below w0.heap.size w0 w ∧ Row 1 RInt 2 w0.heap.size w v46 s43 rb47 ([])) ?_ ?_
 ·
  refine x_blk ?_
  obtain ⟨fl36, hf37, hR⟩ := forI_gen hR
  refine x_loop (fun g a w => ∃ (k48 : Nat) (s38 : List Int) (v41 : Value) (rb42 : List Nat), k48 + g = x0.toNat ∧ forI fl36 g k48 s38 = some o32 ∧ Sk a 16 [(4, .int .i64 (k48 : Int)), (0, .int .i64 x0), (3, v41)] ∧ Below w0.heap.size w0 w ∧ Row 1 RInt 2 w0.heap.size w v41 s38 rb42 ([])) x0.toNat ?_ ?_
  ·
   exact ⟨0, [], v11, rb12, (Nat.zero_add _), hR, F.sub (sc rfl (sc rfl (sc rfl sn))), hB, h13⟩
  intro g51 a w ⟨k48, s38, v41, rb42, hd52, hR, F, hB, h40⟩
  cases g51 with
  | zero =>
   replace hR := forI_zero hR
   have hlk48 := dec_noI hd52
   refine x_seq ?_
   refine x_seq ?_
   refine x_reg ?_
   refine o_move F rfl rfl (fun a F => ?_)
   refine o_move F rfl rfl (fun a F => ?_)
   refine o_lss F rfl rfl rfl (fun a F => ?_)
   refine x_end ?_
   refine x_tn ?_
   refine x_ifF F rfl hlk48 ?_
   refine x_exit ?_
   refine x_te ?_
   refine x_te ?_
   refine x_be ?_
   refine x_tn ?_
   exact ⟨s38, v41, rb42, (Option.some.inj hR).symm, F.sub (sc rfl sn), hB, h40⟩
  | succ g51 =>
   obtain ⟨ck48, hR, hn35⟩ := forI_succ hR
   rw [hf37] at hR
   have hlk48 := dec_yesI hd52
   refine x_seq ?_
   refine x_seq ?_
   refine x_reg ?_
   refine o_move F rfl rfl (fun a F => ?_)
   refine o_move F rfl rfl (fun a F => ?_)
   refine o_lss F rfl rfl rfl (fun a F => ?_)
   refine x_end ?_
   refine x_tn ?_
   refine x_ifT F rfl hlk48 ?_
   refine x_skip ?_
   refine x_tn ?_
   refine x_seq ?_
   have ikk48 := k64I hd52 hx0
   have ink48 := inc64I hd52 hx0
   refine x_blk ?_
   refine x_reg ?_
   refine o_move F rfl rfl (fun a F => ?_)
   refine o_move F rfl rfl (fun a F => ?_)
   refine o_lit1 (R := RInt) (y := (k48 : Int)) Tryz.underlying42 Tryz.sizeOf2 Tryz.zeroValue2 rfl (by decide) (by decide) F rfl rfl (El.int ikk48) (fun a w v54 rb55 h56 l F => ?_)
   have d58 := Dj.new h40.rd.m h56.ownR (Nat.le_refl _)
   have d59 := Dj.app' (Dj.new h40.memR h56.ownR (Nat.le_refl _)).symm (Dj.nil' _)
   replace h56 := h56.base hB.size
   replace hB := Below.through l hB
   replace h40 := h40.go l
   obtain ⟨z60, c61, hR⟩ := bnd_some hR
   refine o_append (sz := 1) (R := RInt) (z := (.int .i64 0)) (bytes := 8) Tryz.underlying42 (by kernel_rfl) rfl (by decide) (by decide) (by decide) F rfl rfl rfl h40 h56.src hB.size (Dj.nil _) c61 (fun a w v62 rb63 h64 l keep F => ?_)
   replace h64 := row_nil2 h64
   replace hB := hB.o l h40.lo hB.size
   refine o_assign F rfl rfl (fun a F => ?_)
   refine x_end ?_
   refine x_bn ?_
   refine x_tn ?_
   refine x_reg ?_
   refine o_move F rfl rfl (fun a F => ?_)
   refine o_inc F rfl rfl rfl ink48 (fun a F => ?_)
   refine o_assign F rfl rfl (fun a F => ?_)
   refine x_end ?_
   refine x_tn ?_
   replace hR := l_go hR hn35
   exact ⟨_, Nat.lt_succ_self _, k48 + 1, z60, v62, rb63, (by omega), hR, F.sub (sc rfl (sc rfl (sc rfl sn))), hB, h64⟩
 intro a w ⟨s43, v46, rb47, ho34, F, hB, h45⟩
 subst ho34
 have hR := then_nx hk33
 refine x_tn ?_
 refine x_seq ?_
 refine x_reg ?_
 refine o_move F rfl rfl (fun a F => ?_)
 refine o_assign F rfl rfl (fun a F => ?_)
 refine x_end ?_
 refine x_tn ?_
 refine x_ret ?_
 refine x_res1 F rfl (rv_t F rfl) ?_
 obtain rfl := Option.some.inj hR
 exact ⟨_, rfl, hB, v46, rb47, rfl, h45⟩

def spec_l01Template (x0 : Template) : Option Bool :=
 thn (σ := Unit) (
  forL (σ := Unit) (ρ := Bool) (fun (k55 : Nat) (x57 : Rel) (s : Unit) =>
    match s with
    | _ =>
    bnd (spec_l01Ok x0.size x57) fun z87 =>
    if (!z87) then
     some (.ret false)
    else
     some (.go ())) x0.rels 0 ()) fun _ =>
 thn (σ := Bool) (
  bnd (spec_l01Size x0.size) fun z125 =>
  if z125 then  some (.nx (decide ((x0.rels.length : Int) ≤ 6))) else  some (.nx false)) fun s119 =>
 some s119
set_option maxHeartbeats 1000000 in
theorem spec_l01Template_c {x0 : Template} (r : Bool) (hR : spec_l01Template x0 = some r) {v0 : Value} {b0 : List Nat} (w0 : World) (A0 : Rd (Pt 2 RTemplate) w0 v0 x0 b0) : Calls Tryz.prog 148 #[v0] w0 (Says (.bool r) w0) := by
 unfold spec_l01Template at hR
 refine x_enter (L := [(0, v0)]) Tryz.func148 rfl rfl rfl (sc rfl sn) (fun a F => ?_)
 have hB := Below.refl w0.heap.size w0
 refine x_seq ?_
 refine x_reg ?_
 refine o_assign F rfl rfl (fun a F => ?_)
 refine x_end ?_
 refine x_tn ?_
 refine x_seq ?_
 refine x_seq ?_
 refine x_reg ?_
 refine o_assign F rfl rfl (fun a F => ?_)
 refine x_end ?_
 refine x_tn ?_
 obtain ⟨o49, hR, hk50⟩ := thn_some hR
 refine x_cutQ (fun a w => o49 = .nx () ∧ Sk a 38 [(0, v0)] ∧ Below w0.heap.size w0 w) ?_ ?_
 ·
  refine x_blk ?_
  obtain ⟨fl53, hf54, hR⟩ := forL_gen hR
  refine x_loop (fun g a w => ∃ (k55 : Nat) (rest56 : List Rel), (k55 ≤ x0.rels.length ∧ x0.rels.drop k55 = rest56) ∧ rest56.length = g ∧ forL fl53 rest56 k55 () = some o49 ∧ Sk a 38 [(3, .int .i64 (k55 : Int)), (0, v0)] ∧ Below w0.heap.size w0 w) x0.rels.length ?_ ?_
  ·
   exact ⟨0, x0.rels, ⟨Nat.zero_le _, rfl⟩, rfl, hR, F.sub (sc rfl (sc rfl sn)), hB⟩
  intro g58 a w ⟨k55, rest56, hd59, hg60, hR, F, hB⟩
  cases rest56 with
  | nil =>
   replace hR := forL_nil hR
   have hkk55 := drop_nil hd59.1 hd59.2
   have hlk55 := dec_no hkk55
   refine x_seq ?_
   refine x_seq ?_
   refine x_reg ?_
   refine o_move F rfl rfl (fun a F => ?_)
   refine o_move F rfl rfl (fun a F => ?_)
   refine o_nilCheckP F rfl rfl (A0.go hB) (fun a F => ?_)
   refine o_field (s' := 1) fa33_1 F rfl rfl (A0.go hB) RTemplate.f1 (fun a p90 b91 h92 s93 F => ?_)
   refine o_loadS Tryz.isAgg31 F rfl rfl h92 (fun a v94 b95 h96 s97 F => ?_)
   refine o_len Tryz.underlying31 F rfl rfl h96 (fun a F => ?_)
   have i98 := (h96).r.len64
   refine o_lss F rfl rfl rfl (fun a F => ?_)
   refine x_end ?_
   refine x_tn ?_
   refine x_ifF F rfl hlk55 ?_
   refine x_exit ?_
   refine x_te ?_
   refine x_te ?_
   refine x_be ?_
   refine x_tn ?_
   exact ⟨(Option.some.inj hR).symm, F.sub (sc rfl sn), hB⟩
  | cons x57 rest56 =>
   subst hg60
   replace hd59 := drop_cons hd59.2
   have hxk55 := ix_nat hd59.2.1
   obtain ⟨ck55, hR, hn52⟩ := forL_cons hR
   rw [hf54] at hR
   have hlk55 := dec_yes hd59.1
   refine x_seq ?_
   refine x_seq ?_
   refine x_reg ?_
   refine o_move F rfl rfl (fun a F => ?_)
   refine o_move F rfl rfl (fun a F => ?_)
   refine o_nilCheckP F rfl rfl (A0.go hB) (fun a F => ?_)
   refine o_field (s' := 1) fa33_1 F rfl rfl (A0.go hB) RTemplate.f1 (fun a p61 b62 h63 s64 F => ?_)
   refine o_loadS Tryz.isAgg31 F rfl rfl h63 (fun a v65 b66 h67 s68 F => ?_)
   refine o_len Tryz.underlying31 F rfl rfl h67 (fun a F => ?_)
   have i69 := (h67).r.len64
   refine o_lss F rfl rfl rfl (fun a F => ?_)
   refine x_end ?_
   refine x_tn ?_
   refine x_ifT F rfl hlk55 ?_
   refine x_skip ?_
   refine x_tn ?_
   refine x_seq ?_
   have ikk55 := k64 (Nat.le_of_lt hd59.1) i69
   have ink55 := inc64 hd59.1 i69
   refine x_blk ?_
   refine x_seq ?_
   refine x_draw (by kernel_rfl) (by kernel_rfl) ?_
   refine q_val F rfl (fun w l => r_move F rfl) (fun a F => ?_)
   refine q_val F rfl (fun w l => r_nilCheckP F rfl (A0.go hB)) (fun a F => ?_)
   refine q_field (s' := 1) fa33_0 F rfl rfl (A0.go hB) RTemplate.f0 (fun a p70 b71 h72 s73 F => ?_)
   have i74 := (h72).i64
   refine q_val F rfl (fun w l => r_loadI Tryz.isAgg2 F rfl ((h72).go l)) (fun a F => ?_)
   refine q_val F rfl (fun w l => r_move F rfl) (fun a F => ?_)
   refine q_val F rfl (fun w l => r_nilCheckP F rfl (A0.go hB)) (fun a F => ?_)
   refine q_field (s' := 1) fa33_1 F rfl rfl (A0.go hB) RTemplate.f1 (fun a p75 b76 h77 s78 F => ?_)
   refine q_loadS (fun _ l => l) Tryz.isAgg31 F rfl rfl h77 (fun a v79 b80 h81 s82 F => ?_)
   refine q_val F rfl (fun w l => r_move F rfl) (fun a F => ?_)
   refine q_index Tryz.underlying31 Tryz.sizeOf101 F rfl rfl rfl h81 hxk55 (fun a p83 b84 h85 s86 F => ?_)
   obtain ⟨z87, c88, hR⟩ := bnd_some hR
   refine q_says F rfl Tryz.call241 rfl (fun w w' h l => l.through h) (fun w l => spec_l01Ok_c z87 c88 w i74 (h85.go l)) (fun a F => ?_)
   refine q_val F rfl (fun w l => r_not F rfl) (fun a F => ?_)
   refine q_end (fun w l => ?_)
   replace hB := Below.through l hB
   refine x_tn ?_
   refine x_if F rfl (fun hb89 => ?_) (fun hb89 => ?_)
   ·
    replace hR := ifT hb89 hR
    refine x_seq ?_
    refine x_reg ?_
    refine o_assign F rfl rfl (fun a F => ?_)
    refine x_end ?_
    refine x_tn ?_
    refine x_ret ?_
    refine x_br ?_
    refine x_tr ?_
    refine x_tr ?_
    replace hR := l_ret hR hn52
    refine x_br ?_
    refine x_tr ?_
    replace hR := j_ret hR hk50
    refine x_tr ?_
    refine x_res1 F rfl (rv_t F rfl) ?_
    obtain rfl := Option.some.inj hR
    exact ⟨rfl, hB⟩
   replace hR := ifF hb89 hR
   refine x_skip ?_
   refine x_bn ?_
   refine x_tn ?_
   refine x_reg ?_
   refine o_move F rfl rfl (fun a F => ?_)
   refine o_inc F rfl rfl rfl ink55 (fun a F => ?_)
   refine o_assign F rfl rfl (fun a F => ?_)
   refine x_end ?_
   refine x_tn ?_
   replace hR := l_go hR hn52
   exact ⟨_, Nat.lt_succ_self _, k55 + 1, rest56, ⟨hd59.1, hd59.2.2⟩, rfl, hR, F.sub (sc rfl (sc rfl sn)), hB⟩
 intro a w ⟨ho51, F, hB⟩
 subst ho51
 have hR := then_nx hk50
 refine x_tn ?_
 refine x_seq ?_
 obtain ⟨o116, hR, hk117⟩ := thn_some hR
 refine x_cutQ (fun a w => ∃ (s119 : Bool), o116 = .nx s119 ∧ Sk a 38 [(2, .bool s119)] ∧ Below w0.heap.size w0 w) ?_ ?_
 ·
  refine x_reg ?_
  refine o_move F rfl rfl (fun a F => ?_)
  refine o_nilCheckP F rfl rfl (A0.go hB) (fun a F => ?_)
  refine o_field (s' := 1) fa33_0 F rfl rfl (A0.go hB) RTemplate.f0 (fun a p120 b121 h122 s123 F => ?_)
  have i124 := (h122).i64
  refine o_loadI Tryz.isAgg2 F rfl rfl h122 (fun a F => ?_)
  obtain ⟨z125, c126, hR⟩ := bnd_some hR
  refine o_says F rfl Tryz.call242 rfl (spec_l01Size_c z125 c126 _ i124) (fun a w l F => ?_)
  replace hB := Below.through l hB
  refine o_move F rfl rfl (fun a F => ?_)
  rcases bcases z125 with hb127 | hb127
  ·
   replace hR := ifT hb127 hR
   have F := F.eq (t := 30) rfl (congrArg Value.bool hb127)
   refine o_move F rfl rfl (fun a F => ?_)
   refine o_nilCheckP F rfl rfl (A0.go hB) (fun a F => ?_)
   refine o_field (s' := 1) fa33_1 F rfl rfl (A0.go hB) RTemplate.f1 (fun a p128 b129 h130 s131 F => ?_)
   refine o_loadS Tryz.isAgg31 F rfl rfl h130 (fun a v132 b133 h134 s135 F => ?_)
   refine o_len Tryz.underlying31 F rfl rfl h134 (fun a F => ?_)
   have i136 := (h134).r.len64
   refine o_leq F rfl rfl rfl (fun a F => ?_)
   refine o_pickt F rfl rfl rfl (fun a F => ?_)
   refine o_assign F rfl rfl (fun a F => ?_)
   refine x_end ?_
   refine x_tn ?_
   exact ⟨(decide ((x0.rels.length : Int) ≤ 6)), (Option.some.inj hR).symm, F.sub (sc rfl sn), hB⟩
  replace hR := ifF hb127 hR
  have F := F.eq (t := 30) rfl (congrArg Value.bool hb127)
  refine o_no F rfl rfl (fun a F => ?_)
  refine o_no F rfl rfl (fun a F => ?_)
  refine o_no F rfl rfl (fun a F => ?_)
  refine o_no F rfl rfl (fun a F => ?_)
  refine o_no F rfl rfl (fun a F => ?_)
  refine o_no F rfl rfl (fun a F => ?_)
  refine o_pickf F rfl rfl rfl (fun a F => ?_)
  refine o_assign F rfl rfl (fun a F => ?_)
  refine x_end ?_
  refine x_tn ?_
  exact ⟨false, (Option.some.inj hR).symm, F.sub (sc rfl sn), hB⟩
 intro a w ⟨s119, ho118, F, hB⟩
 subst ho118
 have hR := then_nx hk117
 refine x_tn ?_
 refine x_ret ?_
 refine x_res1 F rfl (rv_t F rfl) ?_
 obtain rfl := Option.some.inj hR
 exact ⟨rfl, hB⟩

def slices_IndexFunc_s_int64_int64 (x0 : List Int) (x1 : Int → Option Bool) : Option Int :=
 thn (σ := Unit) (
  forL (σ := Unit) (ρ := Int) (fun (k26 : Nat) (x28 : Int) (s : Unit) =>
    match s with
    | _ =>
    bnd (x1 x28) fun z37 =>
    if z37 then
     some (.ret ((k26 : Int)))
    else
     some (.go ())) x0 0 ()) fun _ =>
 some ((-1))
set_option maxHeartbeats 1000000 in
theorem slices_IndexFunc_s_int64_int64_c {x0 : List Int} {x1 : Int → Option Bool} (r : Int) (hR : slices_IndexFunc_s_int64_int64 x0 x1 = some r) {v0 : Value} {b0 : List Nat} {g1 : FuncId} {lb1 : List Value} (w0 : World) (A0 : Rd (Sl 1 RInt) w0 v0 x0 b0) (hg1 : ∀ args w, (callFunc g1 args).run Tryz.prog w = .ok (.enter g1 args) w) (hp1 : ∀ (a0 : Int) (r : Bool), x1 a0 = some r → ∀ W, Below w0.heap.size w0 W → I64 a0 → Calls Tryz.prog g1 ([.int .i64 a0] ++ lb1 : List Value).toArray W (Says (.bool r) W)) : Calls Tryz.prog 213 #[v0, .func (.func g1) #[] lb1.toArray] w0 (SaysI r w0) := by
 unfold slices_IndexFunc_s_int64_int64 at hR
 refine x_enter (L := [(0, v0), (1, .func (.func g1) #[] lb1.toArray)]) Tryz.func213 rfl rfl rfl (sc rfl (sc rfl sn)) (fun a F => ?_)
 have hB := Below.refl w0.heap.size w0
 refine x_seq ?_
 refine x_reg ?_
 refine o_assign F rfl rfl (fun a F => ?_)
 refine x_end ?_
 refine x_tn ?_
 refine x_seq ?_
 refine x_seq ?_
 refine x_reg ?_
 refine o_move F rfl rfl (fun a F => ?_)
 refine o_len Tryz.underlying42 F rfl rfl (A0.go hB) (fun a F => ?_)
 have i11 := ((A0.go hB)).r.len64
 refine o_move F rfl rfl (fun a F => ?_)
 refine x_end ?_
 refine x_tn ?_
 obtain ⟨o20, hR, hk21⟩ := thn_some hR
 refine x_cutQ (fun a w => o20 = .nx () ∧ Sk a 19 [] ∧ Below w0.heap.size w0 w) ?_ ?_
 ·
  refine x_blk ?_
  obtain ⟨fl24, hf25, hR⟩ := forL_gen hR
  refine x_loop (fun g a w => ∃ (k26 : Nat) (rest27 : List Int), (k26 ≤ x0.length ∧ x0.drop k26 = rest27) ∧ rest27.length = g ∧ forL fl24 rest27 k26 () = some o20 ∧ Sk a 19 [(8, .int .i64 (k26 : Int)), (0, v0), (1, .func (.func g1) #[] lb1.toArray), (7, .int .i64 (x0.length : Int))] ∧ Below w0.heap.size w0 w) x0.length ?_ ?_
  ·
   exact ⟨0, x0, ⟨Nat.zero_le _, rfl⟩, rfl, hR, F.sub (sc rfl (sc rfl (sc rfl (sc rfl sn)))), hB⟩
  intro g29 a w ⟨k26, rest27, hd30, hg31, hR, F, hB⟩
  cases rest27 with
  | nil =>
   replace hR := forL_nil hR
   have hkk26 := drop_nil hd30.1 hd30.2
   have hlk26 := dec_no hkk26
   refine x_seq ?_
   refine x_reg ?_
   refine o_lss F rfl rfl rfl (fun a F => ?_)
   refine x_end ?_
   refine x_tn ?_
   refine x_seq ?_
   refine x_ifF F rfl hlk26 ?_
   refine x_exit ?_
   refine x_te ?_
   refine x_te ?_
   refine x_be ?_
   refine x_tn ?_
   exact ⟨(Option.some.inj hR).symm, F.sub sn, hB⟩
  | cons x28 rest27 =>
   subst hg31
   replace hd30 := drop_cons hd30.2
   have hxk26 := ix_nat hd30.2.1
   obtain ⟨ck26, hR, hn23⟩ := forL_cons hR
   rw [hf25] at hR
   have hlk26 := dec_yes hd30.1
   refine x_seq ?_
   refine x_reg ?_
   refine o_lss F rfl rfl rfl (fun a F => ?_)
   refine x_end ?_
   refine x_tn ?_
   refine x_seq ?_
   refine x_ifT F rfl hlk26 ?_
   refine x_skip ?_
   refine x_tn ?_
   refine x_seq ?_
   have ikk26 := k64 (Nat.le_of_lt hd30.1) i11
   have ink26 := inc64 hd30.1 i11
   refine x_blk ?_
   refine x_seq ?_
   refine x_reg ?_
   refine o_move F rfl rfl (fun a F => ?_)
   refine o_assign F rfl rfl (fun a F => ?_)
   refine x_end ?_
   refine x_tn ?_
   refine x_seq ?_
   refine x_reg ?_
   refine o_move F rfl rfl (fun a F => ?_)
   refine o_move F rfl rfl (fun a F => ?_)
   refine o_move F rfl rfl (fun a F => ?_)
   refine o_index Tryz.underlying42 Tryz.sizeOf2 F rfl rfl rfl (A0.go hB) hxk26 (fun a p32 b33 h34 s35 F => ?_)
   have i36 := (h34).i64
   refine o_loadI Tryz.isAgg2 F rfl rfl h34 (fun a F => ?_)
   obtain ⟨z37, c38, hR⟩ := bnd_some hR
   refine o_saysV F rfl rfl hg1 rfl (hp1 _ z37 c38 _ hB i36) (fun a w l F => ?_)
   replace hB := Below.through l hB
   refine x_end ?_
   refine x_tn ?_
   refine x_if F rfl (fun hb39 => ?_) (fun hb39 => ?_)
   ·
    replace hR := ifT hb39 hR
    refine x_seq ?_
    refine x_reg ?_
    refine o_move F rfl rfl (fun a F => ?_)
    refine o_assign F rfl rfl (fun a F => ?_)
    refine x_end ?_
    refine x_tn ?_
    refine x_ret ?_
    refine x_br ?_
    refine x_tr ?_
    refine x_tr ?_
    replace hR := l_ret hR hn23
    refine x_br ?_
    refine x_tr ?_
    replace hR := j_ret hR hk21
    refine x_tr ?_
    refine x_res1 F rfl (rv_t F rfl) ?_
    obtain rfl := Option.some.inj hR
    exact ⟨⟨rfl, hB⟩, ikk26⟩
   replace hR := ifF hb39 hR
   refine x_skip ?_
   refine x_bn ?_
   refine x_tn ?_
   refine x_reg ?_
   refine o_inc F rfl rfl rfl ink26 (fun a F => ?_)
   refine o_move F rfl rfl (fun a F => ?_)
   refine x_end ?_
   refine x_tn ?_
   replace hR := l_go hR hn23
   exact ⟨_, Nat.lt_succ_self _, k26 + 1, rest27, ⟨hd30.1, hd30.2.2⟩, rfl, hR, F.sub (sc rfl (sc rfl (sc rfl (sc rfl sn)))), hB⟩
 intro a w ⟨ho22, F, hB⟩
 subst ho22
 have hR := then_nx hk21
 refine x_tn ?_
 refine x_seq ?_
 refine x_reg ?_
 refine o_assign F rfl rfl (fun a F => ?_)
 refine x_end ?_
 refine x_tn ?_
 refine x_ret ?_
 refine x_res1 F rfl (rv_t F rfl) ?_
 obtain rfl := Option.some.inj hR
 exact ⟨⟨rfl, hB⟩, (show I64 (-1) by decide)⟩

def slices_ContainsFunc_s_int64_int64 (x0 : List Int) (x1 : Int → Option Bool) : Option Bool :=
 bnd (slices_IndexFunc_s_int64_int64 x0 x1) fun z11 =>
 some ((decide (0 ≤ z11)))
set_option maxHeartbeats 1000000 in
theorem slices_ContainsFunc_s_int64_int64_c {x0 : List Int} {x1 : Int → Option Bool} (r : Bool) (hR : slices_ContainsFunc_s_int64_int64 x0 x1 = some r) {v0 : Value} {b0 : List Nat} {g1 : FuncId} {lb1 : List Value} (w0 : World) (A0 : Rd (Sl 1 RInt) w0 v0 x0 b0) (hg1 : ∀ args w, (callFunc g1 args).run Tryz.prog w = .ok (.enter g1 args) w) (hp1 : ∀ (a0 : Int) (r : Bool), x1 a0 = some r → ∀ W, Below w0.heap.size w0 W → I64 a0 → Calls Tryz.prog g1 ([.int .i64 a0] ++ lb1 : List Value).toArray W (Says (.bool r) W)) : Calls Tryz.prog 194 #[v0, .func (.func g1) #[] lb1.toArray] w0 (Says (.bool r) w0) := by
 unfold slices_ContainsFunc_s_int64_int64 at hR
 refine x_enter (L := [(0, v0), (1, .func (.func g1) #[] lb1.toArray)]) Tryz.func194 rfl rfl rfl (sc rfl (sc rfl sn)) (fun a F => ?_)
 have hB := Below.refl w0.heap.size w0
 refine x_seq ?_
 refine x_reg ?_
 refine o_assign F rfl rfl (fun a F => ?_)
 refine x_end ?_
 refine x_tn ?_
 refine x_seq ?_
 refine x_reg ?_
 refine o_move F rfl rfl (fun a F => ?_)
 refine o_move F rfl rfl (fun a F => ?_)
 obtain ⟨z11, c12, hR⟩ := bnd_some hR
 refine o_saysI F rfl Tryz.call213 rfl (slices_IndexFunc_s_int64_int64_c z11 c12 _ (A0.go hB) hg1 (fun a0 r h W l => hp1 a0 r h W (hB.through' l))) (fun a w l iz11 F => ?_)
 replace hB := Below.through l hB
 refine o_geq F rfl rfl rfl (fun a F => ?_)
 refine o_assign F rfl rfl (fun a F => ?_)
 refine x_end ?_
 refine x_tn ?_
 refine x_ret ?_
 refine x_res1 F rfl (rv_t F rfl) ?_
 obtain rfl := Option.some.inj hR
 exact ⟨rfl, hB⟩

def impl_areValues (x0 : Int) (x1 : List Int) (x2 : Int) : Option Bool :=
 thn (σ := Bool) (
  if ((x1.length : Int) == x2) then  bnd (slices_ContainsFunc_s_int64_int64 x1 (fun a0 => impl_areValues_1 a0 x0)) fun z23 =>
   some (.nx (!z23)) else  some (.nx false)) fun s20 =>
 some s20
set_option maxHeartbeats 1000000 in
theorem impl_areValues_c {x0 : Int} {x1 : List Int} {x2 : Int} (r : Bool) (hR : impl_areValues x0 x1 x2 = some r) {v1 : Value} {b1 : List Nat} (w0 : World) (hx0 : I64 x0) (A1 : Rd (Sl 1 RInt) w0 v1 x1 b1) (hx2 : I64 x2) : Calls Tryz.prog 118 #[.int .i64 x0, v1, .int .i64 x2] w0 (Says (.bool r) w0) := by
 unfold impl_areValues at hR
 refine x_enter (L := [(0, .int .i64 x0), (1, v1), (2, .int .i64 x2)]) Tryz.func118 rfl rfl rfl (sc rfl (sc rfl (sc rfl sn))) (fun a F => ?_)
 have hB := Below.refl w0.heap.size w0
 refine x_seq ?_
 refine x_reg ?_
 refine o_box F rfl rfl rfl (fun a w b11 K12 l BK12 F => ?_)
 have CK12 := Nat.le_trans hB.size BK12
 replace hB := Below.through l hB
 refine o_assign F rfl rfl (fun a F => ?_)
 refine x_end ?_
 refine x_tn ?_
 refine x_seq ?_
 obtain ⟨o17, hR, hk18⟩ := thn_some hR
 refine x_cutQ (fun a w => ∃ (s20 : Bool), o17 = .nx s20 ∧ Sk a 17 [(6, .bool s20)] ∧ Below w0.heap.size w0 w) ?_ ?_
 ·
  refine x_reg ?_
  refine o_move F rfl rfl (fun a F => ?_)
  refine o_len Tryz.underlying42 F rfl rfl (A1.go hB) (fun a F => ?_)
  have i21 := ((A1.go hB)).r.len64
  refine o_move F rfl rfl (fun a F => ?_)
  refine o_eql F rfl rfl rfl (fun a F => ?_)
  refine o_move F rfl rfl (fun a F => ?_)
  rcases bcases ((x1.length : Int) == x2) with hb22 | hb22
  ·
   replace hR := ifT hb22 hR
   have F := F.eq (t := 11) rfl (congrArg Value.bool hb22)
   refine o_move F rfl rfl (fun a F => ?_)
   refine o_func F rfl rfl rfl (fun a F => ?_)
   obtain ⟨z23, c24, hR⟩ := bnd_some hR
   refine o_says F rfl Tryz.call194 rfl (slices_ContainsFunc_s_int64_int64_c z23 c24 _ (A1.go hB) Tryz.call195 (fun a0 r h W l f0 => impl_areValues_1_c r h W f0 ((cell1I K12 hx0).go l))) (fun a w l F => ?_)
   replace hB := Below.through l hB
   refine o_not F rfl rfl (fun a F => ?_)
   refine o_pickt F rfl rfl rfl (fun a F => ?_)
   refine o_assign F rfl rfl (fun a F => ?_)
   refine x_end ?_
   refine x_tn ?_
   exact ⟨(!z23), (Option.some.inj hR).symm, F.sub (sc rfl sn), hB⟩
  replace hR := ifF hb22 hR
  have F := F.eq (t := 11) rfl (congrArg Value.bool hb22)
  refine o_no F rfl rfl (fun a F => ?_)
  refine o_no F rfl rfl (fun a F => ?_)
  refine o_no F rfl rfl (fun a F => ?_)
  refine o_no F rfl rfl (fun a F => ?_)
  refine o_pickf F rfl rfl rfl (fun a F => ?_)
  refine o_assign F rfl rfl (fun a F => ?_)
  refine x_end ?_
  refine x_tn ?_
  exact ⟨false, (Option.some.inj hR).symm, F.sub (sc rfl sn), hB⟩
 intro a w ⟨s20, ho19, F, hB⟩
 subst ho19
 have hR := then_nx hk18
 refine x_tn ?_
 refine x_ret ?_
 refine x_res1 F rfl (rv_t F rfl) ?_
 obtain rfl := Option.some.inj hR
 exact ⟨rfl, hB⟩

def cmp_isNaN_int64 (x0 : Int) : Option Bool :=
 some ((x0 != x0))
set_option maxHeartbeats 1000000 in
theorem cmp_isNaN_int64_c {x0 : Int} (r : Bool) (hR : cmp_isNaN_int64 x0 = some r)  (w0 : World) (hx0 : I64 x0) : Calls Tryz.prog 321 #[.int .i64 x0] w0 (Says (.bool r) w0) := by
 unfold cmp_isNaN_int64 at hR
 refine x_enter (L := [(0, .int .i64 x0)]) Tryz.func321 rfl rfl rfl (sc rfl sn) (fun a F => ?_)
 have hB := Below.refl w0.heap.size w0
 refine x_seq ?_
 refine x_reg ?_
 refine o_assign F rfl rfl (fun a F => ?_)
 refine x_end ?_
 refine x_tn ?_
 refine x_seq ?_
 refine x_reg ?_
 refine o_move F rfl rfl (fun a F => ?_)
 refine o_move F rfl rfl (fun a F => ?_)
 refine o_neq F rfl rfl rfl (fun a F => ?_)
 refine o_assign F rfl rfl (fun a F => ?_)
 refine x_end ?_
 refine x_tn ?_
 refine x_ret ?_
 refine x_res1 F rfl (rv_t F rfl) ?_
 obtain rfl := Option.some.inj hR
 exact ⟨rfl, hB⟩

def cmp_Compare_int64 (x0 : Int) (x1 : Int) : Option Int :=
 bnd (cmp_isNaN_int64 x0) fun z11 =>
 bnd (cmp_isNaN_int64 x1) fun z13 =>
 if z11 then
  if z13 then
   some 0
  else
   some ((-1))
 else
  if z13 then
   some 1
  else
   if (decide (x0 < x1)) then
    some ((-1))
   else
    if (decide (x1 < x0)) then
     some 1
    else
     some 0
set_option maxHeartbeats 1000000 in
theorem cmp_Compare_int64_c {x0 : Int} {x1 : Int} (r : Int) (hR : cmp_Compare_int64 x0 x1 = some r)  (w0 : World) (hx0 : I64 x0) (hx1 : I64 x1) : Calls Tryz.prog 282 #[.int .i64 x0, .int .i64 x1] w0 (SaysI r w0) := by
 unfold cmp_Compare_int64 at hR
 refine x_enter (L := [(0, .int .i64 x0), (1, .int .i64 x1)]) Tryz.func282 rfl rfl rfl (sc rfl (sc rfl sn)) (fun a F => ?_)
 have hB := Below.refl w0.heap.size w0
 refine x_seq ?_
 refine x_reg ?_
 refine o_assign F rfl rfl (fun a F => ?_)
 refine x_end ?_
 refine x_tn ?_
 refine x_seq ?_
 refine x_reg ?_
 refine o_move F rfl rfl (fun a F => ?_)
 obtain ⟨z11, c12, hR⟩ := bnd_some hR
 refine o_says F rfl Tryz.call321 rfl (cmp_isNaN_int64_c z11 c12 _ hx0) (fun a w l F => ?_)
 replace hB := Below.through l hB
 refine o_assign F rfl rfl (fun a F => ?_)
 refine x_end ?_
 refine x_tn ?_
 refine x_seq ?_
 refine x_reg ?_
 refine o_move F rfl rfl (fun a F => ?_)
 obtain ⟨z13, c14, hR⟩ := bnd_some hR
 refine o_says F rfl Tryz.call321 rfl (cmp_isNaN_int64_c z13 c14 _ hx1) (fun a w l F => ?_)
 replace hB := Below.through l hB
 refine o_assign F rfl rfl (fun a F => ?_)
 refine x_end ?_
 refine x_tn ?_
 refine x_seq ?_
 refine x_seq ?_
 refine x_reg ?_
 refine o_move F rfl rfl (fun a F => ?_)
 refine x_end ?_
 refine x_tn ?_
 refine x_if F rfl (fun hb15 => ?_) (fun hb15 => ?_)
 ·
  replace hR := ifT hb15 hR
  refine x_seq ?_
  refine x_seq ?_
  refine x_reg ?_
  refine o_move F rfl rfl (fun a F => ?_)
  refine x_end ?_
  refine x_tn ?_
  refine x_if F rfl (fun hb16 => ?_) (fun hb16 => ?_)
  ·
   replace hR := ifT hb16 hR
   refine x_seq ?_
   refine x_reg ?_
   refine o_assign F rfl rfl (fun a F => ?_)
   refine x_end ?_
   refine x_tn ?_
   refine x_ret ?_
   refine x_tr ?_
   refine x_tr ?_
   refine x_res1 F rfl (rv_t F rfl) ?_
   obtain rfl := Option.some.inj hR
   exact ⟨⟨rfl, hB⟩, (show I64 (0) by decide)⟩
  replace hR := ifF hb16 hR
  refine x_skip ?_
  refine x_tn ?_
  refine x_seq ?_
  refine x_reg ?_
  refine o_assign F rfl rfl (fun a F => ?_)
  refine x_end ?_
  refine x_tn ?_
  refine x_ret ?_
  refine x_tr ?_
  refine x_res1 F rfl (rv_t F rfl) ?_
  obtain rfl := Option.some.inj hR
  exact ⟨⟨rfl, hB⟩, (show I64 (-1) by decide)⟩
 replace hR := ifF hb15 hR
 refine x_skip ?_
 refine x_tn ?_
 refine x_seq ?_
 refine x_seq ?_
 refine x_reg ?_
 refine o_move F rfl rfl (fun a F => ?_)
 refine x_end ?_
 refine x_tn ?_
 refine x_if F rfl (fun hb17 => ?_) (fun hb17 => ?_)
 ·
  replace hR := ifT hb17 hR
  refine x_seq ?_
  refine x_reg ?_
  refine o_assign F rfl rfl (fun a F => ?_)
  refine x_end ?_
  refine x_tn ?_
  refine x_ret ?_
  refine x_tr ?_
  refine x_res1 F rfl (rv_t F rfl) ?_
  obtain rfl := Option.some.inj hR
  exact ⟨⟨rfl, hB⟩, (show I64 (1) by decide)⟩
 replace hR := ifF hb17 hR
 refine x_skip ?_
 refine x_tn ?_
 refine x_seq ?_
 refine x_seq ?_
 refine x_reg ?_
 refine o_move F rfl rfl (fun a F => ?_)
 refine o_move F rfl rfl (fun a F => ?_)
 refine o_lss F rfl rfl rfl (fun a F => ?_)
 refine x_end ?_
 refine x_tn ?_
 refine x_if F rfl (fun hb18 => ?_) (fun hb18 => ?_)
 ·
  replace hR := ifT hb18 hR
  refine x_seq ?_
  refine x_reg ?_
  refine o_assign F rfl rfl (fun a F => ?_)
  refine x_end ?_
  refine x_tn ?_
  refine x_ret ?_
  refine x_tr ?_
  refine x_res1 F rfl (rv_t F rfl) ?_
  obtain rfl := Option.some.inj hR
  exact ⟨⟨rfl, hB⟩, (show I64 (-1) by decide)⟩
 replace hR := ifF hb18 hR
 refine x_skip ?_
 refine x_tn ?_
 refine x_seq ?_
 refine x_seq ?_
 refine x_reg ?_
 refine o_move F rfl rfl (fun a F => ?_)
 refine o_move F rfl rfl (fun a F => ?_)
 refine o_gtr F rfl rfl rfl (fun a F => ?_)
 refine x_end ?_
 refine x_tn ?_
 refine x_if F rfl (fun hb19 => ?_) (fun hb19 => ?_)
 ·
  replace hR := ifT hb19 hR
  refine x_seq ?_
  refine x_reg ?_
  refine o_assign F rfl rfl (fun a F => ?_)
  refine x_end ?_
  refine x_tn ?_
  refine x_ret ?_
  refine x_tr ?_
  refine x_res1 F rfl (rv_t F rfl) ?_
  obtain rfl := Option.some.inj hR
  exact ⟨⟨rfl, hB⟩, (show I64 (1) by decide)⟩
 replace hR := ifF hb19 hR
 refine x_skip ?_
 refine x_tn ?_
 refine x_seq ?_
 refine x_reg ?_
 refine o_assign F rfl rfl (fun a F => ?_)
 refine x_end ?_
 refine x_tn ?_
 refine x_ret ?_
 refine x_res1 F rfl (rv_t F rfl) ?_
 obtain rfl := Option.some.inj hR
 exact ⟨⟨rfl, hB⟩, (show I64 (0) by decide)⟩

def slices_Compare_s_int64_int64 (x0 : List Int) (x1 : List Int) : Option Int :=
 thn (σ := Unit) (
  forL (σ := Unit) (ρ := Int) (fun (k35 : Nat) (x37 : Int) (s : Unit) =>
    match s with
    | _ =>
    if (decide ((x1.length : Int) ≤ (k35 : Int))) then
     some (.ret 1)
    else
     bnd (ix x1 (k35 : Int)) fun z48 =>
     bnd (cmp_Compare_int64 x37 z48) fun z55 =>
     if (z55 != 0) then
      some (.ret z55)
     else
      some (.go ())) x0 0 ()) fun _ =>
 if (decide ((x0.length : Int) < (x1.length : Int))) then
  some ((-1))
 else
  some 0
set_option maxHeartbeats 1000000 in
theorem slices_Compare_s_int64_int64_c {x0 : List Int} {x1 : List Int} (r : Int) (hR : slices_Compare_s_int64_int64 x0 x1 = some r) {v0 : Value} {b0 : List Nat} {v1 : Value} {b1 : List Nat} (w0 : World) (A0 : Rd (Sl 1 RInt) w0 v0 x0 b0) (A1 : Rd (Sl 1 RInt) w0 v1 x1 b1) : Calls Tryz.prog 238 #[v0, v1] w0 (SaysI r w0) := by
 unfold slices_Compare_s_int64_int64 at hR
 refine x_enter (L := [(0, v0), (1, v1)]) Tryz.func238 rfl rfl rfl (sc rfl (sc rfl sn)) (fun a F => ?_)
 have hB := Below.refl w0.heap.size w0
 refine x_seq ?_
 refine x_reg ?_
 refine o_assign F rfl rfl (fun a F => ?_)
 refine x_end ?_
 refine x_tn ?_
 refine x_seq ?_
 refine x_seq ?_
 refine x_reg ?_
 refine o_move F rfl rfl (fun a F => ?_)
 refine o_len Tryz.underlying42 F rfl rfl (A0.go hB) (fun a F => ?_)
 have i11 := ((A0.go hB)).r.len64
 refine o_move F rfl rfl (fun a F => ?_)
 refine x_end ?_
 refine x_tn ?_
 obtain ⟨o29, hR, hk30⟩ := thn_some hR
 refine x_cutQ (fun a w => o29 = .nx () ∧ Sk a 36 [(0, v0), (1, v1)] ∧ Below w0.heap.size w0 w) ?_ ?_
 ·
  refine x_blk ?_
  obtain ⟨fl33, hf34, hR⟩ := forL_gen hR
  refine x_loop (fun g a w => ∃ (k35 : Nat) (rest36 : List Int), (k35 ≤ x0.length ∧ x0.drop k35 = rest36) ∧ rest36.length = g ∧ forL fl33 rest36 k35 () = some o29 ∧ Sk a 36 [(11, .int .i64 (k35 : Int)), (0, v0), (1, v1), (9, v0), (10, .int .i64 (x0.length : Int))] ∧ Below w0.heap.size w0 w) x0.length ?_ ?_
  ·
   exact ⟨0, x0, ⟨Nat.zero_le _, rfl⟩, rfl, hR, F.sub (sc rfl (sc rfl (sc rfl (sc rfl (sc rfl sn))))), hB⟩
  intro g38 a w ⟨k35, rest36, hd39, hg40, hR, F, hB⟩
  cases rest36 with
  | nil =>
   replace hR := forL_nil hR
   have hkk35 := drop_nil hd39.1 hd39.2
   have hlk35 := dec_no hkk35
   refine x_seq ?_
   refine x_reg ?_
   refine o_lss F rfl rfl rfl (fun a F => ?_)
   refine x_end ?_
   refine x_tn ?_
   refine x_seq ?_
   refine x_ifF F rfl hlk35 ?_
   refine x_exit ?_
   refine x_te ?_
   refine x_te ?_
   refine x_be ?_
   refine x_tn ?_
   exact ⟨(Option.some.inj hR).symm, F.sub (sc rfl (sc rfl sn)), hB⟩
  | cons x37 rest36 =>
   subst hg40
   replace hd39 := drop_cons hd39.2
   have hxk35 := ix_nat hd39.2.1
   obtain ⟨ck35, hR, hn32⟩ := forL_cons hR
   rw [hf34] at hR
   have hlk35 := dec_yes hd39.1
   refine x_seq ?_
   refine x_reg ?_
   refine o_lss F rfl rfl rfl (fun a F => ?_)
   refine x_end ?_
   refine x_tn ?_
   refine x_seq ?_
   refine x_ifT F rfl hlk35 ?_
   refine x_skip ?_
   refine x_tn ?_
   refine x_seq ?_
   have ikk35 := k64 (Nat.le_of_lt hd39.1) i11
   have ink35 := inc64 hd39.1 i11
   refine x_blk ?_
   refine x_seq ?_
   refine x_reg ?_
   refine o_move F rfl rfl (fun a F => ?_)
   refine o_index Tryz.underlying42 Tryz.sizeOf2 F rfl rfl rfl (A0.go hB) hxk35 (fun a p41 b42 h43 s44 F => ?_)
   have i45 := (h43).i64
   refine o_loadI Tryz.isAgg2 F rfl rfl h43 (fun a F => ?_)
   refine o_assign F rfl rfl (fun a F => ?_)
   refine o_assign F rfl rfl (fun a F => ?_)
   refine x_end ?_
   refine x_tn ?_
   refine x_seq ?_
   refine x_seq ?_
   refine x_reg ?_
   refine o_move F rfl rfl (fun a F => ?_)
   refine o_move F rfl rfl (fun a F => ?_)
   refine o_len Tryz.underlying42 F rfl rfl (A1.go hB) (fun a F => ?_)
   have i46 := ((A1.go hB)).r.len64
   refine o_geq F rfl rfl rfl (fun a F => ?_)
   refine x_end ?_
   refine x_tn ?_
   refine x_if F rfl (fun hb47 => ?_) (fun hb47 => ?_)
   ·
    replace hR := ifT hb47 hR
    refine x_seq ?_
    refine x_reg ?_
    refine o_assign F rfl rfl (fun a F => ?_)
    refine x_end ?_
    refine x_tn ?_
    refine x_ret ?_
    refine x_tr ?_
    refine x_br ?_
    refine x_tr ?_
    refine x_tr ?_
    replace hR := l_ret hR hn32
    refine x_br ?_
    refine x_tr ?_
    replace hR := j_ret hR hk30
    refine x_tr ?_
    refine x_res1 F rfl (rv_t F rfl) ?_
    obtain rfl := Option.some.inj hR
    exact ⟨⟨rfl, hB⟩, (show I64 (1) by decide)⟩
   replace hR := ifF hb47 hR
   refine x_skip ?_
   refine x_tn ?_
   refine x_seq ?_
   refine x_reg ?_
   refine o_move F rfl rfl (fun a F => ?_)
   refine o_move F rfl rfl (fun a F => ?_)
   obtain ⟨z48, c49, hR⟩ := bnd_some hR
   refine o_index Tryz.underlying42 Tryz.sizeOf2 F rfl rfl rfl (A1.go hB) c49 (fun a p50 b51 h52 s53 F => ?_)
   have i54 := (h52).i64
   refine o_loadI Tryz.isAgg2 F rfl rfl h52 (fun a F => ?_)
   refine o_assign F rfl rfl (fun a F => ?_)
   refine x_end ?_
   refine x_tn ?_
   refine x_seq ?_
   refine x_reg ?_
   refine o_move F rfl rfl (fun a F => ?_)
   refine o_move F rfl rfl (fun a F => ?_)
   obtain ⟨z55, c56, hR⟩ := bnd_some hR
   refine o_saysI F rfl Tryz.call282 rfl (cmp_Compare_int64_c z55 c56 _ i45 i54) (fun a w l iz55 F => ?_)
   replace hB := Below.through l hB
   refine o_assign F rfl rfl (fun a F => ?_)
   refine x_end ?_
   refine x_tn ?_
   refine x_seq ?_
   refine x_reg ?_
   refine o_move F rfl rfl (fun a F => ?_)
   refine o_neq F rfl rfl rfl (fun a F => ?_)
   refine x_end ?_
   refine x_tn ?_
   refine x_if F rfl (fun hb57 => ?_) (fun hb57 => ?_)
   ·
    replace hR := ifT hb57 hR
    refine x_seq ?_
    refine x_reg ?_
    refine o_move F rfl rfl (fun a F => ?_)
    refine o_assign F rfl rfl (fun a F => ?_)
    refine x_end ?_
    refine x_tn ?_
    refine x_ret ?_
    refine x_br ?_
    refine x_tr ?_
    refine x_tr ?_
    replace hR := l_ret hR hn32
    refine x_br ?_
    refine x_tr ?_
    replace hR := j_ret hR hk30
    refine x_tr ?_
    refine x_res1 F rfl (rv_t F rfl) ?_
    obtain rfl := Option.some.inj hR
    exact ⟨⟨rfl, hB⟩, iz55⟩
   replace hR := ifF hb57 hR
   refine x_skip ?_
   refine x_bn ?_
   refine x_tn ?_
   refine x_reg ?_
   refine o_inc F rfl rfl rfl ink35 (fun a F => ?_)
   refine o_move F rfl rfl (fun a F => ?_)
   refine x_end ?_
   refine x_tn ?_
   replace hR := l_go hR hn32
   exact ⟨_, Nat.lt_succ_self _, k35 + 1, rest36, ⟨hd39.1, hd39.2.2⟩, rfl, hR, F.sub (sc rfl (sc rfl (sc rfl (sc rfl (sc rfl sn))))), hB⟩
 intro a w ⟨ho31, F, hB⟩
 subst ho31
 have hR := then_nx hk30
 refine x_tn ?_
 refine x_seq ?_
 refine x_seq ?_
 refine x_reg ?_
 refine o_move F rfl rfl (fun a F => ?_)
 refine o_len Tryz.underlying42 F rfl rfl (A0.go hB) (fun a F => ?_)
 have i58 := ((A0.go hB)).r.len64
 refine o_move F rfl rfl (fun a F => ?_)
 refine o_len Tryz.underlying42 F rfl rfl (A1.go hB) (fun a F => ?_)
 have i59 := ((A1.go hB)).r.len64
 refine o_lss F rfl rfl rfl (fun a F => ?_)
 refine x_end ?_
 refine x_tn ?_
 refine x_if F rfl (fun hb60 => ?_) (fun hb60 => ?_)
 ·
  replace hR := ifT hb60 hR
  refine x_seq ?_
  refine x_reg ?_
  refine o_assign F rfl rfl (fun a F => ?_)
  refine x_end ?_
  refine x_tn ?_
  refine x_ret ?_
  refine x_tr ?_
  refine x_res1 F rfl (rv_t F rfl) ?_
  obtain rfl := Option.some.inj hR
  exact ⟨⟨rfl, hB⟩, (show I64 (-1) by decide)⟩
 replace hR := ifF hb60 hR
 refine x_skip ?_
 refine x_tn ?_
 refine x_seq ?_
 refine x_reg ?_
 refine o_assign F rfl rfl (fun a F => ?_)
 refine x_end ?_
 refine x_tn ?_
 refine x_ret ?_
 refine x_res1 F rfl (rv_t F rfl) ?_
 obtain rfl := Option.some.inj hR
 exact ⟨⟨rfl, hB⟩, (show I64 (0) by decide)⟩

def impl_ValidRel (x0 : Int) (x1 : Rel) : Option Bool :=
 thn (σ := Bool) (
  bnd (impl_isSize x0) fun z29 =>
  if (!z29) then  some (.nx true) else  bnd (impl_isArity x1.arity) fun z32 =>
   some (.nx (!z32))) fun s28 =>
 if s28 then
  some false
 else
  thn (σ := Unit) (
   forL (σ := Unit) (ρ := Bool) (fun (k91 : Nat) (x93 : (List Int)) (s : Unit) =>
     match s with
     | _ =>
     thn (σ := Bool) (
      bnd (impl_areValues x0 x93 x1.arity) fun z127 =>
      if (!z127) then  some (.nx true) else  if (decide (0 < (k91 : Int))) then  bnd (ck ((k91 : Int) - 1)) fun z131 =>
        bnd (ix x1.tuples z131) fun z133 =>
        bnd (slices_Compare_s_int64_int64 z133 x93) fun z143 =>
        some (.nx (decide (0 ≤ z143))) else  some (.nx false)) fun s126 =>
     if s126 then
      some (.ret false)
     else
      some (.go ())) x1.tuples 0 ()) fun _ =>
  some true
set_option maxHeartbeats 1000000 in
theorem impl_ValidRel_c {x0 : Int} {x1 : Rel} (r : Bool) (hR : impl_ValidRel x0 x1 = some r) {v1 : Value} {b1 : List Nat} (w0 : World) (hx0 : I64 x0) (A1 : Rd (Agg 2 RRel) w0 v1 x1 b1) : Calls Tryz.prog 229 #[.int .i64 x0, v1] w0 (Says (.bool r) w0) := by
 unfold impl_ValidRel at hR
 refine x_enter (L := [(0, .int .i64 x0), (1, v1)]) Tryz.func229 rfl rfl rfl (sc rfl (sc rfl sn)) (fun a F => ?_)
 have hB := Below.refl w0.heap.size w0
 refine x_seq ?_
 refine x_reg ?_
 obtain ⟨v15, b16, e18, i14, h17, eb13⟩ := RRel.rd (A1.go hB)
 subst e18
 refine o_box F rfl rfl rfl (fun a w b11 K12 l BK12 F => ?_)
 have d19 := (dj1 h17.m BK12).symm
 have CK12 := Nat.le_trans hB.size BK12
 replace hB := Below.through l hB
 replace h17 := h17.go l
 refine o_assign F rfl rfl (fun a F => ?_)
 refine x_end ?_
 refine x_tn ?_
 refine x_seq ?_
 refine x_seq ?_
 obtain ⟨o25, hR, hk26⟩ := thn_some hR
 refine x_cutQ (fun a w => ∃ (s28 : Bool), o25 = .nx s28 ∧ Sk a 46 [(0, .int .i64 x0), (3, .pointer (some ⟨b11, 0, none⟩)), (15, .bool s28)] ∧ Below w0.heap.size w0 w ∧ Rd (Sl 1 (RSl 1 RInt)) w v15 x1.tuples b16 ∧ Blk w b11 #[.int .i64 x1.arity, v15] 101) ?_ ?_
 ·
  refine x_reg ?_
  refine o_move F rfl rfl (fun a F => ?_)
  obtain ⟨z29, c30, hR⟩ := bnd_some hR
  refine o_says F rfl Tryz.call227 rfl (impl_isSize_c z29 c30 _ hx0) (fun a w l F => ?_)
  replace hB := Below.through l hB
  replace h17 := h17.go l
  replace K12 := K12.thru l
  refine o_not F rfl rfl (fun a F => ?_)
  refine o_move F rfl rfl (fun a F => ?_)
  rcases bcases (!z29) with hb31 | hb31
  ·
   replace hR := ifT hb31 hR
   have F := F.eq (t := 10) rfl (congrArg Value.bool hb31)
   refine o_no F rfl rfl (fun a F => ?_)
   refine o_no F rfl rfl (fun a F => ?_)
   refine o_no F rfl rfl (fun a F => ?_)
   refine o_no F rfl rfl (fun a F => ?_)
   refine o_pickt F rfl rfl rfl (fun a F => ?_)
   refine x_end ?_
   refine x_tn ?_
   exact ⟨true, (Option.some.inj hR).symm, F.sub (sc rfl (sc rfl (sc rfl sn))), hB, h17, K12⟩
  replace hR := ifF hb31 hR
  have F := F.eq (t := 10) rfl (congrArg Value.bool hb31)
  refine o_bfield fa101_0 F rfl rfl rfl (fun a F => ?_)
  refine o_bload Tryz.isAgg2 F rfl rfl K12 rfl (fun a F => ?_)
  obtain ⟨z32, c33, hR⟩ := bnd_some hR
  refine o_says F rfl Tryz.call176 rfl (impl_isArity_c z32 c33 _ i14) (fun a w l F => ?_)
  replace hB := Below.through l hB
  replace h17 := h17.go l
  replace K12 := K12.thru l
  refine o_not F rfl rfl (fun a F => ?_)
  refine o_pickf F rfl rfl rfl (fun a F => ?_)
  refine x_end ?_
  refine x_tn ?_
  exact ⟨(!z32), (Option.some.inj hR).symm, F.sub (sc rfl (sc rfl (sc rfl sn))), hB, h17, K12⟩
 intro a w ⟨s28, ho27, F, hB, h17, K12⟩
 subst ho27
 have hR := then_nx hk26
 refine x_tn ?_
 refine x_if F rfl (fun hb34 => ?_) (fun hb34 => ?_)
 ·
  replace hR := ifT hb34 hR
  refine x_seq ?_
  refine x_reg ?_
  refine o_assign F rfl rfl (fun a F => ?_)
  refine x_end ?_
  refine x_tn ?_
  refine x_ret ?_
  refine x_tr ?_
  refine x_res1 F rfl (rv_t F rfl) ?_
  obtain rfl := Option.some.inj hR
  exact ⟨rfl, hB⟩
 replace hR := ifF hb34 hR
 refine x_skip ?_
 refine x_tn ?_
 refine x_seq ?_
 refine x_seq ?_
 refine x_reg ?_
 refine o_bfield fa101_1 F rfl rfl rfl (fun a F => ?_)
 refine o_bload Tryz.isAgg99 F rfl rfl K12 rfl (fun a F => ?_)
 refine o_len Tryz.underlying99 F rfl rfl h17 (fun a F => ?_)
 have i35 := (h17).r.len64
 refine o_move F rfl rfl (fun a F => ?_)
 refine x_end ?_
 refine x_tn ?_
 obtain ⟨o85, hR, hk86⟩ := thn_some hR
 refine x_cutQ (fun a w => o85 = .nx () ∧ Sk a 46 [] ∧ Below w0.heap.size w0 w) ?_ ?_
 ·
  refine x_blk ?_
  obtain ⟨fl89, hf90, hR⟩ := forL_gen hR
  refine x_loop (fun g a w => ∃ (k91 : Nat) (rest92 : List (List Int)), (k91 ≤ x1.tuples.length ∧ x1.tuples.drop k91 = rest92) ∧ rest92.length = g ∧ forL fl89 rest92 k91 () = some o85 ∧ Sk a 46 [(19, .int .i64 (k91 : Int)), (0, .int .i64 x0), (3, .pointer (some ⟨b11, 0, none⟩)), (17, v15), (18, .int .i64 (x1.tuples.length : Int))] ∧ Below w0.heap.size w0 w ∧ Rd (Sl 1 (RSl 1 RInt)) w v15 x1.tuples b16 ∧ Blk w b11 #[.int .i64 x1.arity, v15] 101) x1.tuples.length ?_ ?_
  ·
   exact ⟨0, x1.tuples, ⟨Nat.zero_le _, rfl⟩, rfl, hR, F.sub (sc rfl (sc rfl (sc rfl (sc rfl (sc rfl sn))))), hB, h17, K12⟩
  intro g94 a w ⟨k91, rest92, hd95, hg96, hR, F, hB, h17, K12⟩
  cases rest92 with
  | nil =>
   replace hR := forL_nil hR
   have hkk91 := drop_nil hd95.1 hd95.2
   have hlk91 := dec_no hkk91
   refine x_seq ?_
   refine x_reg ?_
   refine o_lss F rfl rfl rfl (fun a F => ?_)
   refine x_end ?_
   refine x_tn ?_
   refine x_seq ?_
   refine x_ifF F rfl hlk91 ?_
   refine x_exit ?_
   refine x_te ?_
   refine x_te ?_
   refine x_be ?_
   refine x_tn ?_
   exact ⟨(Option.some.inj hR).symm, F.sub sn, hB⟩
  | cons x93 rest92 =>
   subst hg96
   replace hd95 := drop_cons hd95.2
   have hxk91 := ix_nat hd95.2.1
   obtain ⟨ck91, hR, hn88⟩ := forL_cons hR
   rw [hf90] at hR
   have hlk91 := dec_yes hd95.1
   refine x_seq ?_
   refine x_reg ?_
   refine o_lss F rfl rfl rfl (fun a F => ?_)
   refine x_end ?_
   refine x_tn ?_
   refine x_seq ?_
   refine x_ifT F rfl hlk91 ?_
   refine x_skip ?_
   refine x_tn ?_
   refine x_seq ?_
   have ikk91 := k64 (Nat.le_of_lt hd95.1) i35
   have ink91 := inc64 hd95.1 i35
   refine x_blk ?_
   refine x_seq ?_
   refine x_reg ?_
   refine o_move F rfl rfl (fun a F => ?_)
   refine o_index Tryz.underlying99 Tryz.sizeOf42 F rfl rfl rfl h17 hxk91 (fun a p97 b98 h99 s100 F => ?_)
   refine o_loadS Tryz.isAgg42 F rfl rfl h99 (fun a v101 b102 h103 s104 F => ?_)
   refine o_assign F rfl rfl (fun a F => ?_)
   refine o_assign F rfl rfl (fun a F => ?_)
   refine x_end ?_
   refine x_tn ?_
   refine x_seq ?_
   obtain ⟨o123, hR, hk124⟩ := thn_some hR
   refine x_cutQ (fun a w => ∃ (s126 : Bool), o123 = .nx s126 ∧ Sk a 46 [(0, .int .i64 x0), (3, .pointer (some ⟨b11, 0, none⟩)), (17, v15), (18, .int .i64 (x1.tuples.length : Int)), (19, .int .i64 (k91 : Int)), (44, .bool s126)] ∧ Below w0.heap.size w0 w ∧ Rd (Sl 1 (RSl 1 RInt)) w v15 x1.tuples b16 ∧ Blk w b11 #[.int .i64 x1.arity, v15] 101) ?_ ?_
   ·
    refine x_reg ?_
    refine o_move F rfl rfl (fun a F => ?_)
    refine o_move F rfl rfl (fun a F => ?_)
    refine o_bfield fa101_0 F rfl rfl rfl (fun a F => ?_)
    refine o_bload Tryz.isAgg2 F rfl rfl K12 rfl (fun a F => ?_)
    obtain ⟨z127, c128, hR⟩ := bnd_some hR
    refine o_says F rfl Tryz.call118 rfl (impl_areValues_c z127 c128 _ hx0 h103 i14) (fun a w l F => ?_)
    replace hB := Below.through l hB
    replace h17 := h17.go l
    replace h103 := h103.go l
    replace K12 := K12.thru l
    refine o_not F rfl rfl (fun a F => ?_)
    refine o_move F rfl rfl (fun a F => ?_)
    rcases bcases (!z127) with hb129 | hb129
    ·
     replace hR := ifT hb129 hR
     have F := F.eq (t := 30) rfl (congrArg Value.bool hb129)
     refine o_no F rfl rfl (fun a F => ?_)
     refine o_no F rfl rfl (fun a F => ?_)
     refine o_no F rfl rfl (fun a F => ?_)
     refine o_no F rfl rfl (fun a F => ?_)
     refine o_no F rfl rfl (fun a F => ?_)
     refine o_no F rfl rfl (fun a F => ?_)
     refine o_no F rfl rfl (fun a F => ?_)
     refine o_no F rfl rfl (fun a F => ?_)
     refine o_no F rfl rfl (fun a F => ?_)
     refine o_no F rfl rfl (fun a F => ?_)
     refine o_no F rfl rfl (fun a F => ?_)
     refine o_no F rfl rfl (fun a F => ?_)
     refine o_no F rfl rfl (fun a F => ?_)
     refine o_pickt F rfl rfl rfl (fun a F => ?_)
     refine x_end ?_
     refine x_tn ?_
     exact ⟨true, (Option.some.inj hR).symm, F.sub (sc rfl (sc rfl (sc rfl (sc rfl (sc rfl (sc rfl sn)))))), hB, h17, K12⟩
    replace hR := ifF hb129 hR
    have F := F.eq (t := 30) rfl (congrArg Value.bool hb129)
    refine o_move F rfl rfl (fun a F => ?_)
    refine o_gtr F rfl rfl rfl (fun a F => ?_)
    refine o_move F rfl rfl (fun a F => ?_)
    rcases bcases (decide (0 < (k91 : Int))) with hb130 | hb130
    ·
     replace hR := ifT hb130 hR
     have F := F.eq (t := 33) rfl (congrArg Value.bool hb130)
     refine o_bfield fa101_1 F rfl rfl rfl (fun a F => ?_)
     refine o_bload Tryz.isAgg99 F rfl rfl K12 rfl (fun a F => ?_)
     refine o_move F rfl rfl (fun a F => ?_)
     obtain ⟨z131, c132, hR⟩ := bnd_some hR
     refine o_sub F rfl rfl rfl c132 (fun a F => ?_)
     obtain ⟨z133, c134, hR⟩ := bnd_some hR
     refine o_index Tryz.underlying99 Tryz.sizeOf42 F rfl rfl rfl h17 c134 (fun a p135 b136 h137 s138 F => ?_)
     refine o_loadS Tryz.isAgg42 F rfl rfl h137 (fun a v139 b140 h141 s142 F => ?_)
     refine o_move F rfl rfl (fun a F => ?_)
     obtain ⟨z143, c144, hR⟩ := bnd_some hR
     refine o_saysI F rfl Tryz.call238 rfl (slices_Compare_s_int64_int64_c z143 c144 _ h141 h103) (fun a w l iz143 F => ?_)
     replace hB := Below.through l hB
     replace h17 := h17.go l
     replace K12 := K12.thru l
     refine o_geq F rfl rfl rfl (fun a F => ?_)
     refine o_pickt F rfl rfl rfl (fun a F => ?_)
     refine o_pickf F rfl rfl rfl (fun a F => ?_)
     refine x_end ?_
     refine x_tn ?_
     exact ⟨(decide (0 ≤ z143)), (Option.some.inj hR).symm, F.sub (sc rfl (sc rfl (sc rfl (sc rfl (sc rfl (sc rfl sn)))))), hB, h17, K12⟩
    replace hR := ifF hb130 hR
    have F := F.eq (t := 33) rfl (congrArg Value.bool hb130)
    refine o_no F rfl rfl (fun a F => ?_)
    refine o_no F rfl rfl (fun a F => ?_)
    refine o_no F rfl rfl (fun a F => ?_)
    refine o_no F rfl rfl (fun a F => ?_)
    refine o_no F rfl rfl (fun a F => ?_)
    refine o_no F rfl rfl (fun a F => ?_)
    refine o_no F rfl rfl (fun a F => ?_)
    refine o_no F rfl rfl (fun a F => ?_)
    refine o_no F rfl rfl (fun a F => ?_)
    refine o_pickf F rfl rfl rfl (fun a F => ?_)
    refine o_pickf F rfl rfl rfl (fun a F => ?_)
    refine x_end ?_
    refine x_tn ?_
    exact ⟨false, (Option.some.inj hR).symm, F.sub (sc rfl (sc rfl (sc rfl (sc rfl (sc rfl (sc rfl sn)))))), hB, h17, K12⟩
   intro a w ⟨s126, ho125, F, hB, h17, K12⟩
   subst ho125
   have hR := then_nx hk124
   refine x_tn ?_
   refine x_if F rfl (fun hb145 => ?_) (fun hb145 => ?_)
   ·
    replace hR := ifT hb145 hR
    refine x_seq ?_
    refine x_reg ?_
    refine o_assign F rfl rfl (fun a F => ?_)
    refine x_end ?_
    refine x_tn ?_
    refine x_ret ?_
    refine x_br ?_
    refine x_tr ?_
    refine x_tr ?_
    replace hR := l_ret hR hn88
    refine x_br ?_
    refine x_tr ?_
    replace hR := j_ret hR hk86
    refine x_tr ?_
    refine x_res1 F rfl (rv_t F rfl) ?_
    obtain rfl := Option.some.inj hR
    exact ⟨rfl, hB⟩
   replace hR := ifF hb145 hR
   refine x_skip ?_
   refine x_bn ?_
   refine x_tn ?_
   refine x_reg ?_
   refine o_inc F rfl rfl rfl ink91 (fun a F => ?_)
   refine o_move F rfl rfl (fun a F => ?_)
   refine x_end ?_
   refine x_tn ?_
   replace hR := l_go hR hn88
   exact ⟨_, Nat.lt_succ_self _, k91 + 1, rest92, ⟨hd95.1, hd95.2.2⟩, rfl, hR, F.sub (sc rfl (sc rfl (sc rfl (sc rfl (sc rfl sn))))), hB, h17, K12⟩
 intro a w ⟨ho87, F, hB⟩
 subst ho87
 have hR := then_nx hk86
 refine x_tn ?_
 refine x_seq ?_
 refine x_reg ?_
 refine o_assign F rfl rfl (fun a F => ?_)
 refine x_end ?_
 refine x_tn ?_
 refine x_ret ?_
 refine x_res1 F rfl (rv_t F rfl) ?_
 obtain rfl := Option.some.inj hR
 exact ⟨rfl, hB⟩

def impl_ValidTemplate_1 (x0 : Rel) (y0 : Template) : Option Bool :=
 bnd (impl_ValidRel y0.size (Rel.mk x0.arity x0.tuples)) fun z26 =>
 some ((!z26))
set_option maxHeartbeats 1000000 in
theorem impl_ValidTemplate_1_c {x0 : Rel} {y0 : Template} (r : Bool) (hR : impl_ValidTemplate_1 x0 y0 = some r) {v0 : Value} {b0 : List Nat} {v1 : Value} {b1 : List Nat} (w0 : World) (A0 : Rd (Agg 2 RRel) w0 v0 x0 b0) (A1 : Rd (Pt 2 RTemplate) w0 v1 y0 b1) : Calls Tryz.prog 228 #[v0, v1] w0 (Says (.bool r) w0) := by
 unfold impl_ValidTemplate_1 at hR
 refine x_enter (L := [(0, v0), (1, v1)]) Tryz.func228 rfl rfl rfl (sc rfl (sc rfl sn)) (fun a F => ?_)
 have hB := Below.refl w0.heap.size w0
 refine x_seq ?_
 refine x_reg ?_
 obtain ⟨v15, b16, e18, i14, h17, eb13⟩ := RRel.rd (A0.go hB)
 subst e18
 refine o_box F rfl rfl rfl (fun a w b11 K12 l BK12 F => ?_)
 have d19 := (dj1 h17.m BK12).symm
 have CK12 := Nat.le_trans hB.size BK12
 replace hB := Below.through l hB
 replace h17 := h17.go l
 refine o_assign F rfl rfl (fun a F => ?_)
 refine x_end ?_
 refine x_tn ?_
 refine x_seq ?_
 refine x_reg ?_
 refine o_field (s' := 1) fa33_0 F rfl rfl (A1.go hB) RTemplate.f0 (fun a p20 b21 h22 s23 F => ?_)
 have i24 := (h22).i64
 refine o_loadI Tryz.isAgg2 F rfl rfl h22 (fun a F => ?_)
 refine o_bloadA (cs := [.int .i64 x0.arity, v15]) Tryz.isAgg101 Tryz.sizeOf101 F rfl rfl K12 rfl (fun j hj => by match j, hj with | 0, _ => rfl | 1, _ => rfl) (fun a F => ?_)
 have h25 := RRel.mk2 (w := w) i14 h17
 obtain ⟨z26, c27, hR⟩ := bnd_some hR
 refine o_says F rfl Tryz.call229 rfl (impl_ValidRel_c z26 c27 _ i24 h25) (fun a w l F => ?_)
 replace hB := Below.through l hB
 refine o_not F rfl rfl (fun a F => ?_)
 refine o_assign F rfl rfl (fun a F => ?_)
 refine x_end ?_
 refine x_tn ?_
 refine x_ret ?_
 refine x_res1 F rfl (rv_t F rfl) ?_
 obtain rfl := Option.some.inj hR
 exact ⟨rfl, hB⟩

def slices_IndexFunc_s_Rel_Rel (x0 : List Rel) (x1 : Rel → Option Bool) : Option Int :=
 thn (σ := Unit) (
  forL (σ := Unit) (ρ := Int) (fun (k29 : Nat) (x31 : Rel) (s : Unit) =>
    match s with
    | _ =>
    bnd (x1 x31) fun z43 =>
    if z43 then
     some (.ret ((k29 : Int)))
    else
     some (.go ())) x0 0 ()) fun _ =>
 some ((-1))
set_option maxHeartbeats 1000000 in
theorem slices_IndexFunc_s_Rel_Rel_c {x0 : List Rel} {x1 : Rel → Option Bool} (r : Int) (hR : slices_IndexFunc_s_Rel_Rel x0 x1 = some r) {v0 : Value} {b0 : List Nat} {g1 : FuncId} {lb1 : List Value} (w0 : World) (A0 : Rd (Sl 2 RRel) w0 v0 x0 b0) (hg1 : ∀ args w, (callFunc g1 args).run Tryz.prog w = .ok (.enter g1 args) w) (hp1 : ∀ (a0 : Rel) (r : Bool), x1 a0 = some r → ∀ W, Below w0.heap.size w0 W → ∀ (u0 : Value) (c0 : List Nat), Rd (Agg 2 RRel) W u0 a0 c0 → Calls Tryz.prog g1 ([u0] ++ lb1 : List Value).toArray W (Says (.bool r) W)) : Calls Tryz.prog 207 #[v0, .func (.func g1) #[] lb1.toArray] w0 (SaysI r w0) := by
 unfold slices_IndexFunc_s_Rel_Rel at hR
 refine x_enter (L := [(0, v0), (1, .func (.func g1) #[] lb1.toArray)]) Tryz.func207 rfl rfl rfl (sc rfl (sc rfl sn)) (fun a F => ?_)
 have hB := Below.refl w0.heap.size w0
 refine x_seq ?_
 refine x_reg ?_
 refine o_assign F rfl rfl (fun a F => ?_)
 refine x_end ?_
 refine x_tn ?_
 refine x_seq ?_
 refine x_seq ?_
 refine x_reg ?_
 refine o_move F rfl rfl (fun a F => ?_)
 refine o_len Tryz.underlying31 F rfl rfl (A0.go hB) (fun a F => ?_)
 have i11 := ((A0.go hB)).r.len64
 refine o_move F rfl rfl (fun a F => ?_)
 refine x_end ?_
 refine x_tn ?_
 obtain ⟨o23, hR, hk24⟩ := thn_some hR
 refine x_cutQ (fun a w => o23 = .nx () ∧ Sk a 19 [] ∧ Below w0.heap.size w0 w) ?_ ?_
 ·
  refine x_blk ?_
  obtain ⟨fl27, hf28, hR⟩ := forL_gen hR
  refine x_loop (fun g a w => ∃ (k29 : Nat) (rest30 : List Rel), (k29 ≤ x0.length ∧ x0.drop k29 = rest30) ∧ rest30.length = g ∧ forL fl27 rest30 k29 () = some o23 ∧ Sk a 19 [(8, .int .i64 (k29 : Int)), (0, v0), (1, .func (.func g1) #[] lb1.toArray), (7, .int .i64 (x0.length : Int))] ∧ Below w0.heap.size w0 w) x0.length ?_ ?_
  ·
   exact ⟨0, x0, ⟨Nat.zero_le _, rfl⟩, rfl, hR, F.sub (sc rfl (sc rfl (sc rfl (sc rfl sn)))), hB⟩
  intro g32 a w ⟨k29, rest30, hd33, hg34, hR, F, hB⟩
  cases rest30 with
  | nil =>
   replace hR := forL_nil hR
   have hkk29 := drop_nil hd33.1 hd33.2
   have hlk29 := dec_no hkk29
   refine x_seq ?_
   refine x_reg ?_
   refine o_lss F rfl rfl rfl (fun a F => ?_)
   refine x_end ?_
   refine x_tn ?_
   refine x_seq ?_
   refine x_ifF F rfl hlk29 ?_
   refine x_exit ?_
   refine x_te ?_
   refine x_te ?_
   refine x_be ?_
   refine x_tn ?_
   exact ⟨(Option.some.inj hR).symm, F.sub sn, hB⟩
  | cons x31 rest30 =>
   subst hg34
   replace hd33 := drop_cons hd33.2
   have hxk29 := ix_nat hd33.2.1
   obtain ⟨ck29, hR, hn26⟩ := forL_cons hR
   rw [hf28] at hR
   have hlk29 := dec_yes hd33.1
   refine x_seq ?_
   refine x_reg ?_
   refine o_lss F rfl rfl rfl (fun a F => ?_)
   refine x_end ?_
   refine x_tn ?_
   refine x_seq ?_
   refine x_ifT F rfl hlk29 ?_
   refine x_skip ?_
   refine x_tn ?_
   refine x_seq ?_
   have ikk29 := k64 (Nat.le_of_lt hd33.1) i11
   have ink29 := inc64 hd33.1 i11
   refine x_blk ?_
   refine x_seq ?_
   refine x_reg ?_
   refine o_move F rfl rfl (fun a F => ?_)
   refine o_assign F rfl rfl (fun a F => ?_)
   refine x_end ?_
   refine x_tn ?_
   refine x_seq ?_
   refine x_reg ?_
   refine o_move F rfl rfl (fun a F => ?_)
   refine o_move F rfl rfl (fun a F => ?_)
   refine o_move F rfl rfl (fun a F => ?_)
   refine o_index Tryz.underlying31 Tryz.sizeOf101 F rfl rfl rfl (A0.go hB) hxk29 (fun a p35 b36 h37 s38 F => ?_)
   refine o_loadA Tryz.isAgg101 Tryz.sizeOf101 F rfl rfl h37 (fun a v39 b40 h41 s42 F => ?_)
   obtain ⟨z43, c44, hR⟩ := bnd_some hR
   refine o_saysV F rfl rfl hg1 rfl (hp1 _ z43 c44 _ hB _ _ h41) (fun a w l F => ?_)
   replace hB := Below.through l hB
   refine x_end ?_
   refine x_tn ?_
   refine x_if F rfl (fun hb45 => ?_) (fun hb45 => ?_)
   ·
    replace hR := ifT hb45 hR
    refine x_seq ?_
    refine x_reg ?_
    refine o_move F rfl rfl (fun a F => ?_)
    refine o_assign F rfl rfl (fun a F => ?_)
    refine x_end ?_
    refine x_tn ?_
    refine x_ret ?_
    refine x_br ?_
    refine x_tr ?_
    refine x_tr ?_
    replace hR := l_ret hR hn26
    refine x_br ?_
    refine x_tr ?_
    replace hR := j_ret hR hk24
    refine x_tr ?_
    refine x_res1 F rfl (rv_t F rfl) ?_
    obtain rfl := Option.some.inj hR
    exact ⟨⟨rfl, hB⟩, ikk29⟩
   replace hR := ifF hb45 hR
   refine x_skip ?_
   refine x_bn ?_
   refine x_tn ?_
   refine x_reg ?_
   refine o_inc F rfl rfl rfl ink29 (fun a F => ?_)
   refine o_move F rfl rfl (fun a F => ?_)
   refine x_end ?_
   refine x_tn ?_
   replace hR := l_go hR hn26
   exact ⟨_, Nat.lt_succ_self _, k29 + 1, rest30, ⟨hd33.1, hd33.2.2⟩, rfl, hR, F.sub (sc rfl (sc rfl (sc rfl (sc rfl sn)))), hB⟩
 intro a w ⟨ho25, F, hB⟩
 subst ho25
 have hR := then_nx hk24
 refine x_tn ?_
 refine x_seq ?_
 refine x_reg ?_
 refine o_assign F rfl rfl (fun a F => ?_)
 refine x_end ?_
 refine x_tn ?_
 refine x_ret ?_
 refine x_res1 F rfl (rv_t F rfl) ?_
 obtain rfl := Option.some.inj hR
 exact ⟨⟨rfl, hB⟩, (show I64 (-1) by decide)⟩

def slices_ContainsFunc_s_Rel_Rel (x0 : List Rel) (x1 : Rel → Option Bool) : Option Bool :=
 bnd (slices_IndexFunc_s_Rel_Rel x0 x1) fun z11 =>
 some ((decide (0 ≤ z11)))
set_option maxHeartbeats 1000000 in
theorem slices_ContainsFunc_s_Rel_Rel_c {x0 : List Rel} {x1 : Rel → Option Bool} (r : Bool) (hR : slices_ContainsFunc_s_Rel_Rel x0 x1 = some r) {v0 : Value} {b0 : List Nat} {g1 : FuncId} {lb1 : List Value} (w0 : World) (A0 : Rd (Sl 2 RRel) w0 v0 x0 b0) (hg1 : ∀ args w, (callFunc g1 args).run Tryz.prog w = .ok (.enter g1 args) w) (hp1 : ∀ (a0 : Rel) (r : Bool), x1 a0 = some r → ∀ W, Below w0.heap.size w0 W → ∀ (u0 : Value) (c0 : List Nat), Rd (Agg 2 RRel) W u0 a0 c0 → Calls Tryz.prog g1 ([u0] ++ lb1 : List Value).toArray W (Says (.bool r) W)) : Calls Tryz.prog 128 #[v0, .func (.func g1) #[] lb1.toArray] w0 (Says (.bool r) w0) := by
 unfold slices_ContainsFunc_s_Rel_Rel at hR
 refine x_enter (L := [(0, v0), (1, .func (.func g1) #[] lb1.toArray)]) Tryz.func128 rfl rfl rfl (sc rfl (sc rfl sn)) (fun a F => ?_)
 have hB := Below.refl w0.heap.size w0
 refine x_seq ?_
 refine x_reg ?_
 refine o_assign F rfl rfl (fun a F => ?_)
 refine x_end ?_
 refine x_tn ?_
 refine x_seq ?_
 refine x_reg ?_
 refine o_move F rfl rfl (fun a F => ?_)
 refine o_move F rfl rfl (fun a F => ?_)
 obtain ⟨z11, c12, hR⟩ := bnd_some hR
 refine o_saysI F rfl Tryz.call207 rfl (slices_IndexFunc_s_Rel_Rel_c z11 c12 _ (A0.go hB) hg1 (fun a0 r h W l => hp1 a0 r h W (hB.through' l))) (fun a w l iz11 F => ?_)
 replace hB := Below.through l hB
 refine o_geq F rfl rfl rfl (fun a F => ?_)
 refine o_assign F rfl rfl (fun a F => ?_)
 refine x_end ?_
 refine x_tn ?_
 refine x_ret ?_
 refine x_res1 F rfl (rv_t F rfl) ?_
 obtain rfl := Option.some.inj hR
 exact ⟨rfl, hB⟩

def impl_ValidTemplate (x0 : Template) : Option Bool :=
 thn (σ := Bool) (
  bnd (impl_isSize x0.size) fun z31 =>
  if z31 then  if (decide ((x0.rels.length : Int) ≤ 6)) then  bnd (slices_ContainsFunc_s_Rel_Rel x0.rels (fun a0 => impl_ValidTemplate_1 a0 (Template.mk x0.size x0.rels))) fun z36 =>
    some (.nx (!z36)) else  some (.nx false) else  some (.nx false)) fun s30 =>
 some s30
set_option maxHeartbeats 1000000 in
theorem impl_ValidTemplate_c {x0 : Template} (r : Bool) (hR : impl_ValidTemplate x0 = some r) {v0 : Value} {b0 : List Nat} (w0 : World) (A0 : Rd (Agg 2 RTemplate) w0 v0 x0 b0) : Calls Tryz.prog 141 #[v0] w0 (Says (.bool r) w0) := by
 unfold impl_ValidTemplate at hR
 refine x_enter (L := [(0, v0)]) Tryz.func141 rfl rfl rfl (sc rfl sn) (fun a F => ?_)
 have hB := Below.refl w0.heap.size w0
 refine x_seq ?_
 refine x_reg ?_
 obtain ⟨v15, b16, e18, i14, h17, eb13⟩ := RTemplate.rd (A0.go hB)
 subst e18
 refine o_box F rfl rfl rfl (fun a w b11 K12 l BK12 F => ?_)
 have d19 := (dj1 h17.m BK12).symm
 have CK12 := Nat.le_trans hB.size BK12
 replace hB := Below.through l hB
 replace h17 := h17.go l
 refine o_assign F rfl rfl (fun a F => ?_)
 refine x_end ?_
 refine x_tn ?_
 refine x_seq ?_
 obtain ⟨o27, hR, hk28⟩ := thn_some hR
 refine x_cutQ (fun a w => ∃ (s30 : Bool), o27 = .nx s30 ∧ Sk a 19 [(2, .bool s30)] ∧ Below w0.heap.size w0 w) ?_ ?_
 ·
  refine x_reg ?_
  refine o_bfield fa33_0 F rfl rfl rfl (fun a F => ?_)
  refine o_bload Tryz.isAgg2 F rfl rfl K12 rfl (fun a F => ?_)
  obtain ⟨z31, c32, hR⟩ := bnd_some hR
  refine o_says F rfl Tryz.call227 rfl (impl_isSize_c z31 c32 _ i14) (fun a w l F => ?_)
  replace hB := Below.through l hB
  replace h17 := h17.go l
  replace K12 := K12.thru l
  refine o_move F rfl rfl (fun a F => ?_)
  rcases bcases z31 with hb33 | hb33
  ·
   replace hR := ifT hb33 hR
   have F := F.eq (t := 6) rfl (congrArg Value.bool hb33)
   refine o_bfield fa33_1 F rfl rfl rfl (fun a F => ?_)
   refine o_bload Tryz.isAgg31 F rfl rfl K12 rfl (fun a F => ?_)
   refine o_len Tryz.underlying31 F rfl rfl h17 (fun a F => ?_)
   have i34 := (h17).r.len64
   refine o_leq F rfl rfl rfl (fun a F => ?_)
   refine o_pickt F rfl rfl rfl (fun a F => ?_)
   refine o_move F rfl rfl (fun a F => ?_)
   rcases bcases (decide ((x0.rels.length : Int) ≤ 6)) with hb35 | hb35
   ·
    replace hR := ifT hb35 hR
    have F := F.eq (t := 12) rfl (congrArg Value.bool hb35)
    refine o_bfield fa33_1 F rfl rfl rfl (fun a F => ?_)
    refine o_bload Tryz.isAgg31 F rfl rfl K12 rfl (fun a F => ?_)
    refine o_func F rfl rfl rfl (fun a F => ?_)
    obtain ⟨z36, c37, hR⟩ := bnd_some hR
    refine o_says F rfl Tryz.call128 rfl (slices_ContainsFunc_s_Rel_Rel_c z36 c37 _ h17 Tryz.call228 (fun a0 r h W l u0 c0 f0 => impl_ValidTemplate_1_c r h W f0 ((RTemplate.blk K12 i14 h17).go l))) (fun a w l F => ?_)
    replace hB := Below.through l hB
    refine o_not F rfl rfl (fun a F => ?_)
    refine o_pickt F rfl rfl rfl (fun a F => ?_)
    refine o_assign F rfl rfl (fun a F => ?_)
    refine x_end ?_
    refine x_tn ?_
    exact ⟨(!z36), (Option.some.inj hR).symm, F.sub (sc rfl sn), hB⟩
   replace hR := ifF hb35 hR
   have F := F.eq (t := 12) rfl (congrArg Value.bool hb35)
   refine o_no F rfl rfl (fun a F => ?_)
   refine o_no F rfl rfl (fun a F => ?_)
   refine o_no F rfl rfl (fun a F => ?_)
   refine o_no F rfl rfl (fun a F => ?_)
   refine o_no F rfl rfl (fun a F => ?_)
   refine o_pickf F rfl rfl rfl (fun a F => ?_)
   refine o_assign F rfl rfl (fun a F => ?_)
   refine x_end ?_
   refine x_tn ?_
   exact ⟨false, (Option.some.inj hR).symm, F.sub (sc rfl sn), hB⟩
  replace hR := ifF hb33 hR
  have F := F.eq (t := 6) rfl (congrArg Value.bool hb33)
  refine o_no F rfl rfl (fun a F => ?_)
  refine o_no F rfl rfl (fun a F => ?_)
  refine o_no F rfl rfl (fun a F => ?_)
  refine o_no F rfl rfl (fun a F => ?_)
  refine o_pickf F rfl rfl rfl (fun a F => ?_)
  refine o_move F rfl rfl (fun a F => ?_)
  refine o_no F rfl rfl (fun a F => ?_)
  refine o_no F rfl rfl (fun a F => ?_)
  refine o_no F rfl rfl (fun a F => ?_)
  refine o_no F rfl rfl (fun a F => ?_)
  refine o_no F rfl rfl (fun a F => ?_)
  refine o_pickf F rfl rfl rfl (fun a F => ?_)
  refine o_assign F rfl rfl (fun a F => ?_)
  refine x_end ?_
  refine x_tn ?_
  exact ⟨false, (Option.some.inj hR).symm, F.sub (sc rfl sn), hB⟩
 intro a w ⟨s30, ho29, F, hB⟩
 subst ho29
 have hR := then_nx hk28
 refine x_tn ?_
 refine x_ret ?_
 refine x_res1 F rfl (rv_t F rfl) ?_
 obtain rfl := Option.some.inj hR
 exact ⟨rfl, hB⟩

def slices_Clone_s_int64_int64 (x0 : List Int) : Option (List Int) :=
 bnd (ap ([]) x0) fun z18 =>
 some z18
set_option maxHeartbeats 1000000 in
theorem slices_Clone_s_int64_int64_c {x0 : List Int} (r : (List Int)) (hR : slices_Clone_s_int64_int64 x0 = some r) {v0 : Value} {b0 : List Nat} (w0 : World) (A0 : Rd (Sl 1 RInt) w0 v0 x0 b0) : Calls Tryz.prog 71 #[v0] w0 (Gives (fun v w' => ∃ (v1' : Value) (rb2' : List Nat), v = v1' ∧ Row 1 RInt 2 w0.heap.size w' v1' r rb2' []) w0) := by
 unfold slices_Clone_s_int64_int64 at hR
 refine x_enter (L := [(0, v0)]) Tryz.func71 rfl rfl rfl (sc rfl sn) (fun a F => ?_)
 have hB := Below.refl w0.heap.size w0
 refine x_seq ?_
 refine x_reg ?_
 refine o_assign F rfl rfl (fun a F => ?_)
 refine x_end ?_
 refine x_tn ?_
 refine x_seq ?_
 refine x_seq ?_
 refine x_reg ?_
 refine o_move F rfl rfl (fun a F => ?_)
 refine o_eqlnilG Tryz.underlying42 F rfl rfl rfl (A0.go hB) (fun a nb11 hn12 F => ?_)
 refine x_end ?_
 refine x_tn ?_
 refine x_if F rfl (fun hb13 => ?_) (fun hb13 => ?_)
 ·
  replace hR : some ([]) = some r := by rw [hn12 hb13] at hR; exact hR
  refine x_seq ?_
  refine x_reg ?_
  refine o_assign F rfl rfl (fun a F => ?_)
  refine x_end ?_
  refine x_tn ?_
  refine x_ret ?_
  refine x_tr ?_
  refine x_res1 F rfl (rv_t F rfl) ?_
  obtain rfl := Option.some.inj hR
  exact ⟨_, rfl, hB, (.slice none 0 0), [], rfl, Row.nil 1 RInt 2 _ _⟩
 refine x_skip ?_
 refine x_tn ?_
 refine x_seq ?_
 refine x_reg ?_
 refine o_lit0 (R := RInt) Tryz.underlying42 Tryz.sizeOf2 F rfl (fun a w v14 rb15 h16 l F => ?_)
 replace h16 := h16.base hB.size
 replace hB := Below.through l hB
 refine o_move F rfl rfl (fun a F => ?_)
 obtain ⟨z18, c19, hR⟩ := bnd_some hR
 obtain ⟨ib23, sr24, sn25⟩ := Rd.src (by decide) (A0.go hB)
 refine o_append (sz := 1) (R := RInt) (z := (.int .i64 0)) (bytes := 8) Tryz.underlying42 (by kernel_rfl) rfl (by decide) (by decide) (by decide) F rfl rfl rfl h16 sr24 hB.size (Dj.symm (Dj.sub (Dj.new A0.m h16.ownR (Nat.le_refl _)) sn25)) c19 (fun a w v20 rb21 h22 l keep F => ?_)
 obtain rfl : ib23 = [] := src_flat sr24 (fun w f x bs h => by first | exact h.2.2 | exact h.2 | exact h.2.2.2.2 | exact h.2.2.2.2.2.2 | exact h.2.2.2.2.2.2.2.2)
 replace h22 := row_nil2 h22
 replace hB := hB.o l h16.lo hB.size
 refine o_assign F rfl rfl (fun a F => ?_)
 refine x_end ?_
 refine x_tn ?_
 refine x_ret ?_
 refine x_res1 F rfl (rv_t F rfl) ?_
 obtain rfl := Option.some.inj hR
 exact ⟨_, rfl, hB, v20, rb21, rfl, h22⟩
end Go.Proofs.YtfggmelojaicfaaGreat
