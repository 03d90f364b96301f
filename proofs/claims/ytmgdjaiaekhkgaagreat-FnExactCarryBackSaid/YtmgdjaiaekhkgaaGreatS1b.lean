/-
  Functions of the program as plain functions, and that they compute them. Printed by sg.py.
-/
import Derived.Test.YtmgdjaiaekhkgaaGreatS1
namespace Go.Proofs.YtmgdjaiaekhkgaaGreat
set_option linter.unusedVariables false
set_option linter.unusedSimpArgs false
set_option maxRecDepth 100000
open Go.RowKit
def impl_within (x0 : Int) (x1 : Int) (x2 : Int) : Option Bool :=
 thn (σ := Bool) (
  if (decide (x1 ≤ x0)) then  some (.nx (decide (x0 ≤ x2))) else  some (.nx false)) fun s15 =>
 some s15
set_option maxHeartbeats 1000000 in
theorem impl_within_c {B : Nat → Prop} {x0 : Int} {x1 : Int} {x2 : Int} (r : Bool) (hR : impl_within x0 x1 x2 = some r)  (w0 : World) (hN : ∀ c, B c → c < w0.heap.size) (hx0 : I64 x0) (hx1 : I64 x1) (hx2 : I64 x2) : Calls Tryz.prog 150 #[.int .i64 x0, .int .i64 x1, .int .i64 x2] w0 (Says (.bool r) w0) := by
 unfold impl_within at hR
 refine x_enter (L := [(0, .int .i64 x0), (1, .int .i64 x1), (2, .int .i64 x2)]) Tryz.func150 rfl rfl rfl (sc rfl (sc rfl (sc rfl sn))) (fun a F => ?_)
 have H := Sep.start hN
 refine x_seq (x_reg (o_assign F rfl rfl fun a F => x_end (x_tn (x_seq ?_))))
 obtain ⟨o12, hR, hk13⟩ := thn_some hR
 refine x_cutQ (fun a w => ∃ (s15 : Bool), o12 = .nx s15 ∧ Sk a 15 [(6, .bool s15)] ∧ Sep [] B w0 w []) ?_ ?_
 ·
  refine x_reg (o_move F rfl rfl fun a F => o_move F rfl rfl fun a F => o_geq F rfl rfl rfl fun a F => o_move F rfl rfl (fun a F => ?_))
  rcases bcases (decide (x1 ≤ x0)) with hb16 | hb16
  ·
   replace hR := ifT hb16 hR
   have F := F.eq (t := 10) rfl (congrArg Value.bool hb16)
   refine o_move F rfl rfl fun a F => o_move F rfl rfl fun a F => o_leq F rfl rfl rfl fun a F => o_pickt F rfl rfl rfl fun a F => o_assign F rfl rfl fun a F => x_end (x_tn ?_)
   exact ⟨(decide (x0 ≤ x2)), (Option.some.inj hR).symm, F.sub (sc rfl sn), H⟩
  replace hR := ifF hb16 hR
  have F := F.eq (t := 10) rfl (congrArg Value.bool hb16)
  refine o_no F rfl rfl fun a F => o_no F rfl rfl fun a F => o_no F rfl rfl fun a F => o_pickf F rfl rfl rfl fun a F => o_assign F rfl rfl fun a F => x_end (x_tn ?_)
  exact ⟨false, (Option.some.inj hR).symm, F.sub (sc rfl sn), H⟩
 intro a w ⟨s15, ho14, F, H⟩
 subst ho14
 have hR := then_nx hk13
 refine x_tn (x_ret (x_res1 F rfl (rv_t F rfl) ?_))
 obtain rfl := Option.some.inj hR
 exact ⟨rfl, H.bl⟩

def impl_isSize (x0 : Int) : Option Bool :=
 bnd (impl_within x0 1 4) fun z11 =>
 some z11
set_option maxHeartbeats 1000000 in
theorem impl_isSize_c {B : Nat → Prop} {x0 : Int} (r : Bool) (hR : impl_isSize x0 = some r)  (w0 : World) (hN : ∀ c, B c → c < w0.heap.size) (hx0 : I64 x0) : Calls Tryz.prog 174 #[.int .i64 x0] w0 (Says (.bool r) w0) := by
 unfold impl_isSize at hR
 refine x_enter (L := [(0, .int .i64 x0)]) Tryz.func174 rfl rfl rfl (sc rfl sn) (fun a F => ?_)
 have H := Sep.start hN
 refine x_seq (x_reg (o_assign F rfl rfl fun a F => x_end (x_tn (x_seq (x_reg (o_move F rfl rfl (fun a F => ?_)))))))
 obtain ⟨z11, c12, hR⟩ := bnd_some hR
 refine oK F rfl Tryz.call150 rfl H (impl_within_c z11 c12 _ aA hx0 (show I64 (1) by decide) (show I64 (4) by decide)) fun a w H F => o_assign F rfl rfl fun a F => x_end (x_tn (x_ret (x_res1 F rfl (rv_t F rfl) ?_)))
 obtain rfl := Option.some.inj hR
 exact ⟨rfl, H.bl⟩

def impl_isArity (x0 : Int) : Option Bool :=
 bnd (impl_within x0 1 4) fun z11 =>
 some z11
set_option maxHeartbeats 1000000 in
theorem impl_isArity_c {B : Nat → Prop} {x0 : Int} (r : Bool) (hR : impl_isArity x0 = some r)  (w0 : World) (hN : ∀ c, B c → c < w0.heap.size) (hx0 : I64 x0) : Calls Tryz.prog 225 #[.int .i64 x0] w0 (Says (.bool r) w0) := by
 unfold impl_isArity at hR
 refine x_enter (L := [(0, .int .i64 x0)]) Tryz.func225 rfl rfl rfl (sc rfl sn) (fun a F => ?_)
 have H := Sep.start hN
 refine x_seq (x_reg (o_assign F rfl rfl fun a F => x_end (x_tn (x_seq (x_reg (o_move F rfl rfl (fun a F => ?_)))))))
 obtain ⟨z11, c12, hR⟩ := bnd_some hR
 refine oK F rfl Tryz.call150 rfl H (impl_within_c z11 c12 _ aA hx0 (show I64 (1) by decide) (show I64 (4) by decide)) fun a w H F => o_assign F rfl rfl fun a F => x_end (x_tn (x_ret (x_res1 F rfl (rv_t F rfl) ?_)))
 obtain rfl := Option.some.inj hR
 exact ⟨rfl, H.bl⟩

def impl_isValue (x0 : Int) (x1 : Int) : Option Bool :=
 bnd (ck (x0 - 1)) fun z11 =>
 bnd (impl_within x1 0 z11) fun z13 =>
 some z13
set_option maxHeartbeats 1000000 in
theorem impl_isValue_c {B : Nat → Prop} {x0 : Int} {x1 : Int} (r : Bool) (hR : impl_isValue x0 x1 = some r)  (w0 : World) (hN : ∀ c, B c → c < w0.heap.size) (hx0 : I64 x0) (hx1 : I64 x1) : Calls Tryz.prog 137 #[.int .i64 x0, .int .i64 x1] w0 (Says (.bool r) w0) := by
 unfold impl_isValue at hR
 refine x_enter (L := [(0, .int .i64 x0), (1, .int .i64 x1)]) Tryz.func137 rfl rfl rfl (sc rfl (sc rfl sn)) (fun a F => ?_)
 have H := Sep.start hN
 refine x_seq (x_reg (o_assign F rfl rfl fun a F => x_end (x_tn (x_seq (x_reg (o_move F rfl rfl fun a F => o_move F rfl rfl (fun a F => ?_)))))))
 obtain ⟨z11, c12, hR⟩ := bnd_some hR
 refine o_sub F rfl rfl rfl c12 (fun a F => ?_)
 obtain ⟨z13, c14, hR⟩ := bnd_some hR
 refine oK F rfl Tryz.call150 rfl H (impl_within_c z13 c14 _ aA hx1 (show I64 (0) by decide) (ck64 c12)) fun a w H F => o_assign F rfl rfl fun a F => x_end (x_tn (x_ret (x_res1 F rfl (rv_t F rfl) ?_)))
 obtain rfl := Option.some.inj hR
 exact ⟨rfl, H.bl⟩

def impl_areValues_1 (x0 : Int) (y0 : Int) : Option Bool :=
 bnd (impl_isValue y0 x0) fun z12 =>
 some ((!z12))
set_option maxHeartbeats 1000000 in
theorem impl_areValues_1_c {B : Nat → Prop} {x0 : Int} {y0 : Int} (r : Bool) (hR : impl_areValues_1 x0 y0 = some r) {v1 : Value} (w0 : World) (hN : ∀ c, B c → c < w0.heap.size) (hx0 : I64 x0) (A1 : Bo B w0 (Pt 1 RInt) v1 y0) : Calls Tryz.prog 136 #[.int .i64 x0, v1] w0 (Says (.bool r) w0) := by
 unfold impl_areValues_1 at hR
 refine x_enter (L := [(0, .int .i64 x0), (1, v1)]) Tryz.func136 rfl rfl rfl (sc rfl (sc rfl sn)) (fun a F => ?_)
 have H := Sep.start hN
 refine x_seq (x_reg (o_assign F rfl rfl fun a F => x_end (x_tn (x_seq (x_reg (olI Tryz.isAgg2 F rfl rfl H.sm A1 fun a i11 F => o_move F rfl rfl (fun a F => ?_)))))))
 obtain ⟨z12, c13, hR⟩ := bnd_some hR
 refine oK F rfl Tryz.call137 rfl H (impl_isValue_c z12 c13 _ aA i11 hx0) fun a w H F => o_not F rfl rfl fun a F => o_assign F rfl rfl fun a F => x_end (x_tn (x_ret (x_res1 F rfl (rv_t F rfl) ?_)))
 obtain rfl := Option.some.inj hR
 exact ⟨rfl, H.bl⟩

def slices_IndexFunc_s_int64_int64 (x0 : List Int) (x1 : Int → Option Bool) : Option Int :=
 thn (σ := Unit) (
  forL (σ := Unit) (ρ := Int) (fun (k24 : Nat) (x26 : Int) (s : Unit) =>
    match s with
    | _ =>
    bnd (x1 x26) fun z33 =>
    if z33 then
     some (.ret ((k24 : Int)))
    else
     some (.go ())) x0 0 ()) fun _ =>
 some ((-1))
set_option maxHeartbeats 1000000 in
theorem slices_IndexFunc_s_int64_int64_c {B : Nat → Prop} {x0 : List Int} {x1 : Int → Option Bool} (r : Int) (hR : slices_IndexFunc_s_int64_int64 x0 x1 = some r) {v0 : Value} {g1 : FuncId} {lb1 : List Value} (w0 : World) (hN : ∀ c, B c → c < w0.heap.size) (A0 : Bo B w0 (Sl 1 RInt) v0 x0) (hg1 : ∀ args w, (callFunc g1 args).run Tryz.prog w = .ok (.enter g1 args) w) (hp1 : ∀ (a0 : Int) (r : Bool), x1 a0 = some r → ∀ W, Below w0.heap.size w0 W → I64 a0 → Calls Tryz.prog g1 ([.int .i64 a0] ++ lb1 : List Value).toArray W (Says (.bool r) W)) : Calls Tryz.prog 160 #[v0, .func (.func g1) #[] lb1.toArray] w0 (SaysI r w0) := by
 unfold slices_IndexFunc_s_int64_int64 at hR
 refine x_enter (L := [(0, v0), (1, .func (.func g1) #[] lb1.toArray)]) Tryz.func160 rfl rfl rfl (sc rfl (sc rfl sn)) (fun a F => ?_)
 have H := Sep.start hN
 refine x_seq (x_reg (o_assign F rfl rfl fun a F => x_end (x_tn (x_seq (x_seq (x_reg (o_move F rfl rfl fun a F => oL Tryz.underlying42 F rfl rfl A0 fun a i11 F => o_move F rfl rfl (fun a F => ?_))))))))
 refine x_end (x_tn ?_)
 obtain ⟨o18, hR, hk19⟩ := thn_some hR
 refine x_cutQ (fun a w => o18 = .nx () ∧ Sk a 19 [] ∧ Sep [] B w0 w []) ?_ ?_
 ·
  refine x_blk ?_
  obtain ⟨fl22, hf23, hR⟩ := forL_gen hR
  refine x_loop (fun g a w => ∃ (k24 : Nat) (rest25 : List Int), (k24 ≤ x0.length ∧ x0.drop k24 = rest25) ∧ rest25.length = g ∧ forL fl22 rest25 k24 () = some o18 ∧ Sk a 19 [(8, .int .i64 (k24 : Int)), (0, v0), (1, .func (.func g1) #[] lb1.toArray), (7, .int .i64 (x0.length : Int))] ∧ Sep [] B w0 w []) x0.length ?_ ?_
  ·
   exact ⟨0, x0, ⟨Nat.zero_le _, rfl⟩, rfl, hR, F.sub (sc rfl (sc rfl (sc rfl (sc rfl sn)))), H⟩
  intro g27 a w ⟨k24, rest25, hd28, hg29, hR, F, H⟩
  cases rest25 with
  | nil =>
   replace hR := forL_nil hR
   have hkk24 := drop_nil hd28.1 hd28.2
   have hlk24 := dec_no hkk24
   refine x_seq (x_reg (o_lss F rfl rfl rfl fun a F => x_end (x_tn (x_seq (x_ifF F rfl hlk24 (x_exit (x_te (x_te (x_be ?_)))))))))
   refine x_tn ?_
   exact ⟨(Option.some.inj hR).symm, F.sub sn, H⟩
  | cons x26 rest25 =>
   subst hg29
   replace hd28 := drop_cons hd28.2
   have hxk24 := ix_nat hd28.2.1
   obtain ⟨ck24, hR, hn21⟩ := forL_cons hR
   rw [hf23] at hR
   have hlk24 := dec_yes hd28.1
   refine x_seq (x_reg (o_lss F rfl rfl rfl fun a F => x_end (x_tn (x_seq (x_ifT F rfl hlk24 (x_skip (x_tn (x_seq ?_))))))))
   have ikk24 := k64 (Nat.le_of_lt hd28.1) i11
   have ink24 := inc64 hd28.1 i11
   refine x_blk (x_seq (x_reg (o_move F rfl rfl fun a F => o_assign F rfl rfl fun a F => x_end (x_tn (x_seq (x_reg (o_move F rfl rfl fun a F => o_move F rfl rfl (fun a F => ?_))))))))
   refine o_move F rfl rfl fun a F => oI Tryz.underlying42 Tryz.sizeOf2 F rfl rfl rfl A0 hxk24 fun a p30 h31 F => olI Tryz.isAgg2 F rfl rfl H.sm h31 (fun a i32 F => ?_)
   obtain ⟨z33, c34, hR⟩ := bnd_some hR
   refine oKV F rfl rfl hg1 rfl H (hp1 _ z33 c34 _ H.bl i32) fun a w H F => x_end (x_tn (x_if F rfl (fun hb35 => ?_) (fun hb35 => ?_)))
   ·
    replace hR := ifT hb35 hR
    refine x_seq (x_reg (o_move F rfl rfl fun a F => o_assign F rfl rfl fun a F => x_end (x_tn (x_ret (x_br (x_tr (x_tr ?_)))))))
    replace hR := l_ret hR hn21
    refine x_br (x_tr ?_)
    replace hR := j_ret hR hk19
    refine x_tr (x_res1 F rfl (rv_t F rfl) ?_)
    obtain rfl := Option.some.inj hR
    exact ⟨⟨rfl, H.bl⟩, ikk24⟩
   replace hR := ifF hb35 hR
   refine x_skip (x_bn (x_tn (x_reg (o_inc F rfl rfl rfl ink24 fun a F => o_move F rfl rfl fun a F => x_end (x_tn ?_)))))
   replace hR := l_go hR hn21
   exact ⟨_, Nat.lt_succ_self _, k24 + 1, rest25, ⟨hd28.1, hd28.2.2⟩, rfl, hR, F.sub (sc rfl (sc rfl (sc rfl (sc rfl sn)))), H⟩
 intro a w ⟨ho20, F, H⟩
 subst ho20
 have hR := then_nx hk19
 refine x_tn (x_seq (x_reg (o_assign F rfl rfl fun a F => x_end (x_tn (x_ret (x_res1 F rfl (rv_t F rfl) ?_))))))
 obtain rfl := Option.some.inj hR
 exact ⟨⟨rfl, H.bl⟩, (show I64 (-1) by decide)⟩

def slices_ContainsFunc_s_int64_int64 (x0 : List Int) (x1 : Int → Option Bool) : Option Bool :=
 bnd (slices_IndexFunc_s_int64_int64 x0 x1) fun z11 =>
 some ((decide (0 ≤ z11)))
set_option maxHeartbeats 1000000 in
theorem slices_ContainsFunc_s_int64_int64_c {B : Nat → Prop} {x0 : List Int} {x1 : Int → Option Bool} (r : Bool) (hR : slices_ContainsFunc_s_int64_int64 x0 x1 = some r) {v0 : Value} {g1 : FuncId} {lb1 : List Value} (w0 : World) (hN : ∀ c, B c → c < w0.heap.size) (A0 : Bo B w0 (Sl 1 RInt) v0 x0) (hg1 : ∀ args w, (callFunc g1 args).run Tryz.prog w = .ok (.enter g1 args) w) (hp1 : ∀ (a0 : Int) (r : Bool), x1 a0 = some r → ∀ W, Below w0.heap.size w0 W → I64 a0 → Calls Tryz.prog g1 ([.int .i64 a0] ++ lb1 : List Value).toArray W (Says (.bool r) W)) : Calls Tryz.prog 135 #[v0, .func (.func g1) #[] lb1.toArray] w0 (Says (.bool r) w0) := by
 unfold slices_ContainsFunc_s_int64_int64 at hR
 refine x_enter (L := [(0, v0), (1, .func (.func g1) #[] lb1.toArray)]) Tryz.func135 rfl rfl rfl (sc rfl (sc rfl sn)) (fun a F => ?_)
 have H := Sep.start hN
 refine x_seq (x_reg (o_assign F rfl rfl fun a F => x_end (x_tn (x_seq (x_reg (o_move F rfl rfl fun a F => o_move F rfl rfl (fun a F => ?_)))))))
 obtain ⟨z11, c12, hR⟩ := bnd_some hR
 refine oKI F rfl Tryz.call160 rfl H (slices_IndexFunc_s_int64_int64_c z11 c12 _ aA (H.a A0) hg1 (fun a0 r h W l1 => hp1 a0 r h W (H.bl.trans (l1.mono H.fr.size)))) fun a w H iz11 F => o_geq F rfl rfl rfl fun a F => o_assign F rfl rfl fun a F => x_end (x_tn (x_ret (x_res1 F rfl (rv_t F rfl) ?_)))
 obtain rfl := Option.some.inj hR
 exact ⟨rfl, H.bl⟩

def impl_areValues (x0 : Int) (x1 : List Int) (x2 : Int) : Option Bool :=
 thn (σ := Bool) (
  if ((x1.length : Int) == x2) then  bnd (slices_ContainsFunc_s_int64_int64 x1 (fun a0 => impl_areValues_1 a0 x0)) fun z22 =>
   some (.nx (!z22)) else  some (.nx false)) fun s19 =>
 some s19
set_option maxHeartbeats 1000000 in
theorem impl_areValues_c {B : Nat → Prop} {x0 : Int} {x1 : List Int} {x2 : Int} (r : Bool) (hR : impl_areValues x0 x1 x2 = some r) {v1 : Value} (w0 : World) (hN : ∀ c, B c → c < w0.heap.size) (hx0 : I64 x0) (A1 : Bo B w0 (Sl 1 RInt) v1 x1) (hx2 : I64 x2) : Calls Tryz.prog 75 #[.int .i64 x0, v1, .int .i64 x2] w0 (Says (.bool r) w0) := by
 unfold impl_areValues at hR
 refine x_enter (L := [(0, .int .i64 x0), (1, v1), (2, .int .i64 x2)]) Tryz.func75 rfl rfl rfl (sc rfl (sc rfl (sc rfl sn))) (fun a F => ?_)
 have H := Sep.start hN
 refine x_seq (x_reg (oX F rfl rfl rfl H fun a w b11 H F => o_assign F rfl rfl fun a F => x_end (x_tn (x_seq ?_))))
 obtain ⟨o16, hR, hk17⟩ := thn_some hR
 refine x_cutQ (fun a w => ∃ (s19 : Bool), o16 = .nx s19 ∧ Sk a 17 [(6, .bool s19)] ∧ Sep [] B w0 w []) ?_ ?_
 ·
  refine x_reg (o_move F rfl rfl fun a F => oL Tryz.underlying42 F rfl rfl A1 fun a i20 F => o_move F rfl rfl fun a F => o_eql F rfl rfl rfl fun a F => o_move F rfl rfl (fun a F => ?_))
  rcases bcases ((x1.length : Int) == x2) with hb21 | hb21
  ·
   replace hR := ifT hb21 hR
   have F := F.eq (t := 11) rfl (congrArg Value.bool hb21)
   refine o_move F rfl rfl fun a F => o_func F rfl rfl rfl (fun a F => ?_)
   obtain ⟨z22, c23, hR⟩ := bnd_some hR
   refine oK F rfl Tryz.call135 rfl H (slices_ContainsFunc_s_int64_int64_c z22 c23 _ aA (H.a A1) Tryz.call136 (fun a0 r h W l1 f0 => impl_areValues_1_c r h W aA f0 ((c1I (H.g 0 rfl).bk hx0).w l1))) fun a w H F => o_not F rfl rfl fun a F => o_pickt F rfl rfl rfl fun a F => o_assign F rfl rfl fun a F => x_end (x_tn ?_)
   exact ⟨(!z22), (Option.some.inj hR).symm, F.sub (sc rfl sn), (H.s [] rfl rfl)⟩
  replace hR := ifF hb21 hR
  have F := F.eq (t := 11) rfl (congrArg Value.bool hb21)
  refine o_no F rfl rfl fun a F => o_no F rfl rfl fun a F => o_no F rfl rfl fun a F => o_no F rfl rfl fun a F => o_pickf F rfl rfl rfl fun a F => o_assign F rfl rfl fun a F => x_end (x_tn ?_)
  exact ⟨false, (Option.some.inj hR).symm, F.sub (sc rfl sn), (H.s [] rfl rfl)⟩
 intro a w ⟨s19, ho18, F, H⟩
 subst ho18
 have hR := then_nx hk17
 refine x_tn (x_ret (x_res1 F rfl (rv_t F rfl) ?_))
 obtain rfl := Option.some.inj hR
 exact ⟨rfl, H.bl⟩

def cmp_isNaN_int64 (x0 : Int) : Option Bool :=
 some ((x0 != x0))
set_option maxHeartbeats 1000000 in
theorem cmp_isNaN_int64_c {B : Nat → Prop} {x0 : Int} (r : Bool) (hR : cmp_isNaN_int64 x0 = some r)  (w0 : World) (hN : ∀ c, B c → c < w0.heap.size) (hx0 : I64 x0) : Calls Tryz.prog 252 #[.int .i64 x0] w0 (Says (.bool r) w0) := by
 unfold cmp_isNaN_int64 at hR
 refine x_enter (L := [(0, .int .i64 x0)]) Tryz.func252 rfl rfl rfl (sc rfl sn) (fun a F => ?_)
 have H := Sep.start hN
 refine x_seq (x_reg (o_assign F rfl rfl fun a F => x_end (x_tn (x_seq (x_reg (o_move F rfl rfl fun a F => o_move F rfl rfl fun a F => o_neq F rfl rfl rfl fun a F => o_assign F rfl rfl (fun a F => ?_)))))))
 refine x_end (x_tn (x_ret (x_res1 F rfl (rv_t F rfl) ?_)))
 obtain rfl := Option.some.inj hR
 exact ⟨rfl, H.bl⟩

def cmp_Compare_int64 (x0 : Int) (x1 : Int) : Option Int :=
 bnd (cmp_isNaN_int64 x0) fun z11 =>
 bnd (cmp_isNaN_int64 x1) fun z13 =>
 if z11 then
  if z13 then
   some 0
  else
   some ((-1))
 else
  if z13 then
   some 1
  else
   if (decide (x0 < x1)) then
    some ((-1))
   else
    if (decide (x1 < x0)) then
     some 1
    else
     some 0
set_option maxHeartbeats 1000000 in
theorem cmp_Compare_int64_c {B : Nat → Prop} {x0 : Int} {x1 : Int} (r : Int) (hR : cmp_Compare_int64 x0 x1 = some r)  (w0 : World) (hN : ∀ c, B c → c < w0.heap.size) (hx0 : I64 x0) (hx1 : I64 x1) : Calls Tryz.prog 227 #[.int .i64 x0, .int .i64 x1] w0 (SaysI r w0) := by
 unfold cmp_Compare_int64 at hR
 refine x_enter (L := [(0, .int .i64 x0), (1, .int .i64 x1)]) Tryz.func227 rfl rfl rfl (sc rfl (sc rfl sn)) (fun a F => ?_)
 have H := Sep.start hN
 refine x_seq (x_reg (o_assign F rfl rfl fun a F => x_end (x_tn (x_seq (x_reg (o_move F rfl rfl (fun a F => ?_)))))))
 obtain ⟨z11, c12, hR⟩ := bnd_some hR
 refine oK F rfl Tryz.call252 rfl H (cmp_isNaN_int64_c z11 c12 _ aA hx0) fun a w H F => o_assign F rfl rfl fun a F => x_end (x_tn (x_seq (x_reg (o_move F rfl rfl (fun a F => ?_)))))
 obtain ⟨z13, c14, hR⟩ := bnd_some hR
 refine oK F rfl Tryz.call252 rfl H (cmp_isNaN_int64_c z13 c14 _ aA hx1) fun a w H F => o_assign F rfl rfl fun a F => x_end (x_tn (x_seq (x_seq (x_reg (o_move F rfl rfl fun a F => x_end (x_tn (x_if F rfl (fun hb15 => ?_) (fun hb15 => ?_))))))))
 ·
  replace hR := ifT hb15 hR
  refine x_seq (x_seq (x_reg (o_move F rfl rfl fun a F => x_end (x_tn (x_if F rfl (fun hb16 => ?_) (fun hb16 => ?_))))))
  ·
   replace hR := ifT hb16 hR
   refine x_seq (x_reg (o_assign F rfl rfl fun a F => x_end (x_tn (x_ret (x_tr (x_tr (x_res1 F rfl (rv_t F rfl) ?_)))))))
   obtain rfl := Option.some.inj hR
   exact ⟨⟨rfl, H.bl⟩, (show I64 (0) by decide)⟩
  replace hR := ifF hb16 hR
  refine x_skip (x_tn (x_seq (x_reg (o_assign F rfl rfl fun a F => x_end (x_tn (x_ret (x_tr (x_res1 F rfl (rv_t F rfl) ?_))))))))
  obtain rfl := Option.some.inj hR
  exact ⟨⟨rfl, H.bl⟩, (show I64 (-1) by decide)⟩
 replace hR := ifF hb15 hR
 refine x_skip (x_tn (x_seq (x_seq (x_reg (o_move F rfl rfl fun a F => x_end (x_tn (x_if F rfl (fun hb17 => ?_) (fun hb17 => ?_))))))))
 ·
  replace hR := ifT hb17 hR
  refine x_seq (x_reg (o_assign F rfl rfl fun a F => x_end (x_tn (x_ret (x_tr (x_res1 F rfl (rv_t F rfl) ?_))))))
  obtain rfl := Option.some.inj hR
  exact ⟨⟨rfl, H.bl⟩, (show I64 (1) by decide)⟩
 replace hR := ifF hb17 hR
 refine x_skip (x_tn (x_seq (x_seq (x_reg (o_move F rfl rfl fun a F => o_move F rfl rfl fun a F => o_lss F rfl rfl rfl fun a F => x_end (x_tn (x_if F rfl (fun hb18 => ?_) (fun hb18 => ?_))))))))
 ·
  replace hR := ifT hb18 hR
  refine x_seq (x_reg (o_assign F rfl rfl fun a F => x_end (x_tn (x_ret (x_tr (x_res1 F rfl (rv_t F rfl) ?_))))))
  obtain rfl := Option.some.inj hR
  exact ⟨⟨rfl, H.bl⟩, (show I64 (-1) by decide)⟩
 replace hR := ifF hb18 hR
 refine x_skip (x_tn (x_seq (x_seq (x_reg (o_move F rfl rfl fun a F => o_move F rfl rfl fun a F => o_gtr F rfl rfl rfl fun a F => x_end (x_tn (x_if F rfl (fun hb19 => ?_) (fun hb19 => ?_))))))))
 ·
  replace hR := ifT hb19 hR
  refine x_seq (x_reg (o_assign F rfl rfl fun a F => x_end (x_tn (x_ret (x_tr (x_res1 F rfl (rv_t F rfl) ?_))))))
  obtain rfl := Option.some.inj hR
  exact ⟨⟨rfl, H.bl⟩, (show I64 (1) by decide)⟩
 replace hR := ifF hb19 hR
 refine x_skip (x_tn (x_seq (x_reg (o_assign F rfl rfl fun a F => x_end (x_tn (x_ret (x_res1 F rfl (rv_t F rfl) ?_)))))))
 obtain rfl := Option.some.inj hR
 exact ⟨⟨rfl, H.bl⟩, (show I64 (0) by decide)⟩

def slices_Compare_s_int64_int64 (x0 : List Int) (x1 : List Int) : Option Int :=
 thn (σ := Unit) (
  forL (σ := Unit) (ρ := Int) (fun (k31 : Nat) (x33 : Int) (s : Unit) =>
    match s with
    | _ =>
    if (decide ((x1.length : Int) ≤ (k31 : Int))) then
     some (.ret 1)
    else
     bnd (ix x1 (k31 : Int)) fun z42 =>
     bnd (cmp_Compare_int64 x33 z42) fun z47 =>
     if (z47 != 0) then
      some (.ret z47)
     else
      some (.go ())) x0 0 ()) fun _ =>
 if (decide ((x0.length : Int) < (x1.length : Int))) then
  some ((-1))
 else
  some 0
set_option maxHeartbeats 1000000 in
theorem slices_Compare_s_int64_int64_c {B : Nat → Prop} {x0 : List Int} {x1 : List Int} (r : Int) (hR : slices_Compare_s_int64_int64 x0 x1 = some r) {v0 : Value} {v1 : Value} (w0 : World) (hN : ∀ c, B c → c < w0.heap.size) (A0 : Bo B w0 (Sl 1 RInt) v0 x0) (A1 : Bo B w0 (Sl 1 RInt) v1 x1) : Calls Tryz.prog 187 #[v0, v1] w0 (SaysI r w0) := by
 unfold slices_Compare_s_int64_int64 at hR
 refine x_enter (L := [(0, v0), (1, v1)]) Tryz.func187 rfl rfl rfl (sc rfl (sc rfl sn)) (fun a F => ?_)
 have H := Sep.start hN
 refine x_seq (x_reg (o_assign F rfl rfl fun a F => x_end (x_tn (x_seq (x_seq (x_reg (o_move F rfl rfl fun a F => oL Tryz.underlying42 F rfl rfl A0 fun a i11 F => o_move F rfl rfl (fun a F => ?_))))))))
 refine x_end (x_tn ?_)
 obtain ⟨o25, hR, hk26⟩ := thn_some hR
 refine x_cutQ (fun a w => o25 = .nx () ∧ Sk a 36 [(0, v0), (1, v1)] ∧ Sep [] B w0 w []) ?_ ?_
 ·
  refine x_blk ?_
  obtain ⟨fl29, hf30, hR⟩ := forL_gen hR
  refine x_loop (fun g a w => ∃ (k31 : Nat) (rest32 : List Int), (k31 ≤ x0.length ∧ x0.drop k31 = rest32) ∧ rest32.length = g ∧ forL fl29 rest32 k31 () = some o25 ∧ Sk a 36 [(11, .int .i64 (k31 : Int)), (0, v0), (1, v1), (9, v0), (10, .int .i64 (x0.length : Int))] ∧ Sep [] B w0 w []) x0.length ?_ ?_
  ·
   exact ⟨0, x0, ⟨Nat.zero_le _, rfl⟩, rfl, hR, F.sub (sc rfl (sc rfl (sc rfl (sc rfl (sc rfl sn))))), H⟩
  intro g34 a w ⟨k31, rest32, hd35, hg36, hR, F, H⟩
  cases rest32 with
  | nil =>
   replace hR := forL_nil hR
   have hkk31 := drop_nil hd35.1 hd35.2
   have hlk31 := dec_no hkk31
   refine x_seq (x_reg (o_lss F rfl rfl rfl fun a F => x_end (x_tn (x_seq (x_ifF F rfl hlk31 (x_exit (x_te (x_te (x_be ?_)))))))))
   refine x_tn ?_
   exact ⟨(Option.some.inj hR).symm, F.sub (sc rfl (sc rfl sn)), H⟩
  | cons x33 rest32 =>
   subst hg36
   replace hd35 := drop_cons hd35.2
   have hxk31 := ix_nat hd35.2.1
   obtain ⟨ck31, hR, hn28⟩ := forL_cons hR
   rw [hf30] at hR
   have hlk31 := dec_yes hd35.1
   refine x_seq (x_reg (o_lss F rfl rfl rfl fun a F => x_end (x_tn (x_seq (x_ifT F rfl hlk31 (x_skip (x_tn (x_seq ?_))))))))
   have ikk31 := k64 (Nat.le_of_lt hd35.1) i11
   have ink31 := inc64 hd35.1 i11
   refine x_blk (x_seq (x_reg (o_move F rfl rfl fun a F => oI Tryz.underlying42 Tryz.sizeOf2 F rfl rfl rfl A0 hxk31 fun a p37 h38 F => olI Tryz.isAgg2 F rfl rfl H.sm h38 fun a i39 F => o_assign F rfl rfl fun a F => o_assign F rfl rfl fun a F => x_end (x_tn (x_seq ?_)))))
   refine x_seq (x_reg (o_move F rfl rfl fun a F => o_move F rfl rfl fun a F => oL Tryz.underlying42 F rfl rfl A1 fun a i40 F => o_geq F rfl rfl rfl fun a F => x_end (x_tn (x_if F rfl (fun hb41 => ?_) (fun hb41 => ?_)))))
   ·
    replace hR := ifT hb41 hR
    refine x_seq (x_reg (o_assign F rfl rfl fun a F => x_end (x_tn (x_ret (x_tr (x_br (x_tr (x_tr ?_))))))))
    replace hR := l_ret hR hn28
    refine x_br (x_tr ?_)
    replace hR := j_ret hR hk26
    refine x_tr (x_res1 F rfl (rv_t F rfl) ?_)
    obtain rfl := Option.some.inj hR
    exact ⟨⟨rfl, H.bl⟩, (show I64 (1) by decide)⟩
   replace hR := ifF hb41 hR
   refine x_skip (x_tn (x_seq (x_reg (o_move F rfl rfl fun a F => o_move F rfl rfl (fun a F => ?_)))))
   obtain ⟨z42, c43, hR⟩ := bnd_some hR
   refine oI Tryz.underlying42 Tryz.sizeOf2 F rfl rfl rfl A1 c43 fun a p44 h45 F => olI Tryz.isAgg2 F rfl rfl H.sm h45 fun a i46 F => o_assign F rfl rfl fun a F => x_end (x_tn (x_seq (x_reg (o_move F rfl rfl fun a F => o_move F rfl rfl (fun a F => ?_)))))
   obtain ⟨z47, c48, hR⟩ := bnd_some hR
   refine oKI F rfl Tryz.call227 rfl H (cmp_Compare_int64_c z47 c48 _ aA i39 i46) fun a w H iz47 F => o_assign F rfl rfl fun a F => x_end (x_tn (x_seq (x_reg (o_move F rfl rfl fun a F => o_neq F rfl rfl rfl fun a F => x_end (x_tn (x_if F rfl (fun hb49 => ?_) (fun hb49 => ?_)))))))
   ·
    replace hR := ifT hb49 hR
    refine x_seq (x_reg (o_move F rfl rfl fun a F => o_assign F rfl rfl fun a F => x_end (x_tn (x_ret (x_br (x_tr (x_tr ?_)))))))
    replace hR := l_ret hR hn28
    refine x_br (x_tr ?_)
    replace hR := j_ret hR hk26
    refine x_tr (x_res1 F rfl (rv_t F rfl) ?_)
    obtain rfl := Option.some.inj hR
    exact ⟨⟨rfl, H.bl⟩, iz47⟩
   replace hR := ifF hb49 hR
   refine x_skip (x_bn (x_tn (x_reg (o_inc F rfl rfl rfl ink31 fun a F => o_move F rfl rfl fun a F => x_end (x_tn ?_)))))
   replace hR := l_go hR hn28
   exact ⟨_, Nat.lt_succ_self _, k31 + 1, rest32, ⟨hd35.1, hd35.2.2⟩, rfl, hR, F.sub (sc rfl (sc rfl (sc rfl (sc rfl (sc rfl sn))))), H⟩
 intro a w ⟨ho27, F, H⟩
 subst ho27
 have hR := then_nx hk26
 refine x_tn (x_seq (x_seq (x_reg (o_move F rfl rfl fun a F => oL Tryz.underlying42 F rfl rfl A0 fun a i50 F => o_move F rfl rfl fun a F => oL Tryz.underlying42 F rfl rfl A1 fun a i51 F => o_lss F rfl rfl rfl fun a F => x_end (x_tn ?_)))))
 refine x_if F rfl (fun hb52 => ?_) (fun hb52 => ?_)
 ·
  replace hR := ifT hb52 hR
  refine x_seq (x_reg (o_assign F rfl rfl fun a F => x_end (x_tn (x_ret (x_tr (x_res1 F rfl (rv_t F rfl) ?_))))))
  obtain rfl := Option.some.inj hR
  exact ⟨⟨rfl, H.bl⟩, (show I64 (-1) by decide)⟩
 replace hR := ifF hb52 hR
 refine x_skip (x_tn (x_seq (x_reg (o_assign F rfl rfl fun a F => x_end (x_tn (x_ret (x_res1 F rfl (rv_t F rfl) ?_)))))))
 obtain rfl := Option.some.inj hR
 exact ⟨⟨rfl, H.bl⟩, (show I64 (0) by decide)⟩

def impl_ValidRel (x0 : Int) (x1 : Rel) : Option Bool :=
 thn (σ := Bool) (
  bnd (impl_isSize x0) fun z24 =>
  if (!z24) then  some (.nx true) else  bnd (impl_isArity x1.arity) fun z27 =>
   some (.nx (!z27))) fun s23 =>
 if s23 then
  some false
 else
  thn (σ := Unit) (
   forL (σ := Unit) (ρ := Bool) (fun (k74 : Nat) (x76 : (List Int)) (s : Unit) =>
     match s with
     | _ =>
     thn (σ := Bool) (
      bnd (impl_areValues x0 x76 x1.arity) fun z102 =>
      if (!z102) then  some (.nx true) else  if (decide (0 < (k74 : Int))) then  bnd (ck ((k74 : Int) - 1)) fun z106 =>
        bnd (ix x1.tuples z106) fun z108 =>
        bnd (slices_Compare_s_int64_int64 z108 x76) fun z114 =>
        some (.nx (decide (0 ≤ z114))) else  some (.nx false)) fun s101 =>
     if s101 then
      some (.ret false)
     else
      some (.go ())) x1.tuples 0 ()) fun _ =>
  some true
set_option maxHeartbeats 1000000 in
theorem impl_ValidRel_c {B : Nat → Prop} {x0 : Int} {x1 : Rel} (r : Bool) (hR : impl_ValidRel x0 x1 = some r) {v1 : Value} (w0 : World) (hN : ∀ c, B c → c < w0.heap.size) (hx0 : I64 x0) (A1 : Bo B w0 (Agg 2 RRel) v1 x1) : Calls Tryz.prog 176 #[.int .i64 x0, v1] w0 (Says (.bool r) w0) := by
 unfold impl_ValidRel at hR
 refine x_enter (L := [(0, .int .i64 x0), (1, v1)]) Tryz.func176 rfl rfl rfl (sc rfl (sc rfl sn)) (fun a F => ?_)
 have H := Sep.start hN
 refine x_seq (x_reg ?_)
 obtain ⟨v12, rfl, i11, h13⟩ := RRel.o A1
 refine oX F rfl rfl rfl H fun a w b14 H F => o_assign F rfl rfl fun a F => x_end (x_tn (x_seq (x_seq ?_)))
 obtain ⟨o20, hR, hk21⟩ := thn_some hR
 refine x_cutQ (fun a w => ∃ (s23 : Bool), o20 = .nx s23 ∧ Sk a 46 [(0, .int .i64 x0), (3, .pointer (some ⟨b14, 0, none⟩)), (15, .bool s23)] ∧ Sep [] B w0 w [bx b14 [.int .i64 x1.arity, v12] 84]) ?_ ?_
 ·
  refine x_reg (o_move F rfl rfl (fun a F => ?_))
  obtain ⟨z24, c25, hR⟩ := bnd_some hR
  refine oK F rfl Tryz.call174 rfl H (impl_isSize_c z24 c25 _ aA hx0) fun a w H F => o_not F rfl rfl fun a F => o_move F rfl rfl (fun a F => ?_)
  rcases bcases (!z24) with hb26 | hb26
  ·
   replace hR := ifT hb26 hR
   have F := F.eq (t := 10) rfl (congrArg Value.bool hb26)
   refine o_no F rfl rfl fun a F => o_no F rfl rfl fun a F => o_no F rfl rfl fun a F => o_no F rfl rfl fun a F => o_pickt F rfl rfl rfl fun a F => x_end (x_tn ?_)
   exact ⟨true, (Option.some.inj hR).symm, F.sub (sc rfl (sc rfl (sc rfl sn))), H⟩
  replace hR := ifF hb26 hR
  have F := F.eq (t := 10) rfl (congrArg Value.bool hb26)
  refine o_bfield fa84_0 F rfl rfl rfl fun a F => oB Tryz.isAgg2 F rfl rfl (H.b 0 rfl) rfl (fun a F => ?_)
  obtain ⟨z27, c28, hR⟩ := bnd_some hR
  refine oK F rfl Tryz.call225 rfl H (impl_isArity_c z27 c28 _ aA i11) fun a w H F => o_not F rfl rfl fun a F => o_pickf F rfl rfl rfl fun a F => x_end (x_tn ?_)
  exact ⟨(!z27), (Option.some.inj hR).symm, F.sub (sc rfl (sc rfl (sc rfl sn))), H⟩
 intro a w ⟨s23, ho22, F, H⟩
 subst ho22
 have hR := then_nx hk21
 refine x_tn (x_if F rfl (fun hb29 => ?_) (fun hb29 => ?_))
 ·
  replace hR := ifT hb29 hR
  refine x_seq (x_reg (o_assign F rfl rfl fun a F => x_end (x_tn (x_ret (x_tr (x_res1 F rfl (rv_t F rfl) ?_))))))
  obtain rfl := Option.some.inj hR
  exact ⟨rfl, H.bl⟩
 replace hR := ifF hb29 hR
 refine x_skip (x_tn (x_seq (x_seq (x_reg (o_bfield fa84_1 F rfl rfl rfl fun a F => oB Tryz.isAgg82 F rfl rfl (H.b 0 rfl) rfl fun a F => oL Tryz.underlying82 F rfl rfl h13 fun a i30 F => o_move F rfl rfl fun a F => x_end (x_tn ?_))))))
 obtain ⟨o68, hR, hk69⟩ := thn_some hR
 refine x_cutQ (fun a w => o68 = .nx () ∧ Sk a 46 [] ∧ Sep [] B w0 w []) ?_ ?_
 ·
  refine x_blk ?_
  obtain ⟨fl72, hf73, hR⟩ := forL_gen hR
  refine x_loop (fun g a w => ∃ (k74 : Nat) (rest75 : List (List Int)), (k74 ≤ x1.tuples.length ∧ x1.tuples.drop k74 = rest75) ∧ rest75.length = g ∧ forL fl72 rest75 k74 () = some o68 ∧ Sk a 46 [(19, .int .i64 (k74 : Int)), (0, .int .i64 x0), (3, .pointer (some ⟨b14, 0, none⟩)), (17, v12), (18, .int .i64 (x1.tuples.length : Int))] ∧ Sep [] B w0 w [bx b14 [.int .i64 x1.arity, v12] 84]) x1.tuples.length ?_ ?_
  ·
   exact ⟨0, x1.tuples, ⟨Nat.zero_le _, rfl⟩, rfl, hR, F.sub (sc rfl (sc rfl (sc rfl (sc rfl (sc rfl sn))))), H⟩
  intro g77 a w ⟨k74, rest75, hd78, hg79, hR, F, H⟩
  cases rest75 with
  | nil =>
   replace hR := forL_nil hR
   have hkk74 := drop_nil hd78.1 hd78.2
   have hlk74 := dec_no hkk74
   refine x_seq (x_reg (o_lss F rfl rfl rfl fun a F => x_end (x_tn (x_seq (x_ifF F rfl hlk74 (x_exit (x_te (x_te (x_be ?_)))))))))
   refine x_tn ?_
   exact ⟨(Option.some.inj hR).symm, F.sub sn, (H.s [] rfl rfl)⟩
  | cons x76 rest75 =>
   subst hg79
   replace hd78 := drop_cons hd78.2
   have hxk74 := ix_nat hd78.2.1
   obtain ⟨ck74, hR, hn71⟩ := forL_cons hR
   rw [hf73] at hR
   have hlk74 := dec_yes hd78.1
   refine x_seq (x_reg (o_lss F rfl rfl rfl fun a F => x_end (x_tn (x_seq (x_ifT F rfl hlk74 (x_skip (x_tn (x_seq ?_))))))))
   have ikk74 := k64 (Nat.le_of_lt hd78.1) i30
   have ink74 := inc64 hd78.1 i30
   refine x_blk (x_seq (x_reg (o_move F rfl rfl fun a F => oI Tryz.underlying82 Tryz.sizeOf42 F rfl rfl rfl h13 hxk74 fun a p80 h81 F => olS Tryz.isAgg42 F rfl rfl H.sm h81 fun a v82 h83 F => o_assign F rfl rfl fun a F => o_assign F rfl rfl fun a F => x_end (x_tn (x_seq ?_)))))
   obtain ⟨o98, hR, hk99⟩ := thn_some hR
   refine x_cutQ (fun a w => ∃ (s101 : Bool), o98 = .nx s101 ∧ Sk a 46 [(0, .int .i64 x0), (3, .pointer (some ⟨b14, 0, none⟩)), (17, v12), (18, .int .i64 (x1.tuples.length : Int)), (19, .int .i64 (k74 : Int)), (44, .bool s101)] ∧ Sep [] B w0 w [bx b14 [.int .i64 x1.arity, v12] 84]) ?_ ?_
   ·
    refine x_reg (o_move F rfl rfl fun a F => o_move F rfl rfl fun a F => o_bfield fa84_0 F rfl rfl rfl fun a F => oB Tryz.isAgg2 F rfl rfl (H.b 0 rfl) rfl (fun a F => ?_))
    obtain ⟨z102, c103, hR⟩ := bnd_some hR
    refine oK F rfl Tryz.call75 rfl H (impl_areValues_c z102 c103 _ aA hx0 (H.a h83) i11) fun a w H F => o_not F rfl rfl fun a F => o_move F rfl rfl (fun a F => ?_)
    rcases bcases (!z102) with hb104 | hb104
    ·
     replace hR := ifT hb104 hR
     have F := F.eq (t := 30) rfl (congrArg Value.bool hb104)
     refine o_no F rfl rfl fun a F => o_no F rfl rfl fun a F => o_no F rfl rfl fun a F => o_no F rfl rfl fun a F => o_no F rfl rfl fun a F => o_no F rfl rfl fun a F => o_no F rfl rfl fun a F => o_no F rfl rfl fun a F => o_no F rfl rfl fun a F => o_no F rfl rfl fun a F => o_no F rfl rfl (fun a F => ?_)
     refine o_no F rfl rfl fun a F => o_no F rfl rfl fun a F => o_pickt F rfl rfl rfl fun a F => x_end (x_tn ?_)
     exact ⟨true, (Option.some.inj hR).symm, F.sub (sc rfl (sc rfl (sc rfl (sc rfl (sc rfl (sc rfl sn)))))), H⟩
    replace hR := ifF hb104 hR
    have F := F.eq (t := 30) rfl (congrArg Value.bool hb104)
    refine o_move F rfl rfl fun a F => o_gtr F rfl rfl rfl fun a F => o_move F rfl rfl (fun a F => ?_)
    rcases bcases (decide (0 < (k74 : Int))) with hb105 | hb105
    ·
     replace hR := ifT hb105 hR
     have F := F.eq (t := 33) rfl (congrArg Value.bool hb105)
     refine o_bfield fa84_1 F rfl rfl rfl fun a F => oB Tryz.isAgg82 F rfl rfl (H.b 0 rfl) rfl fun a F => o_move F rfl rfl (fun a F => ?_)
     obtain ⟨z106, c107, hR⟩ := bnd_some hR
     refine o_sub F rfl rfl rfl c107 (fun a F => ?_)
     obtain ⟨z108, c109, hR⟩ := bnd_some hR
     refine oI Tryz.underlying82 Tryz.sizeOf42 F rfl rfl rfl h13 c109 fun a p110 h111 F => olS Tryz.isAgg42 F rfl rfl H.sm h111 fun a v112 h113 F => o_move F rfl rfl (fun a F => ?_)
     obtain ⟨z114, c115, hR⟩ := bnd_some hR
     refine oKI F rfl Tryz.call187 rfl H (slices_Compare_s_int64_int64_c z114 c115 _ aA (H.a h113) (H.a h83)) fun a w H iz114 F => o_geq F rfl rfl rfl fun a F => o_pickt F rfl rfl rfl fun a F => o_pickf F rfl rfl rfl fun a F => x_end (x_tn ?_)
     exact ⟨(decide (0 ≤ z114)), (Option.some.inj hR).symm, F.sub (sc rfl (sc rfl (sc rfl (sc rfl (sc rfl (sc rfl sn)))))), H⟩
    replace hR := ifF hb105 hR
    have F := F.eq (t := 33) rfl (congrArg Value.bool hb105)
    refine o_no F rfl rfl fun a F => o_no F rfl rfl fun a F => o_no F rfl rfl fun a F => o_no F rfl rfl fun a F => o_no F rfl rfl fun a F => o_no F rfl rfl fun a F => o_no F rfl rfl fun a F => o_no F rfl rfl fun a F => o_no F rfl rfl fun a F => o_pickf F rfl rfl rfl fun a F => o_pickf F rfl rfl rfl (fun a F => ?_)
    refine x_end (x_tn ?_)
    exact ⟨false, (Option.some.inj hR).symm, F.sub (sc rfl (sc rfl (sc rfl (sc rfl (sc rfl (sc rfl sn)))))), H⟩
   intro a w ⟨s101, ho100, F, H⟩
   subst ho100
   have hR := then_nx hk99
   refine x_tn (x_if F rfl (fun hb116 => ?_) (fun hb116 => ?_))
   ·
    replace hR := ifT hb116 hR
    refine x_seq (x_reg (o_assign F rfl rfl fun a F => x_end (x_tn (x_ret (x_br (x_tr (x_tr ?_)))))))
    replace hR := l_ret hR hn71
    refine x_br (x_tr ?_)
    replace hR := j_ret hR hk69
    refine x_tr (x_res1 F rfl (rv_t F rfl) ?_)
    obtain rfl := Option.some.inj hR
    exact ⟨rfl, H.bl⟩
   replace hR := ifF hb116 hR
   refine x_skip (x_bn (x_tn (x_reg (o_inc F rfl rfl rfl ink74 fun a F => o_move F rfl rfl fun a F => x_end (x_tn ?_)))))
   replace hR := l_go hR hn71
   exact ⟨_, Nat.lt_succ_self _, k74 + 1, rest75, ⟨hd78.1, hd78.2.2⟩, rfl, hR, F.sub (sc rfl (sc rfl (sc rfl (sc rfl (sc rfl sn))))), H⟩
 intro a w ⟨ho70, F, H⟩
 subst ho70
 have hR := then_nx hk69
 refine x_tn (x_seq (x_reg (o_assign F rfl rfl fun a F => x_end (x_tn (x_ret (x_res1 F rfl (rv_t F rfl) ?_))))))
 obtain rfl := Option.some.inj hR
 exact ⟨rfl, H.bl⟩

def impl_ValidTemplate_1 (x0 : Rel) (y0 : Template) : Option Bool :=
 bnd (impl_ValidRel y0.size (Rel.mk x0.arity x0.tuples)) fun z18 =>
 some ((!z18))
set_option maxHeartbeats 1000000 in
theorem impl_ValidTemplate_1_c {B : Nat → Prop} {x0 : Rel} {y0 : Template} (r : Bool) (hR : impl_ValidTemplate_1 x0 y0 = some r) {v0 : Value} {v1 : Value} (w0 : World) (hN : ∀ c, B c → c < w0.heap.size) (A0 : Bo B w0 (Agg 2 RRel) v0 x0) (A1 : Bo B w0 (Pt 2 RTemplate) v1 y0) : Calls Tryz.prog 175 #[v0, v1] w0 (Says (.bool r) w0) := by
 unfold impl_ValidTemplate_1 at hR
 refine x_enter (L := [(0, v0), (1, v1)]) Tryz.func175 rfl rfl rfl (sc rfl (sc rfl sn)) (fun a F => ?_)
 have H := Sep.start hN
 refine x_seq (x_reg ?_)
 obtain ⟨v12, rfl, i11, h13⟩ := RRel.o A0
 refine oX F rfl rfl rfl H fun a w b14 H F => o_assign F rfl rfl fun a F => x_end (x_tn (x_seq (x_reg (oF (s' := 1) fa33_0 F rfl rfl A1 RTemplate.f0 fun a p15 h16 F => olI Tryz.isAgg2 F rfl rfl H.sm h16 fun a i17 F => oBA Tryz.isAgg84 Tryz.sizeOf84 F rfl rfl (H.b 0 rfl) rfl rfl (fun a F => ?_)))))
 obtain ⟨z18, c19, hR⟩ := bnd_some hR
 refine oK F rfl Tryz.call176 rfl H (impl_ValidRel_c z18 c19 _ aA i17 (RRel.m i11 (H.a h13))) fun a w H F => o_not F rfl rfl fun a F => o_assign F rfl rfl fun a F => x_end (x_tn (x_ret (x_res1 F rfl (rv_t F rfl) ?_)))
 obtain rfl := Option.some.inj hR
 exact ⟨rfl, H.bl⟩

def slices_IndexFunc_s_Rel_Rel (x0 : List Rel) (x1 : Rel → Option Bool) : Option Int :=
 thn (σ := Unit) (
  forL (σ := Unit) (ρ := Int) (fun (k25 : Nat) (x27 : Rel) (s : Unit) =>
    match s with
    | _ =>
    bnd (x1 x27) fun z35 =>
    if z35 then
     some (.ret ((k25 : Int)))
    else
     some (.go ())) x0 0 ()) fun _ =>
 some ((-1))
set_option maxHeartbeats 1000000 in
theorem slices_IndexFunc_s_Rel_Rel_c {B : Nat → Prop} {x0 : List Rel} {x1 : Rel → Option Bool} (r : Int) (hR : slices_IndexFunc_s_Rel_Rel x0 x1 = some r) {v0 : Value} {g1 : FuncId} {lb1 : List Value} (w0 : World) (hN : ∀ c, B c → c < w0.heap.size) (A0 : Bo B w0 (Sl 2 RRel) v0 x0) (hg1 : ∀ args w, (callFunc g1 args).run Tryz.prog w = .ok (.enter g1 args) w) (hp1 : ∀ (a0 : Rel) (r : Bool), x1 a0 = some r → ∀ W, Below w0.heap.size w0 W → ∀ (u0 : Value), Bo (All W) W (Agg 2 RRel) u0 a0 → Calls Tryz.prog g1 ([u0] ++ lb1 : List Value).toArray W (Says (.bool r) W)) : Calls Tryz.prog 154 #[v0, .func (.func g1) #[] lb1.toArray] w0 (SaysI r w0) := by
 unfold slices_IndexFunc_s_Rel_Rel at hR
 refine x_enter (L := [(0, v0), (1, .func (.func g1) #[] lb1.toArray)]) Tryz.func154 rfl rfl rfl (sc rfl (sc rfl sn)) (fun a F => ?_)
 have H := Sep.start hN
 refine x_seq (x_reg (o_assign F rfl rfl fun a F => x_end (x_tn (x_seq (x_seq (x_reg (o_move F rfl rfl fun a F => oL Tryz.underlying31 F rfl rfl A0 fun a i11 F => o_move F rfl rfl (fun a F => ?_))))))))
 refine x_end (x_tn ?_)
 obtain ⟨o19, hR, hk20⟩ := thn_some hR
 refine x_cutQ (fun a w => o19 = .nx () ∧ Sk a 19 [] ∧ Sep [] B w0 w []) ?_ ?_
 ·
  refine x_blk ?_
  obtain ⟨fl23, hf24, hR⟩ := forL_gen hR
  refine x_loop (fun g a w => ∃ (k25 : Nat) (rest26 : List Rel), (k25 ≤ x0.length ∧ x0.drop k25 = rest26) ∧ rest26.length = g ∧ forL fl23 rest26 k25 () = some o19 ∧ Sk a 19 [(8, .int .i64 (k25 : Int)), (0, v0), (1, .func (.func g1) #[] lb1.toArray), (7, .int .i64 (x0.length : Int))] ∧ Sep [] B w0 w []) x0.length ?_ ?_
  ·
   exact ⟨0, x0, ⟨Nat.zero_le _, rfl⟩, rfl, hR, F.sub (sc rfl (sc rfl (sc rfl (sc rfl sn)))), H⟩
  intro g28 a w ⟨k25, rest26, hd29, hg30, hR, F, H⟩
  cases rest26 with
  | nil =>
   replace hR := forL_nil hR
   have hkk25 := drop_nil hd29.1 hd29.2
   have hlk25 := dec_no hkk25
   refine x_seq (x_reg (o_lss F rfl rfl rfl fun a F => x_end (x_tn (x_seq (x_ifF F rfl hlk25 (x_exit (x_te (x_te (x_be ?_)))))))))
   refine x_tn ?_
   exact ⟨(Option.some.inj hR).symm, F.sub sn, H⟩
  | cons x27 rest26 =>
   subst hg30
   replace hd29 := drop_cons hd29.2
   have hxk25 := ix_nat hd29.2.1
   obtain ⟨ck25, hR, hn22⟩ := forL_cons hR
   rw [hf24] at hR
   have hlk25 := dec_yes hd29.1
   refine x_seq (x_reg (o_lss F rfl rfl rfl fun a F => x_end (x_tn (x_seq (x_ifT F rfl hlk25 (x_skip (x_tn (x_seq ?_))))))))
   have ikk25 := k64 (Nat.le_of_lt hd29.1) i11
   have ink25 := inc64 hd29.1 i11
   refine x_blk (x_seq (x_reg (o_move F rfl rfl fun a F => o_assign F rfl rfl fun a F => x_end (x_tn (x_seq (x_reg (o_move F rfl rfl fun a F => o_move F rfl rfl (fun a F => ?_))))))))
   refine o_move F rfl rfl fun a F => oI Tryz.underlying31 Tryz.sizeOf84 F rfl rfl rfl A0 hxk25 fun a p31 h32 F => olA Tryz.isAgg84 Tryz.sizeOf84 F rfl rfl H.sm h32 (fun a v33 h34 F => ?_)
   obtain ⟨z35, c36, hR⟩ := bnd_some hR
   refine oKV F rfl rfl hg1 rfl H (hp1 _ z35 c36 _ H.bl _ (H.a h34)) fun a w H F => x_end (x_tn (x_if F rfl (fun hb37 => ?_) (fun hb37 => ?_)))
   ·
    replace hR := ifT hb37 hR
    refine x_seq (x_reg (o_move F rfl rfl fun a F => o_assign F rfl rfl fun a F => x_end (x_tn (x_ret (x_br (x_tr (x_tr ?_)))))))
    replace hR := l_ret hR hn22
    refine x_br (x_tr ?_)
    replace hR := j_ret hR hk20
    refine x_tr (x_res1 F rfl (rv_t F rfl) ?_)
    obtain rfl := Option.some.inj hR
    exact ⟨⟨rfl, H.bl⟩, ikk25⟩
   replace hR := ifF hb37 hR
   refine x_skip (x_bn (x_tn (x_reg (o_inc F rfl rfl rfl ink25 fun a F => o_move F rfl rfl fun a F => x_end (x_tn ?_)))))
   replace hR := l_go hR hn22
   exact ⟨_, Nat.lt_succ_self _, k25 + 1, rest26, ⟨hd29.1, hd29.2.2⟩, rfl, hR, F.sub (sc rfl (sc rfl (sc rfl (sc rfl sn)))), H⟩
 intro a w ⟨ho21, F, H⟩
 subst ho21
 have hR := then_nx hk20
 refine x_tn (x_seq (x_reg (o_assign F rfl rfl fun a F => x_end (x_tn (x_ret (x_res1 F rfl (rv_t F rfl) ?_))))))
 obtain rfl := Option.some.inj hR
 exact ⟨⟨rfl, H.bl⟩, (show I64 (-1) by decide)⟩

def slices_ContainsFunc_s_Rel_Rel (x0 : List Rel) (x1 : Rel → Option Bool) : Option Bool :=
 bnd (slices_IndexFunc_s_Rel_Rel x0 x1) fun z11 =>
 some ((decide (0 ≤ z11)))
set_option maxHeartbeats 1000000 in
theorem slices_ContainsFunc_s_Rel_Rel_c {B : Nat → Prop} {x0 : List Rel} {x1 : Rel → Option Bool} (r : Bool) (hR : slices_ContainsFunc_s_Rel_Rel x0 x1 = some r) {v0 : Value} {g1 : FuncId} {lb1 : List Value} (w0 : World) (hN : ∀ c, B c → c < w0.heap.size) (A0 : Bo B w0 (Sl 2 RRel) v0 x0) (hg1 : ∀ args w, (callFunc g1 args).run Tryz.prog w = .ok (.enter g1 args) w) (hp1 : ∀ (a0 : Rel) (r : Bool), x1 a0 = some r → ∀ W, Below w0.heap.size w0 W → ∀ (u0 : Value), Bo (All W) W (Agg 2 RRel) u0 a0 → Calls Tryz.prog g1 ([u0] ++ lb1 : List Value).toArray W (Says (.bool r) W)) : Calls Tryz.prog 87 #[v0, .func (.func g1) #[] lb1.toArray] w0 (Says (.bool r) w0) := by
 unfold slices_ContainsFunc_s_Rel_Rel at hR
 refine x_enter (L := [(0, v0), (1, .func (.func g1) #[] lb1.toArray)]) Tryz.func87 rfl rfl rfl (sc rfl (sc rfl sn)) (fun a F => ?_)
 have H := Sep.start hN
 refine x_seq (x_reg (o_assign F rfl rfl fun a F => x_end (x_tn (x_seq (x_reg (o_move F rfl rfl fun a F => o_move F rfl rfl (fun a F => ?_)))))))
 obtain ⟨z11, c12, hR⟩ := bnd_some hR
 refine oKI F rfl Tryz.call154 rfl H (slices_IndexFunc_s_Rel_Rel_c z11 c12 _ aA (H.a A0) hg1 (fun a0 r h W l1 => hp1 a0 r h W (H.bl.trans (l1.mono H.fr.size)))) fun a w H iz11 F => o_geq F rfl rfl rfl fun a F => o_assign F rfl rfl fun a F => x_end (x_tn (x_ret (x_res1 F rfl (rv_t F rfl) ?_)))
 obtain rfl := Option.some.inj hR
 exact ⟨rfl, H.bl⟩

def impl_ValidTemplate (x0 : Template) : Option Bool :=
 thn (σ := Bool) (
  bnd (impl_isSize x0.size) fun z26 =>
  if z26 then  if (decide ((x0.rels.length : Int) ≤ 6)) then  bnd (slices_ContainsFunc_s_Rel_Rel x0.rels (fun a0 => impl_ValidTemplate_1 a0 (Template.mk x0.size x0.rels))) fun z31 =>
    some (.nx (!z31)) else  some (.nx false) else  some (.nx false)) fun s25 =>
 some s25
set_option maxHeartbeats 1000000 in
theorem impl_ValidTemplate_c {B : Nat → Prop} {x0 : Template} (r : Bool) (hR : impl_ValidTemplate x0 = some r) {v0 : Value} (w0 : World) (hN : ∀ c, B c → c < w0.heap.size) (A0 : Bo B w0 (Agg 2 RTemplate) v0 x0) : Calls Tryz.prog 100 #[v0] w0 (Says (.bool r) w0) := by
 unfold impl_ValidTemplate at hR
 refine x_enter (L := [(0, v0)]) Tryz.func100 rfl rfl rfl (sc rfl sn) (fun a F => ?_)
 have H := Sep.start hN
 refine x_seq (x_reg ?_)
 obtain ⟨v12, rfl, i11, h13⟩ := RTemplate.o A0
 refine oX F rfl rfl rfl H fun a w b14 H F => o_assign F rfl rfl fun a F => x_end (x_tn (x_seq ?_))
 obtain ⟨o22, hR, hk23⟩ := thn_some hR
 refine x_cutQ (fun a w => ∃ (s25 : Bool), o22 = .nx s25 ∧ Sk a 19 [(2, .bool s25)] ∧ Sep [] B w0 w []) ?_ ?_
 ·
  refine x_reg (o_bfield fa33_0 F rfl rfl rfl fun a F => oB Tryz.isAgg2 F rfl rfl (H.b 0 rfl) rfl (fun a F => ?_))
  obtain ⟨z26, c27, hR⟩ := bnd_some hR
  refine oK F rfl Tryz.call174 rfl H (impl_isSize_c z26 c27 _ aA i11) fun a w H F => o_move F rfl rfl (fun a F => ?_)
  rcases bcases z26 with hb28 | hb28
  ·
   replace hR := ifT hb28 hR
   have F := F.eq (t := 6) rfl (congrArg Value.bool hb28)
   refine o_bfield fa33_1 F rfl rfl rfl fun a F => oB Tryz.isAgg31 F rfl rfl (H.b 0 rfl) rfl fun a F => oL Tryz.underlying31 F rfl rfl h13 fun a i29 F => o_leq F rfl rfl rfl fun a F => o_pickt F rfl rfl rfl fun a F => o_move F rfl rfl (fun a F => ?_)
   rcases bcases (decide ((x0.rels.length : Int) ≤ 6)) with hb30 | hb30
   ·
    replace hR := ifT hb30 hR
    have F := F.eq (t := 12) rfl (congrArg Value.bool hb30)
    refine o_bfield fa33_1 F rfl rfl rfl fun a F => oB Tryz.isAgg31 F rfl rfl (H.b 0 rfl) rfl fun a F => o_func F rfl rfl rfl (fun a F => ?_)
    obtain ⟨z31, c32, hR⟩ := bnd_some hR
    refine oK F rfl Tryz.call87 rfl H (slices_ContainsFunc_s_Rel_Rel_c z31 c32 _ aA (H.a h13) Tryz.call175 (fun a0 r h W l1 u0 f0 => impl_ValidTemplate_1_c r h W aA f0 ((RTemplate.b (H.g 0 rfl).bk i11 (H.a h13)).w l1))) fun a w H F => o_not F rfl rfl fun a F => o_pickt F rfl rfl rfl fun a F => o_assign F rfl rfl fun a F => x_end (x_tn ?_)
    exact ⟨(!z31), (Option.some.inj hR).symm, F.sub (sc rfl sn), (H.s [] rfl rfl)⟩
   replace hR := ifF hb30 hR
   have F := F.eq (t := 12) rfl (congrArg Value.bool hb30)
   refine o_no F rfl rfl fun a F => o_no F rfl rfl fun a F => o_no F rfl rfl fun a F => o_no F rfl rfl fun a F => o_no F rfl rfl fun a F => o_pickf F rfl rfl rfl fun a F => o_assign F rfl rfl fun a F => x_end (x_tn ?_)
   exact ⟨false, (Option.some.inj hR).symm, F.sub (sc rfl sn), (H.s [] rfl rfl)⟩
  replace hR := ifF hb28 hR
  have F := F.eq (t := 6) rfl (congrArg Value.bool hb28)
  refine o_no F rfl rfl fun a F => o_no F rfl rfl fun a F => o_no F rfl rfl fun a F => o_no F rfl rfl fun a F => o_pickf F rfl rfl rfl fun a F => o_move F rfl rfl fun a F => o_no F rfl rfl fun a F => o_no F rfl rfl fun a F => o_no F rfl rfl fun a F => o_no F rfl rfl fun a F => o_no F rfl rfl (fun a F => ?_)
  refine o_pickf F rfl rfl rfl fun a F => o_assign F rfl rfl fun a F => x_end (x_tn ?_)
  exact ⟨false, (Option.some.inj hR).symm, F.sub (sc rfl sn), (H.s [] rfl rfl)⟩
 intro a w ⟨s25, ho24, F, H⟩
 subst ho24
 have hR := then_nx hk23
 refine x_tn (x_ret (x_res1 F rfl (rv_t F rfl) ?_))
 obtain rfl := Option.some.inj hR
 exact ⟨rfl, H.bl⟩

def impl_isFrame (x0 : Formula) : Option Bool :=
 thn (σ := Bool) (
  bnd (impl_isArity x0.free) fun z27 =>
  if z27 then  bnd (impl_within x0.vars x0.free 8) fun z30 =>
   if z30 then  some (.nx (decide ((x0.atoms.length : Int) ≤ 16))) else  some (.nx false) else  some (.nx false)) fun s26 =>
 some s26
set_option maxHeartbeats 1000000 in
theorem impl_isFrame_c {B : Nat → Prop} {x0 : Formula} (r : Bool) (hR : impl_isFrame x0 = some r) {v0 : Value} (w0 : World) (hN : ∀ c, B c → c < w0.heap.size) (A0 : Bo B w0 (Agg 3 RFormula) v0 x0) : Calls Tryz.prog 177 #[v0] w0 (Says (.bool r) w0) := by
 unfold impl_isFrame at hR
 refine x_enter (L := [(0, v0)]) Tryz.func177 rfl rfl rfl (sc rfl sn) (fun a F => ?_)
 have H := Sep.start hN
 refine x_seq (x_reg ?_)
 obtain ⟨v13, rfl, i11, i12, h14⟩ := RFormula.o A0
 refine oX F rfl rfl rfl H fun a w b15 H F => o_assign F rfl rfl fun a F => x_end (x_tn (x_seq ?_))
 obtain ⟨o23, hR, hk24⟩ := thn_some hR
 refine x_cutQ (fun a w => ∃ (s26 : Bool), o23 = .nx s26 ∧ Sk a 19 [(2, .bool s26)] ∧ Sep [] B w0 w []) ?_ ?_
 ·
  refine x_reg (o_bfield fa95_0 F rfl rfl rfl fun a F => oB Tryz.isAgg2 F rfl rfl (H.b 0 rfl) rfl (fun a F => ?_))
  obtain ⟨z27, c28, hR⟩ := bnd_some hR
  refine oK F rfl Tryz.call225 rfl H (impl_isArity_c z27 c28 _ aA i11) fun a w H F => o_move F rfl rfl (fun a F => ?_)
  rcases bcases z27 with hb29 | hb29
  ·
   replace hR := ifT hb29 hR
   have F := F.eq (t := 6) rfl (congrArg Value.bool hb29)
   refine o_bfield fa95_1 F rfl rfl rfl fun a F => oB Tryz.isAgg2 F rfl rfl (H.b 0 rfl) rfl fun a F => o_bfield fa95_0 F rfl rfl rfl fun a F => oB Tryz.isAgg2 F rfl rfl (H.b 0 rfl) rfl (fun a F => ?_)
   obtain ⟨z30, c31, hR⟩ := bnd_some hR
   refine oK F rfl Tryz.call150 rfl H (impl_within_c z30 c31 _ aA i12 i11 (show I64 (8) by decide)) fun a w H F => o_pickt F rfl rfl rfl fun a F => o_move F rfl rfl (fun a F => ?_)
   rcases bcases z30 with hb32 | hb32
   ·
    replace hR := ifT hb32 hR
    have F := F.eq (t := 13) rfl (congrArg Value.bool hb32)
    refine o_bfield fa95_2 F rfl rfl rfl fun a F => oB Tryz.isAgg93 F rfl rfl (H.b 0 rfl) rfl fun a F => oL Tryz.underlying93 F rfl rfl h14 fun a i33 F => o_leq F rfl rfl rfl fun a F => o_pickt F rfl rfl rfl fun a F => o_assign F rfl rfl fun a F => x_end (x_tn ?_)
    exact ⟨(decide ((x0.atoms.length : Int) ≤ 16)), (Option.some.inj hR).symm, F.sub (sc rfl sn), (H.s [] rfl rfl)⟩
   replace hR := ifF hb32 hR
   have F := F.eq (t := 13) rfl (congrArg Value.bool hb32)
   refine o_no F rfl rfl fun a F => o_no F rfl rfl fun a F => o_no F rfl rfl fun a F => o_no F rfl rfl fun a F => o_pickf F rfl rfl rfl fun a F => o_assign F rfl rfl fun a F => x_end (x_tn ?_)
   exact ⟨false, (Option.some.inj hR).symm, F.sub (sc rfl sn), (H.s [] rfl rfl)⟩
  replace hR := ifF hb29 hR
  have F := F.eq (t := 6) rfl (congrArg Value.bool hb29)
  refine o_no F rfl rfl fun a F => o_no F rfl rfl fun a F => o_no F rfl rfl fun a F => o_no F rfl rfl fun a F => o_no F rfl rfl fun a F => o_pickf F rfl rfl rfl fun a F => o_move F rfl rfl fun a F => o_no F rfl rfl fun a F => o_no F rfl rfl fun a F => o_no F rfl rfl fun a F => o_no F rfl rfl (fun a F => ?_)
  refine o_pickf F rfl rfl rfl fun a F => o_assign F rfl rfl fun a F => x_end (x_tn ?_)
  exact ⟨false, (Option.some.inj hR).symm, F.sub (sc rfl sn), (H.s [] rfl rfl)⟩
 intro a w ⟨s26, ho25, F, H⟩
 subst ho25
 have hR := then_nx hk24
 refine x_tn (x_ret (x_res1 F rfl (rv_t F rfl) ?_))
 obtain rfl := Option.some.inj hR
 exact ⟨rfl, H.bl⟩

def impl_Template_arityOf (x0 : Template) (x1 : Int) : Option Int :=
 if (x1 == (-1)) then
  some 2
 else
  bnd (ck ((x0.rels.length : Int) - 1)) fun z17 =>
  bnd (impl_within x1 0 z17) fun z19 =>
  if (!z19) then
   some 0
  else
   bnd (ix x0.rels x1) fun z22 =>
   some z22.arity
set_option maxHeartbeats 1000000 in
theorem impl_Template_arityOf_c {B : Nat → Prop} {x0 : Template} {x1 : Int} (r : Int) (hR : impl_Template_arityOf x0 x1 = some r) {v0 : Value} (w0 : World) (hN : ∀ c, B c → c < w0.heap.size) (A0 : Bo B w0 (Agg 2 RTemplate) v0 x0) (hx1 : I64 x1) : Calls Tryz.prog 180 #[v0, .int .i64 x1] w0 (SaysI r w0) := by
 unfold impl_Template_arityOf at hR
 refine x_enter (L := [(0, v0), (1, .int .i64 x1)]) Tryz.func180 rfl rfl rfl (sc rfl (sc rfl sn)) (fun a F => ?_)
 have H := Sep.start hN
 refine x_seq (x_reg ?_)
 obtain ⟨v12, rfl, i11, h13⟩ := RTemplate.o A0
 refine oX F rfl rfl rfl H fun a w b14 H F => o_assign F rfl rfl fun a F => x_end (x_tn (x_seq (x_blk (x_seq (x_reg (o_move F rfl rfl fun a F => o_eql F rfl rfl rfl fun a F => o_assign F rfl rfl (fun a F => ?_)))))))
 refine x_end (x_tn (x_if F rfl (fun hb15 => ?_) (fun hb15 => ?_)))
 ·
  replace hR := ifT hb15 hR
  refine x_seq (x_reg (o_assign F rfl rfl fun a F => x_end (x_tn (x_ret (x_br (x_tr (x_res1 F rfl (rv_t F rfl) ?_)))))))
  obtain rfl := Option.some.inj hR
  exact ⟨⟨rfl, H.bl⟩, (show I64 (2) by decide)⟩
 replace hR := ifF hb15 hR
 refine x_seq (x_reg (o_move F rfl rfl fun a F => o_bfield fa33_1 F rfl rfl rfl fun a F => oB Tryz.isAgg31 F rfl rfl (H.b 0 rfl) rfl fun a F => oL Tryz.underlying31 F rfl rfl h13 (fun a i16 F => ?_)))
 obtain ⟨z17, c18, hR⟩ := bnd_some hR
 refine o_sub F rfl rfl rfl c18 (fun a F => ?_)
 obtain ⟨z19, c20, hR⟩ := bnd_some hR
 refine oK F rfl Tryz.call150 rfl H (impl_within_c z19 c20 _ aA hx1 (show I64 (0) by decide) (ck64 c18)) fun a w H F => o_not F rfl rfl fun a F => o_assign F rfl rfl fun a F => x_end (x_tn (x_if F rfl (fun hb21 => ?_) (fun hb21 => ?_)))
 ·
  replace hR := ifT hb21 hR
  refine x_seq (x_reg (o_assign F rfl rfl fun a F => x_end (x_tn (x_ret (x_br (x_tr (x_res1 F rfl (rv_t F rfl) ?_)))))))
  obtain rfl := Option.some.inj hR
  exact ⟨⟨rfl, H.bl⟩, (show I64 (0) by decide)⟩
 replace hR := ifF hb21 hR
 refine x_skip (x_bn (x_tn (x_seq (x_reg (o_bfield fa33_1 F rfl rfl rfl fun a F => oB Tryz.isAgg31 F rfl rfl (H.b 0 rfl) rfl fun a F => o_move F rfl rfl (fun a F => ?_))))))
 obtain ⟨z22, c23, hR⟩ := bnd_some hR
 refine oI Tryz.underlying31 Tryz.sizeOf84 F rfl rfl rfl h13 c23 fun a p24 h25 F => oF (s' := 1) fa84_0 F rfl rfl h25 RRel.f0 fun a p26 h27 F => olI Tryz.isAgg2 F rfl rfl H.sm h27 fun a i28 F => o_assign F rfl rfl fun a F => x_end (x_tn (x_ret (x_res1 F rfl (rv_t F rfl) ?_)))
 obtain rfl := Option.some.inj hR
 exact ⟨⟨rfl, H.bl⟩, i28⟩

def impl_isAtom (x0 : Atom) (x1 : Int) (x2 : Int) : Option Bool :=
 bnd (impl_areValues x2 x0.args x1) fun z15 =>
 some z15
set_option maxHeartbeats 1000000 in
theorem impl_isAtom_c {B : Nat → Prop} {x0 : Atom} {x1 : Int} {x2 : Int} (r : Bool) (hR : impl_isAtom x0 x1 x2 = some r) {v0 : Value} (w0 : World) (hN : ∀ c, B c → c < w0.heap.size) (A0 : Bo B w0 (Agg 2 RAtom) v0 x0) (hx1 : I64 x1) (hx2 : I64 x2) : Calls Tryz.prog 181 #[v0, .int .i64 x1, .int .i64 x2] w0 (Says (.bool r) w0) := by
 unfold impl_isAtom at hR
 refine x_enter (L := [(0, v0), (1, .int .i64 x1), (2, .int .i64 x2)]) Tryz.func181 rfl rfl rfl (sc rfl (sc rfl (sc rfl sn))) (fun a F => ?_)
 have H := Sep.start hN
 refine x_seq (x_reg ?_)
 obtain ⟨v12, rfl, i11, h13⟩ := RAtom.o A0
 refine oX F rfl rfl rfl H fun a w b14 H F => o_assign F rfl rfl fun a F => x_end (x_tn (x_seq (x_reg (o_move F rfl rfl fun a F => o_bfield fa158_1 F rfl rfl rfl fun a F => oB Tryz.isAgg42 F rfl rfl (H.b 0 rfl) rfl fun a F => o_move F rfl rfl (fun a F => ?_)))))
 obtain ⟨z15, c16, hR⟩ := bnd_some hR
 refine oK F rfl Tryz.call75 rfl H (impl_areValues_c z15 c16 _ aA hx2 (H.a h13) hx1) fun a w H F => o_assign F rfl rfl fun a F => x_end (x_tn (x_ret (x_res1 F rfl (rv_t F rfl) ?_)))
 obtain rfl := Option.some.inj hR
 exact ⟨rfl, H.bl⟩

def impl_ValidFormula_1 (x0 : Atom) (y0 : Template) (y1 : Formula) : Option Bool :=
 thn (σ := Bool) (
  bnd (impl_Template_arityOf y0 x0.rel) fun z33 =>
  if (z33 == 0) then  some (.nx true) else  bnd (impl_isAtom (Atom.mk x0.rel x0.args) z33 y1.vars) fun z41 =>
   some (.nx (!z41))) fun s30 =>
 some s30
set_option maxHeartbeats 1000000 in
theorem impl_ValidFormula_1_c {B : Nat → Prop} {x0 : Atom} {y0 : Template} {y1 : Formula} (r : Bool) (hR : impl_ValidFormula_1 x0 y0 y1 = some r) {v0 : Value} {v1 : Value} {v2 : Value} (w0 : World) (hN : ∀ c, B c → c < w0.heap.size) (A0 : Bo B w0 (Agg 2 RAtom) v0 x0) (A1 : Bo B w0 (Pt 2 RTemplate) v1 y0) (A2 : Bo B w0 (Pt 3 RFormula) v2 y1) : Calls Tryz.prog 179 #[v0, v1, v2] w0 (Says (.bool r) w0) := by
 unfold impl_ValidFormula_1 at hR
 refine x_enter (L := [(0, v0), (1, v1), (2, v2)]) Tryz.func179 rfl rfl rfl (sc rfl (sc rfl (sc rfl sn))) (fun a F => ?_)
 have H := Sep.start hN
 refine x_seq (x_reg ?_)
 obtain ⟨v12, rfl, i11, h13⟩ := RAtom.o A0
 refine oX F rfl rfl rfl H fun a w b14 H F => o_assign F rfl rfl fun a F => x_end (x_tn (x_seq ?_))
 obtain ⟨o27, hR, hk28⟩ := thn_some hR
 refine x_cutQ (fun a w => ∃ (s30 : Bool), o27 = .nx s30 ∧ Sk a 21 [(4, .bool s30)] ∧ Sep [] B w0 w []) ?_ ?_
 ·
  refine xQ H (by kernel_rfl) (by kernel_rfl) (qlA Tryz.isAgg33 Tryz.sizeOf33 F rfl rfl H.q A1 fun a v31 h32 F => q_val F rfl (fun w l => r_bfield fa158_0 F rfl rfl) fun a F => qB Tryz.isAgg2 F rfl rfl (H.qb 0 rfl) rfl (fun a F => ?_))
  obtain ⟨z33, c34, hR⟩ := bnd_some hR
  refine q_saysI F rfl Tryz.call180 rfl (fun w w' h l => l.through h) _ (Below.refl _ _) (fun w l => impl_Template_arityOf_c z33 c34 w aA ((H.go l).a h32) i11) fun a iz33 F => q_val F rfl (fun w l => r_eql F rfl rfl) fun a F => q_val F rfl (fun w l => r_move F rfl) (fun a F => ?_)
  rcases bcases (z33 == 0) with hb35 | hb35
  ·
   replace hR := ifT hb35 hR
   have F := F.eq (t := 10) rfl (congrArg Value.bool hb35)
   refine q_no F rfl rfl fun a F => q_no F rfl rfl fun a F => q_no F rfl rfl fun a F => q_no F rfl rfl fun a F => q_no F rfl rfl fun a F => q_no F rfl rfl fun a F => q_no F rfl rfl fun a F => q_no F rfl rfl fun a F => q_no F rfl rfl fun a F => q_val F rfl (fun w l => r_pickt F rfl rfl) fun a F => q_val F rfl (fun w l => r_assign F rfl) (fun a F => ?_)
   refine q_end fun w H => x_tn ?_
   exact ⟨true, (Option.some.inj hR).symm, F.sub (sc rfl sn), (H.s [] rfl rfl)⟩
  replace hR := ifF hb35 hR
  have F := F.eq (t := 10) rfl (congrArg Value.bool hb35)
  refine qBA Tryz.isAgg158 Tryz.sizeOf158 F rfl rfl (H.qb 0 rfl) rfl rfl fun a F => qlA Tryz.isAgg33 Tryz.sizeOf33 F rfl rfl H.q A1 fun a v36 h37 F => q_val F rfl (fun w l => r_bfield fa158_0 F rfl rfl) fun a F => qB Tryz.isAgg2 F rfl rfl (H.qb 0 rfl) rfl fun a F => q_saysI F rfl Tryz.call180 rfl (fun w w' h l => l.through h) _ (Below.refl _ _) (fun w l => impl_Template_arityOf_c z33 c34 w aA ((H.go l).a h37) i11) fun a iz33 F => qF (s' := 1) fa95_1 F rfl rfl A2 RFormula.f1 fun a p38 h39 F => qlI Tryz.isAgg2 F rfl rfl H.q h39 (fun a i40 F => ?_)
  obtain ⟨z41, c42, hR⟩ := bnd_some hR
  refine q_says F rfl Tryz.call181 rfl (fun w w' h l => l.through h) (fun w l => impl_isAtom_c z41 c42 w aA (RAtom.m i11 ((H.go l).a h13)) iz33 i40) fun a F => q_val F rfl (fun w l => r_not F rfl) fun a F => q_val F rfl (fun w l => r_pickf F rfl rfl) fun a F => q_val F rfl (fun w l => r_assign F rfl) fun a F => q_end fun w H => x_tn ?_
  exact ⟨(!z41), (Option.some.inj hR).symm, F.sub (sc rfl sn), (H.s [] rfl rfl)⟩
 intro a w ⟨s30, ho29, F, H⟩
 subst ho29
 have hR := then_nx hk28
 refine x_tn (x_ret (x_res1 F rfl (rv_t F rfl) ?_))
 obtain rfl := Option.some.inj hR
 exact ⟨rfl, H.bl⟩

def slices_IndexFunc_s_Atom_Atom (x0 : List Atom) (x1 : Atom → Option Bool) : Option Int :=
 thn (σ := Unit) (
  forL (σ := Unit) (ρ := Int) (fun (k25 : Nat) (x27 : Atom) (s : Unit) =>
    match s with
    | _ =>
    bnd (x1 x27) fun z35 =>
    if z35 then
     some (.ret ((k25 : Int)))
    else
     some (.go ())) x0 0 ()) fun _ =>
 some ((-1))
set_option maxHeartbeats 1000000 in
theorem slices_IndexFunc_s_Atom_Atom_c {B : Nat → Prop} {x0 : List Atom} {x1 : Atom → Option Bool} (r : Int) (hR : slices_IndexFunc_s_Atom_Atom x0 x1 = some r) {v0 : Value} {g1 : FuncId} {lb1 : List Value} (w0 : World) (hN : ∀ c, B c → c < w0.heap.size) (A0 : Bo B w0 (Sl 2 RAtom) v0 x0) (hg1 : ∀ args w, (callFunc g1 args).run Tryz.prog w = .ok (.enter g1 args) w) (hp1 : ∀ (a0 : Atom) (r : Bool), x1 a0 = some r → ∀ W, Below w0.heap.size w0 W → ∀ (u0 : Value), Bo (All W) W (Agg 2 RAtom) u0 a0 → Calls Tryz.prog g1 ([u0] ++ lb1 : List Value).toArray W (Says (.bool r) W)) : Calls Tryz.prog 226 #[v0, .func (.func g1) #[] lb1.toArray] w0 (SaysI r w0) := by
 unfold slices_IndexFunc_s_Atom_Atom at hR
 refine x_enter (L := [(0, v0), (1, .func (.func g1) #[] lb1.toArray)]) Tryz.func226 rfl rfl rfl (sc rfl (sc rfl sn)) (fun a F => ?_)
 have H := Sep.start hN
 refine x_seq (x_reg (o_assign F rfl rfl fun a F => x_end (x_tn (x_seq (x_seq (x_reg (o_move F rfl rfl fun a F => oL Tryz.underlying93 F rfl rfl A0 fun a i11 F => o_move F rfl rfl (fun a F => ?_))))))))
 refine x_end (x_tn ?_)
 obtain ⟨o19, hR, hk20⟩ := thn_some hR
 refine x_cutQ (fun a w => o19 = .nx () ∧ Sk a 19 [] ∧ Sep [] B w0 w []) ?_ ?_
 ·
  refine x_blk ?_
  obtain ⟨fl23, hf24, hR⟩ := forL_gen hR
  refine x_loop (fun g a w => ∃ (k25 : Nat) (rest26 : List Atom), (k25 ≤ x0.length ∧ x0.drop k25 = rest26) ∧ rest26.length = g ∧ forL fl23 rest26 k25 () = some o19 ∧ Sk a 19 [(8, .int .i64 (k25 : Int)), (0, v0), (1, .func (.func g1) #[] lb1.toArray), (7, .int .i64 (x0.length : Int))] ∧ Sep [] B w0 w []) x0.length ?_ ?_
  ·
   exact ⟨0, x0, ⟨Nat.zero_le _, rfl⟩, rfl, hR, F.sub (sc rfl (sc rfl (sc rfl (sc rfl sn)))), H⟩
  intro g28 a w ⟨k25, rest26, hd29, hg30, hR, F, H⟩
  cases rest26 with
  | nil =>
   replace hR := forL_nil hR
   have hkk25 := drop_nil hd29.1 hd29.2
   have hlk25 := dec_no hkk25
   refine x_seq (x_reg (o_lss F rfl rfl rfl fun a F => x_end (x_tn (x_seq (x_ifF F rfl hlk25 (x_exit (x_te (x_te (x_be ?_)))))))))
   refine x_tn ?_
   exact ⟨(Option.some.inj hR).symm, F.sub sn, H⟩
  | cons x27 rest26 =>
   subst hg30
   replace hd29 := drop_cons hd29.2
   have hxk25 := ix_nat hd29.2.1
   obtain ⟨ck25, hR, hn22⟩ := forL_cons hR
   rw [hf24] at hR
   have hlk25 := dec_yes hd29.1
   refine x_seq (x_reg (o_lss F rfl rfl rfl fun a F => x_end (x_tn (x_seq (x_ifT F rfl hlk25 (x_skip (x_tn (x_seq ?_))))))))
   have ikk25 := k64 (Nat.le_of_lt hd29.1) i11
   have ink25 := inc64 hd29.1 i11
   refine x_blk (x_seq (x_reg (o_move F rfl rfl fun a F => o_assign F rfl rfl fun a F => x_end (x_tn (x_seq (x_reg (o_move F rfl rfl fun a F => o_move F rfl rfl (fun a F => ?_))))))))
   refine o_move F rfl rfl fun a F => oI Tryz.underlying93 Tryz.sizeOf158 F rfl rfl rfl A0 hxk25 fun a p31 h32 F => olA Tryz.isAgg158 Tryz.sizeOf158 F rfl rfl H.sm h32 (fun a v33 h34 F => ?_)
   obtain ⟨z35, c36, hR⟩ := bnd_some hR
   refine oKV F rfl rfl hg1 rfl H (hp1 _ z35 c36 _ H.bl _ (H.a h34)) fun a w H F => x_end (x_tn (x_if F rfl (fun hb37 => ?_) (fun hb37 => ?_)))
   ·
    replace hR := ifT hb37 hR
    refine x_seq (x_reg (o_move F rfl rfl fun a F => o_assign F rfl rfl fun a F => x_end (x_tn (x_ret (x_br (x_tr (x_tr ?_)))))))
    replace hR := l_ret hR hn22
    refine x_br (x_tr ?_)
    replace hR := j_ret hR hk20
    refine x_tr (x_res1 F rfl (rv_t F rfl) ?_)
    obtain rfl := Option.some.inj hR
    exact ⟨⟨rfl, H.bl⟩, ikk25⟩
   replace hR := ifF hb37 hR
   refine x_skip (x_bn (x_tn (x_reg (o_inc F rfl rfl rfl ink25 fun a F => o_move F rfl rfl fun a F => x_end (x_tn ?_)))))
   replace hR := l_go hR hn22
   exact ⟨_, Nat.lt_succ_self _, k25 + 1, rest26, ⟨hd29.1, hd29.2.2⟩, rfl, hR, F.sub (sc rfl (sc rfl (sc rfl (sc rfl sn)))), H⟩
 intro a w ⟨ho21, F, H⟩
 subst ho21
 have hR := then_nx hk20
 refine x_tn (x_seq (x_reg (o_assign F rfl rfl fun a F => x_end (x_tn (x_ret (x_res1 F rfl (rv_t F rfl) ?_))))))
 obtain rfl := Option.some.inj hR
 exact ⟨⟨rfl, H.bl⟩, (show I64 (-1) by decide)⟩

def slices_ContainsFunc_s_Atom_Atom (x0 : List Atom) (x1 : Atom → Option Bool) : Option Bool :=
 bnd (slices_IndexFunc_s_Atom_Atom x0 x1) fun z11 =>
 some ((decide (0 ≤ z11)))
set_option maxHeartbeats 1000000 in
theorem slices_ContainsFunc_s_Atom_Atom_c {B : Nat → Prop} {x0 : List Atom} {x1 : Atom → Option Bool} (r : Bool) (hR : slices_ContainsFunc_s_Atom_Atom x0 x1 = some r) {v0 : Value} {g1 : FuncId} {lb1 : List Value} (w0 : World) (hN : ∀ c, B c → c < w0.heap.size) (A0 : Bo B w0 (Sl 2 RAtom) v0 x0) (hg1 : ∀ args w, (callFunc g1 args).run Tryz.prog w = .ok (.enter g1 args) w) (hp1 : ∀ (a0 : Atom) (r : Bool), x1 a0 = some r → ∀ W, Below w0.heap.size w0 W → ∀ (u0 : Value), Bo (All W) W (Agg 2 RAtom) u0 a0 → Calls Tryz.prog g1 ([u0] ++ lb1 : List Value).toArray W (Says (.bool r) W)) : Calls Tryz.prog 178 #[v0, .func (.func g1) #[] lb1.toArray] w0 (Says (.bool r) w0) := by
 unfold slices_ContainsFunc_s_Atom_Atom at hR
 refine x_enter (L := [(0, v0), (1, .func (.func g1) #[] lb1.toArray)]) Tryz.func178 rfl rfl rfl (sc rfl (sc rfl sn)) (fun a F => ?_)
 have H := Sep.start hN
 refine x_seq (x_reg (o_assign F rfl rfl fun a F => x_end (x_tn (x_seq (x_reg (o_move F rfl rfl fun a F => o_move F rfl rfl (fun a F => ?_)))))))
 obtain ⟨z11, c12, hR⟩ := bnd_some hR
 refine oKI F rfl Tryz.call226 rfl H (slices_IndexFunc_s_Atom_Atom_c z11 c12 _ aA (H.a A0) hg1 (fun a0 r h W l1 => hp1 a0 r h W (H.bl.trans (l1.mono H.fr.size)))) fun a w H iz11 F => o_geq F rfl rfl rfl fun a F => o_assign F rfl rfl fun a F => x_end (x_tn (x_ret (x_res1 F rfl (rv_t F rfl) ?_)))
 obtain rfl := Option.some.inj hR
 exact ⟨rfl, H.bl⟩

def impl_ValidFormula (x0 : Template) (x1 : Formula) : Option Bool :=
 thn (σ := Bool) (
  bnd (impl_ValidTemplate (Template.mk x0.size x0.rels)) fun z32 =>
  if z32 then  bnd (impl_isFrame (Formula.mk x1.free x1.vars x1.atoms)) fun z35 =>
   if z35 then  bnd (slices_ContainsFunc_s_Atom_Atom x1.atoms (fun a0 => impl_ValidFormula_1 a0 (Template.mk x0.size x0.rels) (Formula.mk x1.free x1.vars x1.atoms))) fun z38 =>
    some (.nx (!z38)) else  some (.nx false) else  some (.nx false)) fun s31 =>
 some s31
set_option maxHeartbeats 1000000 in
theorem impl_ValidFormula_c {B : Nat → Prop} {x0 : Template} {x1 : Formula} (r : Bool) (hR : impl_ValidFormula x0 x1 = some r) {v0 : Value} {v1 : Value} (w0 : World) (hN : ∀ c, B c → c < w0.heap.size) (A0 : Bo B w0 (Agg 2 RTemplate) v0 x0) (A1 : Bo B w0 (Agg 3 RFormula) v1 x1) : Calls Tryz.prog 101 #[v0, v1] w0 (Says (.bool r) w0) := by
 unfold impl_ValidFormula at hR
 refine x_enter (L := [(0, v0), (1, v1)]) Tryz.func101 rfl rfl rfl (sc rfl (sc rfl sn)) (fun a F => ?_)
 have H := Sep.start hN
 refine x_seq (x_reg ?_)
 obtain ⟨v12, rfl, i11, h13⟩ := RTemplate.o A0
 refine oX F rfl rfl rfl H (fun a w b14 H F => ?_)
 obtain ⟨v17, rfl, i15, i16, h18⟩ := RFormula.o A1
 refine oX F rfl rfl rfl H fun a w b19 H F => o_assign F rfl rfl fun a F => x_end (x_tn (x_seq ?_))
 obtain ⟨o28, hR, hk29⟩ := thn_some hR
 refine x_cutQ (fun a w => ∃ (s31 : Bool), o28 = .nx s31 ∧ Sk a 18 [(4, .bool s31)] ∧ Sep [] B w0 w []) ?_ ?_
 ·
  refine x_reg (oBA Tryz.isAgg33 Tryz.sizeOf33 F rfl rfl (H.b 1 rfl) rfl rfl (fun a F => ?_))
  obtain ⟨z32, c33, hR⟩ := bnd_some hR
  refine oK F rfl Tryz.call100 rfl H (impl_ValidTemplate_c z32 c33 _ aA (RTemplate.m i11 (H.a h13))) fun a w H F => o_move F rfl rfl (fun a F => ?_)
  rcases bcases z32 with hb34 | hb34
  ·
   replace hR := ifT hb34 hR
   have F := F.eq (t := 7) rfl (congrArg Value.bool hb34)
   refine oBA Tryz.isAgg95 Tryz.sizeOf95 F rfl rfl (H.b 0 rfl) rfl rfl (fun a F => ?_)
   obtain ⟨z35, c36, hR⟩ := bnd_some hR
   refine oK F rfl Tryz.call177 rfl H (impl_isFrame_c z35 c36 _ aA (RFormula.m i15 i16 (H.a h18))) fun a w H F => o_pickt F rfl rfl rfl fun a F => o_move F rfl rfl (fun a F => ?_)
   rcases bcases z35 with hb37 | hb37
   ·
    replace hR := ifT hb37 hR
    have F := F.eq (t := 11) rfl (congrArg Value.bool hb37)
    refine o_bfield fa95_2 F rfl rfl rfl fun a F => oB Tryz.isAgg93 F rfl rfl (H.b 0 rfl) rfl fun a F => o_func F rfl rfl rfl (fun a F => ?_)
    obtain ⟨z38, c39, hR⟩ := bnd_some hR
    refine oK F rfl Tryz.call178 rfl H (slices_ContainsFunc_s_Atom_Atom_c z38 c39 _ aA (H.a h18) Tryz.call179 (fun a0 r h W l1 u0 f0 => impl_ValidFormula_1_c r h W aA f0 ((RTemplate.b (H.g 1 rfl).bk i11 (H.a h13)).w l1) ((RFormula.b (H.g 0 rfl).bk i15 i16 (H.a h18)).w l1))) fun a w H F => o_not F rfl rfl fun a F => o_pickt F rfl rfl rfl fun a F => o_assign F rfl rfl fun a F => x_end (x_tn ?_)
    exact ⟨(!z38), (Option.some.inj hR).symm, F.sub (sc rfl sn), (H.s [] rfl rfl)⟩
   replace hR := ifF hb37 hR
   have F := F.eq (t := 11) rfl (congrArg Value.bool hb37)
   refine o_no F rfl rfl fun a F => o_no F rfl rfl fun a F => o_no F rfl rfl fun a F => o_no F rfl rfl fun a F => o_no F rfl rfl fun a F => o_pickf F rfl rfl rfl fun a F => o_assign F rfl rfl fun a F => x_end (x_tn ?_)
   exact ⟨false, (Option.some.inj hR).symm, F.sub (sc rfl sn), (H.s [] rfl rfl)⟩
  replace hR := ifF hb34 hR
  have F := F.eq (t := 7) rfl (congrArg Value.bool hb34)
  refine o_no F rfl rfl fun a F => o_no F rfl rfl fun a F => o_pickf F rfl rfl rfl fun a F => o_move F rfl rfl fun a F => o_no F rfl rfl fun a F => o_no F rfl rfl fun a F => o_no F rfl rfl fun a F => o_no F rfl rfl fun a F => o_no F rfl rfl fun a F => o_pickf F rfl rfl rfl fun a F => o_assign F rfl rfl (fun a F => ?_)
  refine x_end (x_tn ?_)
  exact ⟨false, (Option.some.inj hR).symm, F.sub (sc rfl sn), (H.s [] rfl rfl)⟩
 intro a w ⟨s31, ho30, F, H⟩
 subst ho30
 have hR := then_nx hk29
 refine x_tn (x_ret (x_res1 F rfl (rv_t F rfl) ?_))
 obtain rfl := Option.some.inj hR
 exact ⟨rfl, H.bl⟩

def impl_areFormulas (x0 : Template) (x1 : Template) (x2 : Gadgets) : Option Bool :=
 thn (σ := Bool) (
  bnd (impl_ValidTemplate (Template.mk x0.size x0.rels)) fun z35 =>
  if (!z35) then  some (.nx true) else  bnd (impl_ValidTemplate (Template.mk x1.size x1.rels)) fun z38 =>
   if (!z38) then  some (.nx true) else  if (x0.size != x1.size) then  some (.nx true) else  some (.nx ((x2.formulas.length : Int) != (x0.rels.length : Int)))) fun s34 =>
 if s34 then
  some false
 else
  thn (σ := Unit) (
   forL (σ := Unit) (ρ := Bool) (fun (k86 : Nat) (x88 : Formula) (s : Unit) =>
     match s with
     | _ =>
     thn (σ := Bool) (
      bnd (impl_ValidFormula (Template.mk x1.size x1.rels) (Formula.mk x88.free x88.vars x88.atoms)) fun z115 =>
      if (!z115) then  some (.nx true) else  bnd (ix x0.rels (k86 : Int)) fun z118 =>
       some (.nx (x88.free != z118.arity))) fun s114 =>
     if s114 then
      some (.ret false)
     else
      some (.go ())) x2.formulas 0 ()) fun _ =>
  some true
set_option maxHeartbeats 1000000 in
theorem impl_areFormulas_c {B : Nat → Prop} {x0 : Template} {x1 : Template} {x2 : Gadgets} (r : Bool) (hR : impl_areFormulas x0 x1 x2 = some r) {v0 : Value} {v1 : Value} {v2 : Value} (w0 : World) (hN : ∀ c, B c → c < w0.heap.size) (A0 : Bo B w0 (Agg 2 RTemplate) v0 x0) (A1 : Bo B w0 (Agg 2 RTemplate) v1 x1) (A2 : Bo B w0 (Agg 1 RGadgets) v2 x2) : Calls Tryz.prog 47 #[v0, v1, v2] w0 (Says (.bool r) w0) := by
 unfold impl_areFormulas at hR
 refine x_enter (L := [(0, v0), (1, v1), (2, v2)]) Tryz.func47 rfl rfl rfl (sc rfl (sc rfl (sc rfl sn))) (fun a F => ?_)
 have H := Sep.start hN
 refine x_seq (x_reg ?_)
 obtain ⟨v12, rfl, i11, h13⟩ := RTemplate.o A0
 refine oX F rfl rfl rfl H (fun a w b14 H F => ?_)
 obtain ⟨v16, rfl, i15, h17⟩ := RTemplate.o A1
 refine oX F rfl rfl rfl H (fun a w b18 H F => ?_)
 obtain ⟨v19, rfl, h20⟩ := RGadgets.o A2
 refine oX F rfl rfl rfl H fun a w b21 H F => o_assign F rfl rfl fun a F => x_end (x_tn (x_seq (x_seq ?_)))
 obtain ⟨o31, hR, hk32⟩ := thn_some hR
 refine x_cutQ (fun a w => ∃ (s34 : Bool), o31 = .nx s34 ∧ Sk a 57 [(3, .pointer (some ⟨b14, 0, none⟩)), (4, .pointer (some ⟨b18, 0, none⟩)), (5, .pointer (some ⟨b21, 0, none⟩)), (32, .bool s34)] ∧ Sep [] B w0 w [bx b21 [v19] 37, bx b18 [.int .i64 x1.size, v16] 33, bx b14 [.int .i64 x0.size, v12] 33]) ?_ ?_
 ·
  refine x_reg (oBA Tryz.isAgg33 Tryz.sizeOf33 F rfl rfl (H.b 2 rfl) rfl rfl (fun a F => ?_))
  obtain ⟨z35, c36, hR⟩ := bnd_some hR
  refine oK F rfl Tryz.call100 rfl H (impl_ValidTemplate_c z35 c36 _ aA (RTemplate.m i11 (H.a h13))) fun a w H F => o_not F rfl rfl fun a F => o_move F rfl rfl (fun a F => ?_)
  rcases bcases (!z35) with hb37 | hb37
  ·
   replace hR := ifT hb37 hR
   have F := F.eq (t := 12) rfl (congrArg Value.bool hb37)
   refine o_no F rfl rfl fun a F => o_no F rfl rfl fun a F => o_no F rfl rfl fun a F => o_pickt F rfl rfl rfl fun a F => o_move F rfl rfl fun a F => o_no F rfl rfl fun a F => o_no F rfl rfl fun a F => o_no F rfl rfl fun a F => o_no F rfl rfl fun a F => o_no F rfl rfl fun a F => o_pickt F rfl rfl rfl (fun a F => ?_)
   refine o_move F rfl rfl fun a F => o_no F rfl rfl fun a F => o_no F rfl rfl fun a F => o_no F rfl rfl fun a F => o_no F rfl rfl fun a F => o_no F rfl rfl fun a F => o_no F rfl rfl fun a F => o_no F rfl rfl fun a F => o_pickt F rfl rfl rfl fun a F => x_end (x_tn ?_)
   exact ⟨true, (Option.some.inj hR).symm, F.sub (sc rfl (sc rfl (sc rfl (sc rfl sn)))), H⟩
  replace hR := ifF hb37 hR
  have F := F.eq (t := 12) rfl (congrArg Value.bool hb37)
  refine oBA Tryz.isAgg33 Tryz.sizeOf33 F rfl rfl (H.b 1 rfl) rfl rfl (fun a F => ?_)
  obtain ⟨z38, c39, hR⟩ := bnd_some hR
  refine oK F rfl Tryz.call100 rfl H (impl_ValidTemplate_c z38 c39 _ aA (RTemplate.m i15 (H.a h17))) fun a w H F => o_not F rfl rfl fun a F => o_pickf F rfl rfl rfl fun a F => o_move F rfl rfl (fun a F => ?_)
  rcases bcases (!z38) with hb40 | hb40
  ·
   replace hR := ifT hb40 hR
   have F := F.eq (t := 17) rfl (congrArg Value.bool hb40)
   refine o_no F rfl rfl fun a F => o_no F rfl rfl fun a F => o_no F rfl rfl fun a F => o_no F rfl rfl fun a F => o_no F rfl rfl fun a F => o_pickt F rfl rfl rfl fun a F => o_move F rfl rfl fun a F => o_no F rfl rfl fun a F => o_no F rfl rfl fun a F => o_no F rfl rfl fun a F => o_no F rfl rfl (fun a F => ?_)
   refine o_no F rfl rfl fun a F => o_no F rfl rfl fun a F => o_no F rfl rfl fun a F => o_pickt F rfl rfl rfl fun a F => x_end (x_tn ?_)
   exact ⟨true, (Option.some.inj hR).symm, F.sub (sc rfl (sc rfl (sc rfl (sc rfl sn)))), H⟩
  replace hR := ifF hb40 hR
  have F := F.eq (t := 17) rfl (congrArg Value.bool hb40)
  refine o_bfield fa33_0 F rfl rfl rfl fun a F => oB Tryz.isAgg2 F rfl rfl (H.b 2 rfl) rfl fun a F => o_bfield fa33_0 F rfl rfl rfl fun a F => oB Tryz.isAgg2 F rfl rfl (H.b 1 rfl) rfl fun a F => o_neq F rfl rfl rfl fun a F => o_pickf F rfl rfl rfl fun a F => o_move F rfl rfl (fun a F => ?_)
  rcases bcases (x0.size != x1.size) with hb41 | hb41
  ·
   replace hR := ifT hb41 hR
   have F := F.eq (t := 24) rfl (congrArg Value.bool hb41)
   refine o_no F rfl rfl fun a F => o_no F rfl rfl fun a F => o_no F rfl rfl fun a F => o_no F rfl rfl fun a F => o_no F rfl rfl fun a F => o_no F rfl rfl fun a F => o_no F rfl rfl fun a F => o_pickt F rfl rfl rfl fun a F => x_end (x_tn ?_)
   exact ⟨true, (Option.some.inj hR).symm, F.sub (sc rfl (sc rfl (sc rfl (sc rfl sn)))), H⟩
  replace hR := ifF hb41 hR
  have F := F.eq (t := 24) rfl (congrArg Value.bool hb41)
  refine o_bfield fa37_0 F rfl rfl rfl fun a F => oB Tryz.isAgg35 F rfl rfl (H.b 0 rfl) rfl fun a F => oL Tryz.underlying35 F rfl rfl h20 fun a i42 F => o_bfield fa33_1 F rfl rfl rfl fun a F => oB Tryz.isAgg31 F rfl rfl (H.b 2 rfl) rfl fun a F => oL Tryz.underlying31 F rfl rfl h13 fun a i43 F => o_neq F rfl rfl rfl fun a F => o_pickf F rfl rfl rfl fun a F => x_end (x_tn ?_)
  exact ⟨((x2.formulas.length : Int) != (x0.rels.length : Int)), (Option.some.inj hR).symm, F.sub (sc rfl (sc rfl (sc rfl (sc rfl sn)))), H⟩
 intro a w ⟨s34, ho33, F, H⟩
 subst ho33
 have hR := then_nx hk32
 refine x_tn (x_if F rfl (fun hb44 => ?_) (fun hb44 => ?_))
 ·
  replace hR := ifT hb44 hR
  refine x_seq (x_reg (o_assign F rfl rfl fun a F => x_end (x_tn (x_ret (x_tr (x_res1 F rfl (rv_t F rfl) ?_))))))
  obtain rfl := Option.some.inj hR
  exact ⟨rfl, H.bl⟩
 replace hR := ifF hb44 hR
 refine x_skip (x_tn (x_seq (x_seq (x_reg (o_bfield fa37_0 F rfl rfl rfl fun a F => oB Tryz.isAgg35 F rfl rfl (H.b 0 rfl) rfl fun a F => oL Tryz.underlying35 F rfl rfl h20 fun a i45 F => o_move F rfl rfl fun a F => x_end (x_tn ?_))))))
 obtain ⟨o80, hR, hk81⟩ := thn_some hR
 refine x_cutQ (fun a w => o80 = .nx () ∧ Sk a 57 [] ∧ Sep [] B w0 w []) ?_ ?_
 ·
  refine x_blk ?_
  obtain ⟨fl84, hf85, hR⟩ := forL_gen hR
  refine x_loop (fun g a w => ∃ (k86 : Nat) (rest87 : List Formula), (k86 ≤ x2.formulas.length ∧ x2.formulas.drop k86 = rest87) ∧ rest87.length = g ∧ forL fl84 rest87 k86 () = some o80 ∧ Sk a 57 [(36, .int .i64 (k86 : Int)), (3, .pointer (some ⟨b14, 0, none⟩)), (4, .pointer (some ⟨b18, 0, none⟩)), (34, v19), (35, .int .i64 (x2.formulas.length : Int))] ∧ Sep [] B w0 w [bx b18 [.int .i64 x1.size, v16] 33, bx b14 [.int .i64 x0.size, v12] 33]) x2.formulas.length ?_ ?_
  ·
   exact ⟨0, x2.formulas, ⟨Nat.zero_le _, rfl⟩, rfl, hR, F.sub (sc rfl (sc rfl (sc rfl (sc rfl (sc rfl sn))))), (H.s [1, 2] rfl rfl)⟩
  intro g89 a w ⟨k86, rest87, hd90, hg91, hR, F, H⟩
  cases rest87 with
  | nil =>
   replace hR := forL_nil hR
   have hkk86 := drop_nil hd90.1 hd90.2
   have hlk86 := dec_no hkk86
   refine x_seq (x_reg (o_lss F rfl rfl rfl fun a F => x_end (x_tn (x_seq (x_ifF F rfl hlk86 (x_exit (x_te (x_te (x_be ?_)))))))))
   refine x_tn ?_
   exact ⟨(Option.some.inj hR).symm, F.sub sn, (H.s [] rfl rfl)⟩
  | cons x88 rest87 =>
   subst hg91
   replace hd90 := drop_cons hd90.2
   have hxk86 := ix_nat hd90.2.1
   obtain ⟨ck86, hR, hn83⟩ := forL_cons hR
   rw [hf85] at hR
   have hlk86 := dec_yes hd90.1
   refine x_seq (x_reg (o_lss F rfl rfl rfl fun a F => x_end (x_tn (x_seq (x_ifT F rfl hlk86 (x_skip (x_tn (x_seq ?_))))))))
   have ikk86 := k64 (Nat.le_of_lt hd90.1) i45
   have ink86 := inc64 hd90.1 i45
   refine x_blk (x_seq (x_reg (o_move F rfl rfl fun a F => oI Tryz.underlying35 Tryz.sizeOf95 F rfl rfl rfl h20 hxk86 fun a p92 h93 F => olA Tryz.isAgg95 Tryz.sizeOf95 F rfl rfl H.sm h93 fun a v94 h95 F => oA Tryz.zeroValue95 F rfl rfl H fun a w b96 H F => o_assign F rfl rfl (fun a F => ?_))))
   obtain ⟨v99, rfl, i97, i98, h100⟩ := RFormula.o h95
   refine oWA (vs := [.int .i64 x88.free, .int .i64 x88.vars, v99]) Tryz.sizeOf95 F rfl rfl rfl H (oc rfl (oc rfl (oc (H.a h100).one on))) rfl rfl fun w H => x_end (x_tn (x_seq ?_))
   obtain ⟨o111, hR, hk112⟩ := thn_some hR
   refine x_cutQ (fun a w => ∃ (s114 : Bool), o111 = .nx s114 ∧ Sk a 57 [(3, .pointer (some ⟨b14, 0, none⟩)), (4, .pointer (some ⟨b18, 0, none⟩)), (34, v19), (35, .int .i64 (x2.formulas.length : Int)), (36, .int .i64 (k86 : Int)), (55, .bool s114)] ∧ Sep [] B w0 w [bx b18 [.int .i64 x1.size, v16] 33, bx b14 [.int .i64 x0.size, v12] 33]) ?_ ?_
   ·
    refine xQ H (by kernel_rfl) (by kernel_rfl) (qBA Tryz.isAgg33 Tryz.sizeOf33 F rfl rfl (H.qb 1 rfl) rfl rfl fun a F => qBA Tryz.isAgg95 Tryz.sizeOf95 F rfl rfl (H.qb 0 rfl) rfl rfl (fun a F => ?_))
    obtain ⟨z115, c116, hR⟩ := bnd_some hR
    refine q_says F rfl Tryz.call101 rfl (fun w w' h l => l.through h) (fun w l => impl_ValidFormula_c z115 c116 w aA (RTemplate.m i15 ((H.go l).a h17)) (RFormula.m i97 i98 ((H.go l).a h100))) fun a F => q_val F rfl (fun w l => r_not F rfl) fun a F => q_val F rfl (fun w l => r_move F rfl) (fun a F => ?_)
    rcases bcases (!z115) with hb117 | hb117
    ·
     replace hR := ifT hb117 hR
     have F := F.eq (t := 45) rfl (congrArg Value.bool hb117)
     refine q_no F rfl rfl fun a F => q_no F rfl rfl fun a F => q_no F rfl rfl fun a F => q_no F rfl rfl fun a F => q_no F rfl rfl fun a F => q_no F rfl rfl fun a F => q_no F rfl rfl fun a F => q_no F rfl rfl fun a F => q_no F rfl rfl fun a F => q_val F rfl (fun w l => r_pickt F rfl rfl) fun a F => q_end (fun w H => ?_)
     refine x_tn ?_
     exact ⟨true, (Option.some.inj hR).symm, F.sub (sc rfl (sc rfl (sc rfl (sc rfl (sc rfl (sc rfl sn)))))), (H.s [1, 2] rfl rfl)⟩
    replace hR := ifF hb117 hR
    have F := F.eq (t := 45) rfl (congrArg Value.bool hb117)
    refine q_val F rfl (fun w l => r_bfield fa95_0 F rfl rfl) fun a F => qB Tryz.isAgg2 F rfl rfl (H.qb 0 rfl) rfl fun a F => q_val F rfl (fun w l => r_bfield fa33_1 F rfl rfl) fun a F => qB Tryz.isAgg31 F rfl rfl (H.qb 2 rfl) rfl fun a F => q_val F rfl (fun w l => r_move F rfl) (fun a F => ?_)
    obtain ⟨z118, c119, hR⟩ := bnd_some hR
    refine qI Tryz.underlying31 Tryz.sizeOf84 F rfl rfl rfl h13 c119 fun a p120 h121 F => qF (s' := 1) fa84_0 F rfl rfl h121 RRel.f0 fun a p122 h123 F => qlI Tryz.isAgg2 F rfl rfl H.q h123 fun a i124 F => q_val F rfl (fun w l => r_neq F rfl rfl) fun a F => q_val F rfl (fun w l => r_pickf F rfl rfl) fun a F => q_end fun w H => x_tn ?_
    exact ⟨(x88.free != z118.arity), (Option.some.inj hR).symm, F.sub (sc rfl (sc rfl (sc rfl (sc rfl (sc rfl (sc rfl sn)))))), (H.s [1, 2] rfl rfl)⟩
   intro a w ⟨s114, ho113, F, H⟩
   subst ho113
   have hR := then_nx hk112
   refine x_tn (x_if F rfl (fun hb125 => ?_) (fun hb125 => ?_))
   ·
    replace hR := ifT hb125 hR
    refine x_seq (x_reg (o_assign F rfl rfl fun a F => x_end (x_tn (x_ret (x_br (x_tr (x_tr ?_)))))))
    replace hR := l_ret hR hn83
    refine x_br (x_tr ?_)
    replace hR := j_ret hR hk81
    refine x_tr (x_res1 F rfl (rv_t F rfl) ?_)
    obtain rfl := Option.some.inj hR
    exact ⟨rfl, H.bl⟩
   replace hR := ifF hb125 hR
   refine x_skip (x_bn (x_tn (x_reg (o_inc F rfl rfl rfl ink86 fun a F => o_move F rfl rfl fun a F => x_end (x_tn ?_)))))
   replace hR := l_go hR hn83
   exact ⟨_, Nat.lt_succ_self _, k86 + 1, rest87, ⟨hd90.1, hd90.2.2⟩, rfl, hR, F.sub (sc rfl (sc rfl (sc rfl (sc rfl (sc rfl sn))))), H⟩
 intro a w ⟨ho82, F, H⟩
 subst ho82
 have hR := then_nx hk81
 refine x_tn (x_seq (x_reg (o_assign F rfl rfl fun a F => x_end (x_tn (x_ret (x_res1 F rfl (rv_t F rfl) ?_))))))
 obtain rfl := Option.some.inj hR
 exact ⟨rfl, H.bl⟩

def slices_Max_s_int64_int64 (x0 : List Int) : Option Int :=
 thn (σ := Unit) (
  if (decide ((x0.length : Int) < 1)) then
   none
  else
   some (.nx ())) fun _ =>
 bnd (ix x0 0) fun z17 =>
 thn (σ := Int) (
  forI (σ := Int) (ρ := Int) (fun (k41 : Nat) (s37 : Int) =>
   bnd (ix x0 (1 + (k41 : Int))) fun z48 =>
   some (.go (if s37 < z48 then z48 else s37))) ((x0.length : Int) - 1).toNat 0 z17) fun s39 =>
 some s39
set_option maxHeartbeats 1000000 in
theorem slices_Max_s_int64_int64_c {B : Nat → Prop} {x0 : List Int} (r : Int) (hR : slices_Max_s_int64_int64 x0 = some r) {v0 : Value} (w0 : World) (hN : ∀ c, B c → c < w0.heap.size) (A0 : Bo B w0 (Sl 1 RInt) v0 x0) : Calls Tryz.prog 219 #[v0] w0 (SaysI r w0) := by
 unfold slices_Max_s_int64_int64 at hR
 refine x_enter (L := [(0, v0)]) Tryz.func219 rfl rfl rfl (sc rfl sn) (fun a F => ?_)
 have H := Sep.start hN
 refine x_seq (x_reg (o_assign F rfl rfl fun a F => x_end (x_tn (x_seq (x_seq (x_reg (o_move F rfl rfl fun a F => oL Tryz.underlying42 F rfl rfl A0 fun a i11 F => o_lss F rfl rfl rfl (fun a F => ?_))))))))
 refine x_end (x_tn ?_)
 obtain ⟨o13, hR, hk14⟩ := thn_some hR
 refine x_cutQ (fun a w => o13 = .nx () ∧ Sk a 25 [(0, v0)] ∧ Sep [] B w0 w []) ?_ ?_
 ·
  refine x_if F rfl (fun hb16 => ?_) (fun hb16 => ?_)
  ·
   replace hR := ifT hb16 hR
   cases hR
  replace hR := ifF hb16 hR
  refine x_skip (x_tn ?_)
  exact ⟨(Option.some.inj hR).symm, F.sub (sc rfl sn), H⟩
 intro a w ⟨ho15, F, H⟩
 subst ho15
 have hR := then_nx hk14
 refine x_tn (x_seq (x_reg (o_move F rfl rfl (fun a F => ?_))))
 obtain ⟨z17, c18, hR⟩ := bnd_some hR
 refine oI Tryz.underlying42 Tryz.sizeOf2 F rfl rfl rfl A0 c18 fun a p19 h20 F => olI Tryz.isAgg2 F rfl rfl H.sm h20 fun a i21 F => o_assign F rfl rfl fun a F => x_end (x_tn (x_seq (x_seq (x_reg (o_assign F rfl rfl fun a F => x_end (x_tn ?_))))))
 obtain ⟨o31, hR, hk32⟩ := thn_some hR
 refine x_cutQ (fun a w => ∃ (s39 : Int), o31 = .nx s39 ∧ Sk a 25 [(3, .int .i64 s39)] ∧ Sep [] B w0 w [] ∧ I64 s39) ?_ ?_
 ·
  refine x_blk ?_
  obtain ⟨fl35, hf36, hR⟩ := forI_gen hR
  refine x_loop (fun g a w => ∃ (k41 : Nat) (s37 : Int), k41 + g = ((x0.length : Int) - 1).toNat ∧ forI fl35 g k41 s37 = some o31 ∧ Sk a 25 [(4, .int .i64 (1 + (k41 : Int))), (0, v0), (3, .int .i64 s37)] ∧ Sep [] B w0 w [] ∧ I64 s37) ((x0.length : Int) - 1).toNat ?_ ?_
  ·
   exact ⟨0, z17, (Nat.zero_add _), hR, F.sub (sc rfl (sc rfl (sc rfl sn))), H, i21⟩
  intro g44 a w ⟨k41, s37, hd45, hR, F, H, i38⟩
  cases g44 with
  | zero =>
   replace hR := forI_zero hR
   have hlk41 := dec_noIO hd45
   refine x_seq (x_seq (x_reg (o_move F rfl rfl fun a F => o_move F rfl rfl fun a F => oL Tryz.underlying42 F rfl rfl A0 fun a i53 F => o_lss F rfl rfl rfl fun a F => x_end (x_tn (x_ifF F rfl hlk41 (x_exit ?_))))))
   refine x_te (x_te (x_be (x_tn ?_)))
   exact ⟨s37, (Option.some.inj hR).symm, F.sub (sc rfl sn), H, i38⟩
  | succ g44 =>
   obtain ⟨ck41, hR, hn34⟩ := forI_succ hR
   rw [hf36] at hR
   have hlk41 := dec_yesIO hd45
   refine x_seq (x_seq (x_reg (o_move F rfl rfl fun a F => o_move F rfl rfl fun a F => oL Tryz.underlying42 F rfl rfl A0 fun a i47 F => o_lss F rfl rfl rfl fun a F => x_end (x_tn (x_ifT F rfl hlk41 (x_skip ?_))))))
   refine x_tn (x_seq ?_)
   have ikk41 := k64O hd45 (show I64 (1) by decide) i47
   have ink41 := inc64O hd45 (show I64 (1) by decide) i47
   refine x_blk (x_reg (o_move F rfl rfl fun a F => o_move F rfl rfl fun a F => o_move F rfl rfl (fun a F => ?_)))
   obtain ⟨z48, c49, hR⟩ := bnd_some hR
   refine oI Tryz.underlying42 Tryz.sizeOf2 F rfl rfl rfl A0 c49 fun a p50 h51 F => olI Tryz.isAgg2 F rfl rfl H.sm h51 fun a i52 F => o_max F rfl rfl rfl fun a F => o_assign F rfl rfl fun a F => x_end (x_bn (x_tn (x_reg (o_move F rfl rfl fun a F => o_incO F rfl rfl rfl ink41 fun a F => o_assign F rfl rfl (fun a F => ?_)))))
   refine x_end (x_tn ?_)
   replace hR := l_go hR hn34
   exact ⟨_, Nat.lt_succ_self _, k41 + 1, (if s37 < z48 then z48 else s37), (by omega), hR, F.sub (sc rfl (sc rfl (sc rfl sn))), H, (max64 i38 i52)⟩
 intro a w ⟨s39, ho33, F, H, i40⟩
 subst ho33
 have hR := then_nx hk32
 refine x_tn (x_seq (x_reg (o_move F rfl rfl fun a F => o_assign F rfl rfl fun a F => x_end (x_tn (x_ret (x_res1 F rfl (rv_t F rfl) ?_))))))
 obtain rfl := Option.some.inj hR
 exact ⟨⟨rfl, H.bl⟩, i40⟩

def impl_chosen (x0 : List Int) (x1 : List Int) : Option (List Int) :=
 thn (σ := (List Int)) (
  forL (σ := (List Int)) (ρ := (List Int)) (fun (k43 : Nat) (x45 : Int) (s37 : (List Int)) =>
   bnd (ix x0 x45) fun z52 =>
   bnd (ap s37 ([z52])) fun z59 =>
   some (.go z59)) x1 0 []) fun s40 =>
 some s40
set_option maxHeartbeats 1000000 in
theorem impl_chosen_c {B : Nat → Prop} {x0 : List Int} {x1 : List Int} (r : (List Int)) (hR : impl_chosen x0 x1 = some r) {v0 : Value} {v1 : Value} (w0 : World) (hN : ∀ c, B c → c < w0.heap.size) (A0 : Bo B w0 (Sl 1 RInt) v0 x0) (A1 : Bo B w0 (Sl 1 RInt) v1 x1) : Calls Tryz.prog 77 #[v0, v1] w0 (Gv (fun v w' => ∃ (v1' : Value), v = v1' ∧ Sep [] B w0 w' [rl 1 RInt 2 v1' r])) := by
 unfold impl_chosen at hR
 refine x_enter (L := [(0, v0), (1, v1)]) Tryz.func77 rfl rfl rfl (sc rfl (sc rfl sn)) (fun a F => ?_)
 have H := Sep.start hN
 refine x_seq (x_reg (o_assign F rfl rfl fun a F => x_end (x_tn (x_seq (x_reg (oR0 (R := RInt) Tryz.underlying42 Tryz.sizeOf2 F rfl H fun a w v11 H F => o_assign F rfl rfl fun a F => x_end (x_tn ?_)))))))
 refine x_seq (x_seq (x_reg (o_move F rfl rfl fun a F => oL Tryz.underlying42 F rfl rfl A1 fun a i13 F => o_move F rfl rfl fun a F => x_end (x_tn ?_))))
 obtain ⟨o31, hR, hk32⟩ := thn_some hR
 refine x_cutQ (fun a w => ∃ (s40 : List Int) (v42 : Value), o31 = .nx s40 ∧ Sk a 24 [(5, v42)] ∧ Sep [] B w0 w [rl 1 RInt 2 v42 s40]) ?_ ?_
 ·
  refine x_blk ?_
  obtain ⟨fl35, hf36, hR⟩ := forL_gen hR
  refine x_loop (fun g a w => ∃ (k43 : Nat) (rest44 : List Int) (s37 : List Int) (v39 : Value), (k43 ≤ x1.length ∧ x1.drop k43 = rest44) ∧ rest44.length = g ∧ forL fl35 rest44 k43 s37 = some o31 ∧ Sk a 24 [(11, .int .i64 (k43 : Int)), (0, v0), (5, v39), (9, v1), (10, .int .i64 (x1.length : Int))] ∧ Sep [] B w0 w [rl 1 RInt 2 v39 s37]) x1.length ?_ ?_
  ·
   exact ⟨0, x1, [], v11, ⟨Nat.zero_le _, rfl⟩, rfl, hR, F.sub (sc rfl (sc rfl (sc rfl (sc rfl (sc rfl sn))))), H⟩
  intro g46 a w ⟨k43, rest44, s37, v39, hd47, hg48, hR, F, H⟩
  cases rest44 with
  | nil =>
   replace hR := forL_nil hR
   have hkk43 := drop_nil hd47.1 hd47.2
   have hlk43 := dec_no hkk43
   refine x_seq (x_reg (o_lss F rfl rfl rfl fun a F => x_end (x_tn (x_seq (x_ifF F rfl hlk43 (x_exit (x_te (x_te (x_be ?_)))))))))
   refine x_tn ?_
   exact ⟨s37, v39, (Option.some.inj hR).symm, F.sub (sc rfl sn), H⟩
  | cons x45 rest44 =>
   subst hg48
   replace hd47 := drop_cons hd47.2
   have hxk43 := ix_nat hd47.2.1
   obtain ⟨ck43, hR, hn34⟩ := forL_cons hR
   rw [hf36] at hR
   have hlk43 := dec_yes hd47.1
   refine x_seq (x_reg (o_lss F rfl rfl rfl fun a F => x_end (x_tn (x_seq (x_ifT F rfl hlk43 (x_skip (x_tn (x_seq ?_))))))))
   have ikk43 := k64 (Nat.le_of_lt hd47.1) i13
   have ink43 := inc64 hd47.1 i13
   refine x_blk (x_seq (x_reg (oI Tryz.underlying42 Tryz.sizeOf2 F rfl rfl rfl A1 hxk43 fun a p49 h50 F => olI Tryz.isAgg2 F rfl rfl H.sm h50 fun a i51 F => o_assign F rfl rfl fun a F => x_end (x_tn (x_reg (o_move F rfl rfl fun a F => o_move F rfl rfl (fun a F => ?_)))))))
   refine o_move F rfl rfl (fun a F => ?_)
   obtain ⟨z52, c53, hR⟩ := bnd_some hR
   refine oI Tryz.underlying42 Tryz.sizeOf2 F rfl rfl rfl A0 c53 fun a p54 h55 F => olI Tryz.isAgg2 F rfl rfl H.sm h55 fun a i56 F => oR1z (R := RInt) (y := z52) Tryz.underlying42 Tryz.sizeOf2 Tryz.zeroValue2 rfl rfl F rfl rfl H (Eo.int i56) (fun a w v57 H F => ?_)
   obtain ⟨z59, c60, hR⟩ := bnd_some hR
   refine oPL (sz := 1) (R := RInt) (z := (.int .i64 0)) (bytes := 8) Tryz.underlying42 (by kernel_rfl) rfl rfl F rfl rfl rfl (H.s [1, 0] rfl rfl) c60 fun a w v61 H F => o_assign F rfl rfl fun a F => x_end (x_bn (x_tn (x_reg (o_inc F rfl rfl rfl ink43 fun a F => o_move F rfl rfl fun a F => x_end (x_tn ?_)))))
   replace hR := l_go hR hn34
   exact ⟨_, Nat.lt_succ_self _, k43 + 1, rest44, z59, v61, ⟨hd47.1, hd47.2.2⟩, rfl, hR, F.sub (sc rfl (sc rfl (sc rfl (sc rfl (sc rfl sn))))), H⟩
 intro a w ⟨s40, v42, ho33, F, H⟩
 subst ho33
 have hR := then_nx hk32
 refine x_tn (x_seq (x_reg (o_move F rfl rfl fun a F => o_assign F rfl rfl fun a F => x_end (x_tn (x_ret (x_res1 F rfl (rv_t F rfl) ?_))))))
 obtain rfl := Option.some.inj hR
 exact ⟨_, rfl, v42, rfl, H⟩

def slices_BinarySearchFunc_s_s_int64_s_int64_s_int64 (N : Nat) (x0 : List (List Int)) (x1 : List Int) (x2 : (List Int) → (List Int) → Option Int) : Option (Int × Bool) :=
 thn (σ := Int × Int) (
  whl (σ := Int × Int) (ρ := Int × Bool) (fun (s : Int × Int) =>
    match s with
    | (s39, s41) =>
    if (decide (s39 < s41)) then
     bnd (ck (s39 + s41)) fun z54 =>
     bnd (nn z54) fun z56 =>
     bnd (ix x0 (z56 / 2)) fun z59 =>
     bnd (x2 z59 x1) fun z65 =>
     if (decide (z65 < 0)) then
      bnd (ck ((z56 / 2) + 1)) fun z68 =>
      some (.go (z68, s41))
     else
      some (.go (s39, (z56 / 2)))
    else
     some (.brk (s39, s41))) N (0, (x0.length : Int))) fun (s43, s45) =>
 thn (σ := Int × Bool) (
  if (decide (s43 < (x0.length : Int))) then  bnd (ix x0 s43) fun z86 =>
   bnd (x2 z86 x1) fun z92 =>
   some (.nx (s43, (z92 == 0))) else  some (.nx (s43, false))) fun (s82, s84) =>
 some (s82, s84)
set_option maxHeartbeats 1000000 in
theorem slices_BinarySearchFunc_s_s_int64_s_int64_s_int64_c {B : Nat → Prop} {N : Nat} {x0 : List (List Int)} {x1 : List Int} {x2 : (List Int) → (List Int) → Option Int} (r : Int × Bool) (hR : slices_BinarySearchFunc_s_s_int64_s_int64_s_int64 N x0 x1 x2 = some r) {v0 : Value} {v1 : Value} {g2 : FuncId} {lb2 : List Value} (w0 : World) (hN : ∀ c, B c → c < w0.heap.size) (A0 : Bo B w0 (Sl 1 (RSl 1 RInt)) v0 x0) (A1 : Bo B w0 (Sl 1 RInt) v1 x1) (hg2 : ∀ args w, (callFunc g2 args).run Tryz.prog w = .ok (.enter g2 args) w) (hp2 : ∀ (a0 : List Int) (a1 : List Int) (r : Int), x2 a0 a1 = some r → ∀ W, Below w0.heap.size w0 W → ∀ (u0 : Value) (u1 : Value), Bo (All W) W (Sl 1 RInt) u0 a0 → Bo (All W) W (Sl 1 RInt) u1 a1 → Calls Tryz.prog g2 ([u0, u1] ++ lb2 : List Value).toArray W (SaysI r W)) : Calls Tryz.prog 185 #[v0, v1, .func (.func g2) #[] lb2.toArray] w0 (Gv (fun v w' => v = .tuple #[.int .i64 r.1, .bool r.2] ∧ Sep [] B w0 w' [] ∧ I64 r.1)) := by
 unfold slices_BinarySearchFunc_s_s_int64_s_int64_s_int64 at hR
 refine x_enter (L := [(0, v0), (1, v1), (2, .func (.func g2) #[] lb2.toArray)]) Tryz.func185 rfl rfl rfl (sc rfl (sc rfl (sc rfl sn))) (fun a F => ?_)
 have H := Sep.start hN
 refine x_seq (x_reg (o_assign F rfl rfl fun a F => o_assign F rfl rfl fun a F => x_end (x_tn (x_seq (x_reg (o_move F rfl rfl fun a F => oL Tryz.underlying82 F rfl rfl A0 fun a i11 F => o_assign F rfl rfl (fun a F => ?_)))))))
 refine x_end (x_tn (x_seq (x_reg (o_move F rfl rfl fun a F => o_assign F rfl rfl fun a F => o_assign F rfl rfl fun a F => x_end (x_tn (x_seq ?_))))))
 obtain ⟨o33, hR, hk34⟩ := thn_some hR
 refine x_cutQ (fun a w => ∃ (s43 : Int) (s45 : Int), o33 = .nx (s43, s45) ∧ Sk a 49 [(0, v0), (1, v1), (2, .func (.func g2) #[] lb2.toArray), (8, .int .i64 (x0.length : Int)), (9, .int .i64 s43)] ∧ Sep [] B w0 w [] ∧ I64 s43 ∧ I64 s45) ?_ ?_
 ·
  refine x_blk ?_
  obtain ⟨fl37, hf38, hR⟩ := whl_gen hR
  refine x_loop (fun g a w => ∃ (s39 : Int) (s41 : Int), whl fl37 g (s39, s41) = some o33 ∧ Sk a 49 [(0, v0), (1, v1), (2, .func (.func g2) #[] lb2.toArray), (8, .int .i64 (x0.length : Int)), (9, .int .i64 s39), (10, .int .i64 s41)] ∧ Sep [] B w0 w [] ∧ I64 s39 ∧ I64 s41) N ?_ ?_
  ·
   exact ⟨0, (x0.length : Int), hR, F.sub (sc rfl (sc rfl (sc rfl (sc rfl (sc rfl (sc rfl sn)))))), H, (show I64 (0) by decide), i11⟩
  intro g50 a w ⟨s39, s41, hR, F, H, i40, i42⟩
  obtain ⟨ck47, rest48, hg52, hR, hn36⟩ := whl_round hR
  rw [hf38] at hR
  refine x_seq (x_seq (x_reg (o_move F rfl rfl fun a F => o_move F rfl rfl fun a F => o_lss F rfl rfl rfl fun a F => x_end (x_tn (x_if F rfl (fun hb53 => ?_) (fun hb53 => ?_))))))
  ·
   replace hR := ifT hb53 hR
   refine x_skip (x_tn (x_blk (x_seq (x_reg (o_move F rfl rfl fun a F => o_move F rfl rfl (fun a F => ?_))))))
   obtain ⟨z54, c55, hR⟩ := bnd_some hR
   refine o_add F rfl rfl rfl c55 (fun a F => ?_)
   obtain ⟨z56, c57, hR⟩ := bnd_some hR
   have i58 : I64 z56 := by rw [(nn_some c57).2]; exact (ck64 c55)
   refine oU1 Tryz.underlying3 Tryz.underlying189 F rfl rfl (ck64 c55) c57 fun a F => oU2 F rfl rfl fun a F => oU3 Tryz.underlying189 Tryz.underlying3 F rfl rfl (half64 i58 (nn_some (show nn z56 = some z56 by rw [(nn_some c57).2]; exact ((nn_some c57).2.symm ▸ c57))).1) fun a F => o_assign F rfl rfl fun a F => x_end (x_tn (x_seq (x_reg (o_move F rfl rfl fun a F => o_move F rfl rfl fun a F => o_move F rfl rfl (fun a F => ?_)))))
   obtain ⟨z59, c60, hR⟩ := bnd_some hR
   refine oI Tryz.underlying82 Tryz.sizeOf42 F rfl rfl rfl A0 c60 fun a p61 h62 F => olS Tryz.isAgg42 F rfl rfl H.sm h62 fun a v63 h64 F => o_move F rfl rfl (fun a F => ?_)
   obtain ⟨z65, c66, hR⟩ := bnd_some hR
   refine oKIV F rfl rfl hg2 rfl H (hp2 _ _ z65 c66 _ H.bl _ _ (H.a h64) (H.a A1)) fun a w H iz65 F => o_lss F rfl rfl rfl fun a F => x_end (x_tn (x_if F rfl (fun hb67 => ?_) (fun hb67 => ?_)))
   ·
    replace hR := ifT hb67 hR
    refine x_reg (o_move F rfl rfl (fun a F => ?_))
    obtain ⟨z68, c69, hR⟩ := bnd_some hR
    refine o_add F rfl rfl rfl c69 fun a F => o_assign F rfl rfl fun a F => x_end (x_bn (x_tn ?_))
    replace hR := l_go hR hn36
    exact ⟨rest48, (by omega), z68, s41, hR, F.sub (sc rfl (sc rfl (sc rfl (sc rfl (sc rfl (sc rfl sn)))))), H, (ck64 c69), i42⟩
   replace hR := ifF hb67 hR
   refine x_reg (o_move F rfl rfl fun a F => o_assign F rfl rfl fun a F => x_end (x_bn (x_tn ?_)))
   replace hR := l_go hR hn36
   exact ⟨rest48, (by omega), s39, (z56 / 2), hR, F.sub (sc rfl (sc rfl (sc rfl (sc rfl (sc rfl (sc rfl sn)))))), H, i40, (half64 i58 (nn_some (show nn z56 = some z56 by rw [(nn_some c57).2]; exact ((nn_some c57).2.symm ▸ c57))).1)⟩
  replace hR := ifF hb53 hR
  refine x_exit (x_te (x_te ?_))
  replace hR := l_brk hR hn36
  refine x_be (x_tn ?_)
  exact ⟨s39, s41, (Option.some.inj hR).symm, F.sub (sc rfl (sc rfl (sc rfl (sc rfl (sc rfl sn))))), H, i40, i42⟩
 intro a w ⟨s43, s45, ho35, F, H, i44, i46⟩
 subst ho35
 have hR := then_nx hk34
 refine x_tn (x_seq ?_)
 obtain ⟨o79, hR, hk80⟩ := thn_some hR
 refine x_cutQ (fun a w => ∃ (s82 : Int) (s84 : Bool), o79 = .nx (s82, s84) ∧ Sk a 49 [(6, .int .i64 s82), (7, .bool s84)] ∧ Sep [] B w0 w [] ∧ I64 s82) ?_ ?_
 ·
  refine x_reg (o_move F rfl rfl fun a F => o_move F rfl rfl fun a F => o_move F rfl rfl fun a F => o_lss F rfl rfl rfl fun a F => o_move F rfl rfl (fun a F => ?_))
  rcases bcases (decide (s43 < (x0.length : Int))) with hb85 | hb85
  ·
   replace hR := ifT hb85 hR
   have F := F.eq (t := 39) rfl (congrArg Value.bool hb85)
   refine o_move F rfl rfl fun a F => o_move F rfl rfl fun a F => o_move F rfl rfl (fun a F => ?_)
   obtain ⟨z86, c87, hR⟩ := bnd_some hR
   refine oI Tryz.underlying82 Tryz.sizeOf42 F rfl rfl rfl A0 c87 fun a p88 h89 F => olS Tryz.isAgg42 F rfl rfl H.sm h89 fun a v90 h91 F => o_move F rfl rfl (fun a F => ?_)
   obtain ⟨z92, c93, hR⟩ := bnd_some hR
   refine oKIV F rfl rfl hg2 rfl H (hp2 _ _ z92 c93 _ H.bl _ _ (H.a h91) (H.a A1)) fun a w H iz92 F => o_eql F rfl rfl rfl fun a F => o_pickt F rfl rfl rfl fun a F => o_assign F rfl rfl fun a F => o_assign F rfl rfl fun a F => x_end (x_tn ?_)
   exact ⟨s43, (z92 == 0), (Option.some.inj hR).symm, F.sub (sc rfl (sc rfl sn)), H, i44⟩
  replace hR := ifF hb85 hR
  have F := F.eq (t := 39) rfl (congrArg Value.bool hb85)
  refine o_no F rfl rfl fun a F => o_no F rfl rfl fun a F => o_no F rfl rfl fun a F => o_no F rfl rfl fun a F => o_no F rfl rfl fun a F => o_no F rfl rfl fun a F => o_no F rfl rfl fun a F => o_no F rfl rfl fun a F => o_pickf F rfl rfl rfl fun a F => o_assign F rfl rfl fun a F => o_assign F rfl rfl (fun a F => ?_)
  refine x_end (x_tn ?_)
  exact ⟨s43, false, (Option.some.inj hR).symm, F.sub (sc rfl (sc rfl sn)), H, i44⟩
 intro a w ⟨s82, s84, ho81, F, H, i83⟩
 subst ho81
 have hR := then_nx hk80
 refine x_tn (x_ret (x_res2 F rfl (rv_t F rfl) (rv_t F rfl) ?_))
 obtain rfl := Option.some.inj hR
 exact ⟨_, rfl, rfl, H, i83⟩

def impl_Rel_has_1 (x0 : List Int) (x1 : List Int) : Option Int :=
 bnd (slices_Compare_s_int64_int64 x0 x1) fun z11 =>
 some z11
set_option maxHeartbeats 1000000 in
theorem impl_Rel_has_1_c {B : Nat → Prop} {x0 : List Int} {x1 : List Int} (r : Int) (hR : impl_Rel_has_1 x0 x1 = some r) {v0 : Value} {v1 : Value} (w0 : World) (hN : ∀ c, B c → c < w0.heap.size) (A0 : Bo B w0 (Sl 1 RInt) v0 x0) (A1 : Bo B w0 (Sl 1 RInt) v1 x1) : Calls Tryz.prog 186 #[v0, v1] w0 (SaysI r w0) := by
 unfold impl_Rel_has_1 at hR
 refine x_enter (L := [(0, v0), (1, v1)]) Tryz.func186 rfl rfl rfl (sc rfl (sc rfl sn)) (fun a F => ?_)
 have H := Sep.start hN
 refine x_seq (x_reg (o_assign F rfl rfl fun a F => x_end (x_tn (x_seq (x_reg (o_move F rfl rfl fun a F => o_move F rfl rfl (fun a F => ?_)))))))
 obtain ⟨z11, c12, hR⟩ := bnd_some hR
 refine oKI F rfl Tryz.call187 rfl H (slices_Compare_s_int64_int64_c z11 c12 _ aA (H.a A0) (H.a A1)) fun a w H iz11 F => o_assign F rfl rfl fun a F => x_end (x_tn (x_ret (x_res1 F rfl (rv_t F rfl) ?_)))
 obtain rfl := Option.some.inj hR
 exact ⟨⟨rfl, H.bl⟩, iz11⟩

def impl_Rel_has (N : Nat) (x0 : Rel) (x1 : List Int) : Option Bool :=
 bnd (slices_BinarySearchFunc_s_s_int64_s_int64_s_int64 N x0.tuples x1 (fun a0 a1 => impl_Rel_has_1 a0 a1)) fun z15 =>
 some z15.2
set_option maxHeartbeats 1000000 in
theorem impl_Rel_has_c {B : Nat → Prop} {N : Nat} {x0 : Rel} {x1 : List Int} (r : Bool) (hR : impl_Rel_has N x0 x1 = some r) {v0 : Value} {v1 : Value} (w0 : World) (hN : ∀ c, B c → c < w0.heap.size) (A0 : Bo B w0 (Agg 2 RRel) v0 x0) (A1 : Bo B w0 (Sl 1 RInt) v1 x1) : Calls Tryz.prog 105 #[v0, v1] w0 (Says (.bool r) w0) := by
 unfold impl_Rel_has at hR
 refine x_enter (L := [(0, v0), (1, v1)]) Tryz.func105 rfl rfl rfl (sc rfl (sc rfl sn)) (fun a F => ?_)
 have H := Sep.start hN
 refine x_seq (x_reg ?_)
 obtain ⟨v12, rfl, i11, h13⟩ := RRel.o A0
 refine oX F rfl rfl rfl H fun a w b14 H F => o_assign F rfl rfl fun a F => x_end (x_tn (x_seq (x_reg (o_bfield fa84_1 F rfl rfl rfl fun a F => oB Tryz.isAgg82 F rfl rfl (H.b 0 rfl) rfl fun a F => o_move F rfl rfl (fun a F => ?_)))))
 obtain ⟨z15, c16, hR⟩ := bnd_some hR
 refine oG F rfl Tryz.call185 rfl (slices_BinarySearchFunc_s_s_int64_s_int64_s_int64_c z15 c16 _ aA (H.a h13) (H.a A1) Tryz.call186 (fun a0 a1 r h W l1 u0 u1 f0 f1 => impl_Rel_has_1_c r h W aA f0 f1)) (fun a vv w ⟨hv18, S, i17⟩ F => ?_)
 subst vv
 have H := H.r0 S
 refine o_move F rfl rfl fun a F => o_extract F rfl rfl rfl fun a F => o_extract F rfl rfl rfl fun a F => o_assign F rfl rfl fun a F => o_assign F rfl rfl fun a F => x_end (x_tn (x_seq (x_reg (o_move F rfl rfl fun a F => o_assign F rfl rfl (fun a F => ?_)))))
 refine x_end (x_tn (x_ret (x_res1 F rfl (rv_t F rfl) ?_)))
 obtain rfl := Option.some.inj hR
 exact ⟨rfl, H.bl⟩

def impl_Template_holds (N : Nat) (x0 : Template) (x1 : Atom) (x2 : List Int) : Option Bool :=
 bnd (impl_chosen x2 x1.args) fun z19 =>
 if (x1.rel == (-1)) then
  bnd (ix z19 0) fun z25 =>
  bnd (ix z19 1) fun z30 =>
  some ((z25 == z30))
 else
  bnd (ix x0.rels x1.rel) fun z35 =>
  bnd (impl_Rel_has N z35 z19) fun z41 =>
  some z41
set_option maxHeartbeats 1000000 in
theorem impl_Template_holds_c {B : Nat → Prop} {N : Nat} {x0 : Template} {x1 : Atom} {x2 : List Int} (r : Bool) (hR : impl_Template_holds N x0 x1 x2 = some r) {v0 : Value} {v1 : Value} {v2 : Value} (w0 : World) (hN : ∀ c, B c → c < w0.heap.size) (A0 : Bo B w0 (Agg 2 RTemplate) v0 x0) (A1 : Bo B w0 (Agg 2 RAtom) v1 x1) (A2 : Bo B w0 (Sl 1 RInt) v2 x2) : Calls Tryz.prog 221 #[v0, v1, v2] w0 (Says (.bool r) w0) := by
 unfold impl_Template_holds at hR
 refine x_enter (L := [(0, v0), (1, v1), (2, v2)]) Tryz.func221 rfl rfl rfl (sc rfl (sc rfl (sc rfl sn))) (fun a F => ?_)
 have H := Sep.start hN
 refine x_seq (x_reg ?_)
 obtain ⟨v12, rfl, i11, h13⟩ := RTemplate.o A0
 refine oX F rfl rfl rfl H (fun a w b14 H F => ?_)
 obtain ⟨v16, rfl, i15, h17⟩ := RAtom.o A1
 refine oX F rfl rfl rfl H fun a w b18 H F => o_assign F rfl rfl fun a F => x_end (x_tn (x_seq (x_reg (o_move F rfl rfl fun a F => o_bfield fa158_1 F rfl rfl rfl fun a F => oB Tryz.isAgg42 F rfl rfl (H.b 0 rfl) rfl (fun a F => ?_)))))
 obtain ⟨z19, c20, hR⟩ := bnd_some hR
 refine oG F rfl Tryz.call77 rfl (impl_chosen_c z19 c20 _ aA (H.a A2) (H.a h17)) (fun a vv w ⟨v21, hv23, S⟩ F => ?_)
 subst vv
 have H := H.r1 S n0
 refine o_assign F rfl rfl fun a F => x_end (x_tn (x_seq (x_seq (x_reg (o_bfield fa158_0 F rfl rfl rfl fun a F => oB Tryz.isAgg2 F rfl rfl (H.b 1 rfl) rfl fun a F => o_eql F rfl rfl rfl fun a F => x_end (x_tn ?_))))))
 refine x_if F rfl (fun hb24 => ?_) (fun hb24 => ?_)
 ·
  replace hR := ifT hb24 hR
  refine x_seq (xQ H (by kernel_rfl) (by kernel_rfl) (q_val F rfl (fun w l => r_move F rfl) (fun a F => ?_)))
  obtain ⟨z25, c26, hR⟩ := bnd_some hR
  refine qI Tryz.underlying42 Tryz.sizeOf2 F rfl rfl rfl (H.l 0 rfl) c26 fun a p27 h28 F => qlI Tryz.isAgg2 F rfl rfl qA h28 fun a i29 F => q_val F rfl (fun w l => r_move F rfl) (fun a F => ?_)
  obtain ⟨z30, c31, hR⟩ := bnd_some hR
  refine qI Tryz.underlying42 Tryz.sizeOf2 F rfl rfl rfl (H.l 0 rfl) c31 fun a p32 h33 F => qlI Tryz.isAgg2 F rfl rfl qA h33 fun a i34 F => q_val F rfl (fun w l => r_eql F rfl rfl) fun a F => q_val F rfl (fun w l => r_assign F rfl) fun a F => q_end fun w H => x_tn (x_ret (x_tr (x_res1 F rfl (rv_t F rfl) ?_)))
  obtain rfl := Option.some.inj hR
  exact ⟨rfl, H.bl⟩
 replace hR := ifF hb24 hR
 refine x_skip (x_tn (x_seq (x_reg (o_bfield fa33_1 F rfl rfl rfl fun a F => oB Tryz.isAgg31 F rfl rfl (H.b 2 rfl) rfl fun a F => o_bfield fa158_0 F rfl rfl rfl fun a F => oB Tryz.isAgg2 F rfl rfl (H.b 1 rfl) rfl (fun a F => ?_)))))
 obtain ⟨z35, c36, hR⟩ := bnd_some hR
 refine oI Tryz.underlying31 Tryz.sizeOf84 F rfl rfl rfl h13 c36 fun a p37 h38 F => olA Tryz.isAgg84 Tryz.sizeOf84 F rfl rfl H.sm h38 fun a v39 h40 F => o_move F rfl rfl (fun a F => ?_)
 obtain ⟨z41, c42, hR⟩ := bnd_some hR
 refine oK F rfl Tryz.call105 rfl H (impl_Rel_has_c z41 c42 _ aA (H.a h40) (H.l 0 rfl)) fun a w H F => o_assign F rfl rfl fun a F => x_end (x_tn (x_ret (x_res1 F rfl (rv_t F rfl) ?_)))
 obtain rfl := Option.some.inj hR
 exact ⟨rfl, H.bl⟩

def slices_Clone_s_int64_int64 (x0 : List Int) : Option (List Int) :=
 bnd (ap ([]) x0) fun z17 =>
 some z17
set_option maxHeartbeats 1000000 in
theorem slices_Clone_s_int64_int64_c {B : Nat → Prop} {x0 : List Int} (r : (List Int)) (hR : slices_Clone_s_int64_int64 x0 = some r) {v0 : Value} (w0 : World) (hN : ∀ c, B c → c < w0.heap.size) (A0 : Bo B w0 (Sl 1 RInt) v0 x0) : Calls Tryz.prog 56 #[v0] w0 (Gv (fun v w' => ∃ (v1' : Value), v = v1' ∧ Sep [] B w0 w' [rl 1 RInt 2 v1' r])) := by
 unfold slices_Clone_s_int64_int64 at hR
 refine x_enter (L := [(0, v0)]) Tryz.func56 rfl rfl rfl (sc rfl sn) (fun a F => ?_)
 have H := Sep.start hN
 refine x_seq (x_reg (o_assign F rfl rfl fun a F => x_end (x_tn (x_seq (x_seq (x_reg (o_move F rfl rfl fun a F => oEn Tryz.underlying42 F rfl rfl rfl (H.a A0) fun a nb11 hn12 F => x_end ?_)))))))
 refine x_tn (x_if F rfl (fun hb13 => ?_) (fun hb13 => ?_))
 ·
  replace hR : some ([]) = some r := by rw [hn12 hb13] at hR; exact hR
  refine x_seq (x_reg (o_assign F rfl rfl fun a F => x_end (x_tn (x_ret (x_tr (x_res1 F rfl (rv_t F rfl) ?_))))))
  obtain rfl := Option.some.inj hR
  exact ⟨_, rfl, (.slice none 0 0), rfl, (H.nl 1 RInt 2)⟩
 refine x_skip (x_tn (x_seq (x_reg (oR0 (R := RInt) Tryz.underlying42 Tryz.sizeOf2 F rfl H fun a w v15 H F => o_move F rfl rfl (fun a F => ?_)))))
 obtain ⟨z17, c18, hR⟩ := bnd_some hR
 refine oPf (sz := 1) (R := RInt) (z := (.int .i64 0)) (bytes := 8) Tryz.underlying42 (by kernel_rfl) rfl rfl F rfl rfl rfl H.lw (H.lw.a A0) c18 (fun a w v19 H F => ?_)
 have H := H.tl
 refine o_assign F rfl rfl fun a F => x_end (x_tn (x_ret (x_res1 F rfl (rv_t F rfl) ?_)))
 obtain rfl := Option.some.inj hR
 exact ⟨_, rfl, v19, rfl, H⟩

def impl_power (x0 : Int) (x1 : Int) : Option Int :=
 thn (σ := Int) (
  forI (σ := Int) (ρ := Int) (fun (k25 : Nat) (s21 : Int) =>
   bnd (ck (s21 * x0)) fun z31 =>
   some (.go z31)) x1.toNat 0 1) fun s23 =>
 some s23
set_option maxHeartbeats 1000000 in
theorem impl_power_c {B : Nat → Prop} {x0 : Int} {x1 : Int} (r : Int) (hR : impl_power x0 x1 = some r)  (w0 : World) (hN : ∀ c, B c → c < w0.heap.size) (hx0 : I64 x0) (hx1 : I64 x1) : Calls Tryz.prog 183 #[.int .i64 x0, .int .i64 x1] w0 (SaysI r w0) := by
 unfold impl_power at hR
 refine x_enter (L := [(0, .int .i64 x0), (1, .int .i64 x1)]) Tryz.func183 rfl rfl rfl (sc rfl (sc rfl sn)) (fun a F => ?_)
 have H := Sep.start hN
 refine x_seq (x_reg (o_assign F rfl rfl fun a F => x_end (x_tn (x_seq (x_reg (o_assign F rfl rfl fun a F => x_end (x_tn (x_seq ?_))))))))
 refine x_seq (x_reg (o_move F rfl rfl fun a F => o_move F rfl rfl fun a F => x_end (x_tn ?_)))
 obtain ⟨o15, hR, hk16⟩ := thn_some hR
 refine x_cutQ (fun a w => ∃ (s23 : Int), o15 = .nx s23 ∧ Sk a 14 [(5, .int .i64 s23)] ∧ Sep [] B w0 w [] ∧ I64 s23) ?_ ?_
 ·
  refine x_blk ?_
  obtain ⟨fl19, hf20, hR⟩ := forI_gen hR
  refine x_loop (fun g a w => ∃ (k25 : Nat) (s21 : Int), k25 + g = x1.toNat ∧ forI fl19 g k25 s21 = some o15 ∧ Sk a 14 [(7, .int .i64 (k25 : Int)), (0, .int .i64 x0), (5, .int .i64 s21), (6, .int .i64 x1)] ∧ Sep [] B w0 w [] ∧ I64 s21) x1.toNat ?_ ?_
  ·
   exact ⟨0, 1, (Nat.zero_add _), hR, F.sub (sc rfl (sc rfl (sc rfl (sc rfl sn)))), H, (show I64 (1) by decide)⟩
  intro g28 a w ⟨k25, s21, hd29, hR, F, H, i22⟩
  cases g28 with
  | zero =>
   replace hR := forI_zero hR
   have hlk25 := dec_noI hd29
   refine x_seq (x_reg (o_lss F rfl rfl rfl fun a F => x_end (x_tn (x_seq (x_ifF F rfl hlk25 (x_exit (x_te (x_te (x_be ?_)))))))))
   refine x_tn ?_
   exact ⟨s21, (Option.some.inj hR).symm, F.sub (sc rfl sn), H, i22⟩
  | succ g28 =>
   obtain ⟨ck25, hR, hn18⟩ := forI_succ hR
   rw [hf20] at hR
   have hlk25 := dec_yesI hd29
   refine x_seq (x_reg (o_lss F rfl rfl rfl fun a F => x_end (x_tn (x_seq (x_ifT F rfl hlk25 (x_skip (x_tn (x_seq ?_))))))))
   have ikk25 := k64I hd29 hx1
   have ink25 := inc64I hd29 hx1
   refine x_blk (x_reg (o_move F rfl rfl fun a F => o_move F rfl rfl (fun a F => ?_)))
   obtain ⟨z31, c32, hR⟩ := bnd_some hR
   refine o_mul F rfl rfl rfl c32 fun a F => o_assign F rfl rfl fun a F => x_end (x_bn (x_tn (x_reg (o_inc F rfl rfl rfl ink25 fun a F => o_move F rfl rfl fun a F => x_end (x_tn ?_)))))
   replace hR := l_go hR hn18
   exact ⟨_, Nat.lt_succ_self _, k25 + 1, z31, (by omega), hR, F.sub (sc rfl (sc rfl (sc rfl (sc rfl sn)))), H, (ck64 c32)⟩
 intro a w ⟨s23, ho17, F, H, i24⟩
 subst ho17
 have hR := then_nx hk16
 refine x_tn (x_seq (x_reg (o_move F rfl rfl fun a F => o_assign F rfl rfl fun a F => x_end (x_tn (x_ret (x_res1 F rfl (rv_t F rfl) ?_))))))
 obtain rfl := Option.some.inj hR
 exact ⟨⟨rfl, H.bl⟩, i24⟩

def impl_listOf (N : Nat) (x0 : Int) (x1 : Int) (x2 : Int) : Option (List Int) :=
 bnd (mkz (0 : Int) x1) fun z11 =>
 bnd (ck (x1 - 1)) fun z15 =>
 thn (σ := Int × Int × (List Int)) (
  whl (σ := Int × Int × (List Int)) (ρ := (List Int)) (fun (s : Int × Int × (List Int)) =>
    match s with
    | (s60, s62, s64) =>
    if (decide (0 ≤ s62)) then
     bnd (rm s60 x0) fun z81 =>
     bnd (ix s64 s62) fun z83 =>
     bnd (dv s60 x0) fun z89 =>
     bnd (ck (s62 - 1)) fun z91 =>
     some (.go (z89, z91, (s64.set (s62).toNat z81)))
    else
     some (.brk (s60, s62, s64))) N (x2, z15, z11)) fun (s67, s69, s71) =>
 some s71
set_option maxHeartbeats 1000000 in
theorem impl_listOf_c {B : Nat → Prop} {N : Nat} {x0 : Int} {x1 : Int} {x2 : Int} (r : (List Int)) (hR : impl_listOf N x0 x1 x2 = some r)  (w0 : World) (hN : ∀ c, B c → c < w0.heap.size) (hx0 : I64 x0) (hx1 : I64 x1) (hx2 : I64 x2) : Calls Tryz.prog 184 #[.int .i64 x0, .int .i64 x1, .int .i64 x2] w0 (Gv (fun v w' => ∃ (v1' : Value), v = v1' ∧ Sep [] B w0 w' [rl 1 RInt 2 v1' r])) := by
 unfold impl_listOf at hR
 refine x_enter (L := [(0, .int .i64 x0), (1, .int .i64 x1), (2, .int .i64 x2)]) Tryz.func184 rfl rfl rfl (sc rfl (sc rfl (sc rfl sn))) (fun a F => ?_)
 have H := Sep.start hN
 refine x_seq (x_reg (o_assign F rfl rfl fun a F => x_end (x_tn (x_seq (x_reg (o_move F rfl rfl (fun a F => ?_)))))))
 obtain ⟨z11, c12, hR⟩ := bnd_some hR
 refine oRM (sz := 1) (R := RInt) (z := (.int .i64 0)) (bytes := 8) Tryz.underlying42 (by kernel_rfl) rfl (by decide) (by decide) (fun w => ⟨rfl, by decide, rfl⟩) F rfl rfl rfl c12 H fun a w v13 H F => o_assign F rfl rfl fun a F => x_end (x_tn (x_seq (x_seq (x_reg (o_move F rfl rfl (fun a F => ?_))))))
 obtain ⟨z15, c16, hR⟩ := bnd_some hR
 refine o_sub F rfl rfl rfl c16 fun a F => o_assign F rfl rfl fun a F => x_end (x_tn ?_)
 obtain ⟨o54, hR, hk55⟩ := thn_some hR
 refine x_cutQ (fun a w => ∃ (s67 : Int) (s69 : Int) (s71 : List Int) (v73 : Value), o54 = .nx (s67, s69, s71) ∧ Sk a 27 [(7, v73)] ∧ Sep [] B w0 w [rl 1 RInt 2 v73 s71] ∧ I64 s67 ∧ I64 s69) ?_ ?_
 ·
  refine x_blk ?_
  obtain ⟨fl58, hf59, hR⟩ := whl_gen hR
  refine x_loop (fun g a w => ∃ (s60 : Int) (s62 : Int) (s64 : List Int) (v66 : Value), whl fl58 g (s60, s62, s64) = some o54 ∧ Sk a 27 [(0, .int .i64 x0), (2, .int .i64 s60), (7, v66), (8, .int .i64 s62)] ∧ Sep [] B w0 w [rl 1 RInt 2 v66 s64] ∧ I64 s60 ∧ I64 s62) N ?_ ?_
  ·
   exact ⟨x2, z15, z11, v13, hR, F.sub (sc rfl (sc rfl (sc rfl (sc rfl sn)))), H, hx2, (ck64 c16)⟩
  intro g77 a w ⟨s60, s62, s64, v66, hR, F, H, i61, i63⟩
  obtain ⟨ck74, rest75, hg79, hR, hn57⟩ := whl_round hR
  rw [hf59] at hR
  refine x_seq (x_seq (x_reg (o_move F rfl rfl fun a F => o_geq F rfl rfl rfl fun a F => x_end (x_tn (x_if F rfl (fun hb80 => ?_) (fun hb80 => ?_))))))
  ·
   replace hR := ifT hb80 hR
   refine x_skip (x_tn (x_seq (x_blk (x_seq (x_reg (o_move F rfl rfl fun a F => o_move F rfl rfl fun a F => o_move F rfl rfl fun a F => o_move F rfl rfl (fun a F => ?_)))))))
   obtain ⟨z81, c82, hR⟩ := bnd_some hR
   refine o_rem F rfl rfl rfl c82 (fun a F => ?_)
   obtain ⟨z83, c84, hR⟩ := bnd_some hR
   refine oRl Tryz.underlying42 Tryz.sizeOf2 F rfl rfl rfl H 0 rfl c84 (fun a p85 h86 rp87 F => ?_)
   have H := H.lw
   refine oS Tryz.sizeOf2 F rfl rfl rfl H rp87 (ix_lt c84) (Eo.int (rm64 c82 i61 hx0)) rfl rfl (fun w H => ?_)
   have H := H.tl
   refine x_end (x_tn (x_reg (o_move F rfl rfl fun a F => o_move F rfl rfl (fun a F => ?_))))
   obtain ⟨z89, c90, hR⟩ := bnd_some hR
   refine o_quo F rfl rfl rfl c90 fun a F => o_assign F rfl rfl fun a F => x_end (x_bn (x_tn (x_reg (o_move F rfl rfl (fun a F => ?_)))))
   obtain ⟨z91, c92, hR⟩ := bnd_some hR
   refine o_sub F rfl rfl rfl c92 fun a F => o_assign F rfl rfl fun a F => x_end (x_tn ?_)
   replace hR := l_go hR hn57
   exact ⟨rest75, (by omega), z89, z91, (s64.set (s62).toNat z81), v66, hR, F.sub (sc rfl (sc rfl (sc rfl (sc rfl sn)))), H, (dv64 c90), (ck64 c92)⟩
  replace hR := ifF hb80 hR
  refine x_exit (x_te (x_te ?_))
  replace hR := l_brk hR hn57
  refine x_be (x_tn ?_)
  exact ⟨s60, s62, s64, v66, (Option.some.inj hR).symm, F.sub (sc rfl sn), H, i61, i63⟩
 intro a w ⟨s67, s69, s71, v73, ho56, F, H, i68, i70⟩
 subst ho56
 have hR := then_nx hk55
 refine x_tn (x_seq (x_reg (o_move F rfl rfl fun a F => o_assign F rfl rfl fun a F => x_end (x_tn (x_ret (x_res1 F rfl (rv_t F rfl) ?_))))))
 obtain rfl := Option.some.inj hR
 exact ⟨_, rfl, v73, rfl, H⟩

def impl_relOf (N : Nat) (x0 : Int) (x1 : Int) (x2 : (List Int) → Option Bool) : Option Rel :=
 bnd (impl_power x0 x1) fun z13 =>
 thn (σ := (List (List Int))) (
  forI (σ := (List (List Int))) (ρ := Rel) (fun (k59 : Nat) (s53 : (List (List Int))) =>
   bnd (impl_listOf N x0 x1 (k59 : Int)) fun z65 =>
   bnd (x2 z65) fun z70 =>
   if z70 then
    bnd (ap s53 ([z65])) fun z75 =>
    some (.go z75)
   else
    some (.go s53)) z13.toNat 0 []) fun s56 =>
 some ((Rel.mk x1 s56))
set_option maxHeartbeats 1000000 in
theorem impl_relOf_c {B : Nat → Prop} {N : Nat} {x0 : Int} {x1 : Int} {x2 : (List Int) → Option Bool} (r : Rel) (hR : impl_relOf N x0 x1 x2 = some r) {g2 : FuncId} {lb2 : List Value} (w0 : World) (hN : ∀ c, B c → c < w0.heap.size) (hx0 : I64 x0) (hx1 : I64 x1) (hg2 : ∀ args w, (callFunc g2 args).run Tryz.prog w = .ok (.enter g2 args) w) (hp2 : ∀ (a0 : List Int) (r : Bool), x2 a0 = some r → ∀ W, Below w0.heap.size w0 W → ∀ (u0 : Value), Bo (All W) W (Sl 1 RInt) u0 a0 → Calls Tryz.prog g2 ([u0] ++ lb2 : List Value).toArray W (Says (.bool r) W)) : Calls Tryz.prog 103 #[.int .i64 x0, .int .i64 x1, .func (.func g2) #[] lb2.toArray] w0 (Gv (fun v w' => ∃ (v1' : Value), v = .agg #[.int .i64 r.arity, v1'] ∧ Sep [] B w0 w' [rl 1 (RSl 1 RInt) 42 v1' r.tuples] ∧ I64 r.arity)) := by
 unfold impl_relOf at hR
 refine x_enter (L := [(0, .int .i64 x0), (1, .int .i64 x1), (2, .func (.func g2) #[] lb2.toArray)]) Tryz.func103 rfl rfl rfl (sc rfl (sc rfl (sc rfl sn))) (fun a F => ?_)
 have H := Sep.start hN
 refine x_seq (x_reg (oA Tryz.zeroValue84 F rfl rfl H fun a w b11 H F => x_end (x_tn (x_seq (x_reg (o_move F rfl rfl fun a F => o_build Tryz.underlying84 Tryz.zeroValue84 (fun w => by simp [Tryz.sizeOf2, Tryz.sizeOf82]; rfl) F rfl rfl rfl rfl rfl (oc rfl on) rfl rfl fun a F => oA Tryz.zeroValue84 F rfl rfl H fun a w b12 H F => oWA (vs := [.int .i64 x1, (.slice none 0 0)]) Tryz.sizeOf84 F rfl rfl rfl H (oc rfl (oc rfl on)) rfl rfl (fun w H => ?_)))))))
 refine x_end (x_tn (x_seq (x_seq (x_reg (o_move F rfl rfl fun a F => o_move F rfl rfl (fun a F => ?_))))))
 obtain ⟨z13, c14, hR⟩ := bnd_some hR
 refine oKI F rfl Tryz.call183 rfl H (impl_power_c z13 c14 _ aA hx0 hx1) fun a w H iz13 F => o_move F rfl rfl fun a F => x_end (x_tn ?_)
 obtain ⟨o47, hR, hk48⟩ := thn_some hR
 refine x_cutQ (fun a w => ∃ (s56 : List (List Int)) (v58 : Value), o47 = .nx s56 ∧ Sk a 33 [(6, .pointer (some ⟨b11, 0, none⟩)), (7, .pointer (some ⟨b12, 0, none⟩))] ∧ Sep [] B w0 w [rl 1 (RSl 1 RInt) 42 v58 s56, bx b12 [.int .i64 x1, v58] 84, bx b11 [.int .i64 0, (.slice none 0 0)] 84]) ?_ ?_
 ·
  refine x_blk ?_
  obtain ⟨fl51, hf52, hR⟩ := forI_gen hR
  refine x_loop (fun g a w => ∃ (k59 : Nat) (s53 : List (List Int)) (v55 : Value), k59 + g = z13.toNat ∧ forI fl51 g k59 s53 = some o47 ∧ Sk a 33 [(15, .int .i64 (k59 : Int)), (0, .int .i64 x0), (1, .int .i64 x1), (2, .func (.func g2) #[] lb2.toArray), (6, .pointer (some ⟨b11, 0, none⟩)), (7, .pointer (some ⟨b12, 0, none⟩)), (14, .int .i64 z13)] ∧ Sep [] B w0 w [rl 1 (RSl 1 RInt) 42 v55 s53, bx b12 [.int .i64 x1, v55] 84, bx b11 [.int .i64 0, (.slice none 0 0)] 84]) z13.toNat ?_ ?_
  ·
   exact ⟨0, [], (.slice none 0 0), (Nat.zero_add _), hR, F.sub (sc rfl (sc rfl (sc rfl (sc rfl (sc rfl (sc rfl (sc rfl sn))))))), (H.nl 1 (RSl 1 RInt) 42)⟩
  intro g62 a w ⟨k59, s53, v55, hd63, hR, F, H⟩
  cases g62 with
  | zero =>
   replace hR := forI_zero hR
   have hlk59 := dec_noI hd63
   refine x_seq (x_reg (o_lss F rfl rfl rfl fun a F => x_end (x_tn (x_seq (x_ifF F rfl hlk59 (x_exit (x_te (x_te (x_be ?_)))))))))
   refine x_tn ?_
   exact ⟨s53, v55, (Option.some.inj hR).symm, F.sub (sc rfl (sc rfl sn)), H⟩
  | succ g62 =>
   obtain ⟨ck59, hR, hn50⟩ := forI_succ hR
   rw [hf52] at hR
   have hlk59 := dec_yesI hd63
   refine x_seq (x_reg (o_lss F rfl rfl rfl fun a F => x_end (x_tn (x_seq (x_ifT F rfl hlk59 (x_skip (x_tn (x_seq ?_))))))))
   have ikk59 := k64I hd63 iz13
   have ink59 := inc64I hd63 iz13
   refine x_blk (x_seq (x_reg (o_move F rfl rfl fun a F => o_assign F rfl rfl fun a F => x_end (x_tn (x_seq (x_reg (o_move F rfl rfl fun a F => o_move F rfl rfl (fun a F => ?_))))))))
   refine o_move F rfl rfl (fun a F => ?_)
   obtain ⟨z65, c66, hR⟩ := bnd_some hR
   refine oG F rfl Tryz.call184 rfl (impl_listOf_c z65 c66 _ aA hx0 hx1 ikk59) (fun a vv w ⟨v67, hv69, S⟩ F => ?_)
   subst vv
   have H := H.r1 S n0
   refine o_assign F rfl rfl fun a F => x_end (x_tn (x_seq (x_reg (o_move F rfl rfl fun a F => o_move F rfl rfl (fun a F => ?_)))))
   obtain ⟨z70, c71, hR⟩ := bnd_some hR
   refine oKV F rfl rfl hg2 rfl H (hp2 _ z70 c71 _ H.bl _ (H.l 0 rfl)) fun a w H F => x_end (x_tn (x_if F rfl (fun hb72 => ?_) (fun hb72 => ?_)))
   ·
    replace hR := ifT hb72 hR
    refine x_reg (o_bfield fa84_1 F rfl rfl rfl fun a F => oB Tryz.isAgg82 F rfl rfl (H.b 2 rfl) rfl fun a F => o_move F rfl rfl (fun a F => ?_))
    have H := H.os
    refine oR1L (R := (RSl 1 RInt)) (y := z65) Tryz.underlying82 Tryz.sizeOf42 Tryz.zeroValue42 rfl rfl F rfl rfl H El.sl (fun a w v73 H F => ?_)
    obtain ⟨z75, c76, hR⟩ := bnd_some hR
    refine oPL (sz := 1) (R := (RSl 1 RInt)) (z := ((.slice none 0 0))) (bytes := 24) Tryz.underlying82 (by kernel_rfl) rfl rfl F rfl rfl rfl (H.s [1, 0, 2, 3] rfl rfl) c76 fun a w v77 H F => o_bfield fa84_1 F rfl rfl rfl fun a F => oW Tryz.sizeOf82 F rfl rfl rfl (H.s [1, 0, 2] rfl rfl) ((H.s [1, 0, 2] rfl rfl).l 1 rfl).one rfl rfl fun w H => x_end (x_bn (x_tn (x_reg (o_inc F rfl rfl rfl ink59 fun a F => o_move F rfl rfl fun a F => x_end (x_tn ?_)))))
    replace hR := l_go hR hn50
    exact ⟨_, Nat.lt_succ_self _, k59 + 1, z75, v77, (by omega), hR, F.sub (sc rfl (sc rfl (sc rfl (sc rfl (sc rfl (sc rfl (sc rfl sn))))))), (H.s [1, 0, 2] rfl rfl)⟩
   replace hR := ifF hb72 hR
   refine x_skip (x_bn (x_tn (x_reg (o_inc F rfl rfl rfl ink59 fun a F => o_move F rfl rfl fun a F => x_end (x_tn ?_)))))
   replace hR := l_go hR hn50
   exact ⟨_, Nat.lt_succ_self _, k59 + 1, s53, v55, (by omega), hR, F.sub (sc rfl (sc rfl (sc rfl (sc rfl (sc rfl (sc rfl (sc rfl sn))))))), (H.s [1, 2, 3] rfl rfl)⟩
 intro a w ⟨s56, v58, ho49, F, H⟩
 subst ho49
 have hR := then_nx hk48
 refine x_tn (x_seq (x_reg (oBA Tryz.isAgg84 Tryz.sizeOf84 F rfl rfl (H.b 1 rfl) rfl rfl fun a F => oWA (vs := [.int .i64 x1, v58]) Tryz.sizeOf84 F rfl rfl rfl (H.s [2, 0, 1] rfl rfl) (oc rfl (oc ((H.s [2, 0, 1] rfl rfl).l 1 rfl).one on)) rfl rfl fun w H => x_end (x_tn (x_ret (x_res1 F rfl (rv_cA (arr := #[.int .i64 x1, v58]) F Tryz.isAgg84 Tryz.sizeOf84 rfl (H.b 0 rfl)) ?_))))))
 obtain rfl := Option.some.inj hR
 exact ⟨_, rfl, v58, rfl, (H.s [1] rfl rfl), hx1⟩
end Go.Proofs.YtmgdjaiaekhkgaaGreat
