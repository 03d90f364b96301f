/-
  Functions of the program as plain functions, and that they compute them. Printed by fxio.py.
-/
import Derived.Test.YtfggmelojaicfaaGreatD3
import Derived.Test.YtfggmelojaicfaaGreatS4a
namespace Go.Proofs.YtfggmelojaicfaaGreat
set_option linter.unusedVariables false
set_option linter.unusedSimpArgs false
set_option maxRecDepth 100000
open Go.RowKit
def impl_rising (x0 : List Int) : Option (List Int) :=
 bnd (slices_Clone_s_int64_int64 x0) fun z11 =>
 bnd (slices_Sort_s_int64_int64 z11) fun z19 =>
 bnd (slices_Compact_s_int64_int64 z19) fun z24 =>
 some z24
set_option maxHeartbeats 1000000 in
theorem impl_rising_c {x0 : List Int} (r : (List Int)) (hR : impl_rising x0 = some r) {v0 : Value} {b0 : List Nat} (w0 : World) (A0 : Rd (Sl 1 RInt) w0 v0 x0 b0) : Calls Tryz.prog 109 #[v0] w0 (Gives (fun v w' => ∃ (v1' : Value) (rb2' : List Nat), v = v1' ∧ Row 1 RInt 2 w0.heap.size w' v1' r rb2' []) w0) := by
 unfold impl_rising at hR
 refine x_enter (L := [(0, v0)]) Tryz.func109 rfl rfl rfl (sc rfl sn) (fun a F => ?_)
 have hB := Below.refl w0.heap.size w0
 refine x_seq ?_
 refine x_reg ?_
 refine o_assign F rfl rfl (fun a F => ?_)
 refine x_end ?_
 refine x_tn ?_
 refine x_seq ?_
 refine x_reg ?_
 refine o_move F rfl rfl (fun a F => ?_)
 obtain ⟨z11, c12, hR⟩ := bnd_some hR
 refine o_gives F rfl Tryz.call71 rfl (slices_Clone_s_int64_int64_c z11 c12 _ (A0.go hB)) (fun a vv w l ⟨v13, rb14, hv17, h16⟩ F => ?_)
 subst vv
 replace h16 := h16.base hB.size
 replace hB := Below.through l hB
 refine o_assign F rfl rfl (fun a F => ?_)
 refine x_end ?_
 refine x_tn ?_
 refine x_seq ?_
 refine x_reg ?_
 refine o_move F rfl rfl (fun a F => ?_)
 obtain ⟨z19, c20, hR⟩ := bnd_some hR
 refine o_givesX F rfl Tryz.call186 rfl (slices_Sort_s_int64_int64_c z19 c20 _ (h16.base (Nat.zero_le _))) (fun a vv w l ⟨hv22, h21⟩ F => ?_)
 subst vv
 replace h21 := Row.rebase0 h21 h16.lo
 replace hB := hB.o l h16.lo hB.size
 refine x_end ?_
 refine x_tn ?_
 refine x_seq ?_
 refine x_reg ?_
 refine o_move F rfl rfl (fun a F => ?_)
 obtain ⟨z24, c25, hR⟩ := bnd_some hR
 refine o_givesX F rfl Tryz.call187 rfl (slices_Compact_s_int64_int64_c z24 c25 _ (h21.base (Nat.zero_le _))) (fun a vv w l ⟨v26, rb27, hv31, h29, fr30⟩ F => ?_)
 subst vv
 replace h29 := Row.rebase h29 (Frs.trans0 fr30 h21.lo hB.size)
 replace hB := hB.o l h21.lo hB.size
 refine o_assign F rfl rfl (fun a F => ?_)
 refine x_end ?_
 refine x_tn ?_
 refine x_ret ?_
 refine x_res1 F rfl (rv_t F rfl) ?_
 obtain rfl := Option.some.inj hR
 exact ⟨_, rfl, hB, v26, rb27, rfl, h29⟩

def impl_isOnce (x0 : List Literal) : Option Bool :=
 thn (σ := (List Int)) (
  forL (σ := (List Int)) (ρ := Bool) (fun (k67 : Nat) (x69 : Literal) (s57 : (List Int)) =>
   bnd (ap s57 ([x69.var])) fun z97 =>
   some (.go z97)) x0 0 []) fun s62 =>
 thn (σ := Bool) (
  bnd (impl_isArity (s62.length : Int)) fun z124 =>
  if z124 then  bnd (impl_rising s62) fun z127 =>
   some (.nx ((z127.length : Int) == (s62.length : Int))) else  some (.nx false)) fun s122 =>
 some s122
set_option maxHeartbeats 1000000 in
theorem impl_isOnce_c {x0 : List Literal} (r : Bool) (hR : impl_isOnce x0 = some r) {v0 : Value} {b0 : List Nat} (w0 : World) (A0 : Rd (Sl 2 RLiteral) w0 v0 x0 b0) : Calls Tryz.prog 93 #[v0] w0 (Says (.bool r) w0) := by
 unfold impl_isOnce at hR
 refine x_enter (L := [(0, v0)]) Tryz.func93 rfl rfl rfl (sc rfl sn) (fun a F => ?_)
 have hB := Below.refl w0.heap.size w0
 refine x_seq ?_
 refine x_reg ?_
 refine o_assign F rfl rfl (fun a F => ?_)
 refine x_end ?_
 refine x_tn ?_
 refine x_seq ?_
 refine x_reg ?_
 refine o_lit0 (R := RInt) Tryz.underlying42 Tryz.sizeOf2 F rfl (fun a w v11 rb12 h13 l F => ?_)
 replace h13 := h13.base hB.size
 replace hB := Below.through l hB
 refine o_assign F rfl rfl (fun a F => ?_)
 refine x_end ?_
 refine x_tn ?_
 refine x_seq ?_
 refine x_seq ?_
 refine x_reg ?_
 refine o_move F rfl rfl (fun a F => ?_)
 refine o_len Tryz.underlying124 F rfl rfl (A0.go hB) (fun a F => ?_)
 have i15 := ((A0.go hB)).r.len64
 refine o_move F rfl rfl (fun a F => ?_)
 refine x_end ?_
 refine x_tn ?_
 obtain ⟨o51, hR, hk52⟩ := thn_some hR
 refine x_cutQ (fun a w => ∃ (s62 : List Int) (v65 : Value) (rb66 : List Nat), o51 = .nx s62 ∧ Sk a 30 [(3, v65)] ∧ Below w0.heap.size w0 w ∧ Row 1 RInt 2 w0.heap.size w v65 s62 rb66 ([])) ?_ ?_
 ·
  refine x_blk ?_
  obtain ⟨fl55, hf56, hR⟩ := forL_gen hR
  refine x_loop (fun g a w => ∃ (k67 : Nat) (rest68 : List Literal) (s57 : List Int) (v60 : Value) (rb61 : List Nat), (k67 ≤ x0.length ∧ x0.drop k67 = rest68) ∧ rest68.length = g ∧ forL fl55 rest68 k67 s57 = some o51 ∧ Sk a 30 [(9, .int .i64 (k67 : Int)), (3, v60), (7, v0), (8, .int .i64 (x0.length : Int))] ∧ Below w0.heap.size w0 w ∧ Row 1 RInt 2 w0.heap.size w v60 s57 rb61 ([])) x0.length ?_ ?_
  ·
   exact ⟨0, x0, [], v11, rb12, ⟨Nat.zero_le _, rfl⟩, rfl, hR, F.sub (sc rfl (sc rfl (sc rfl (sc rfl sn)))), hB, h13⟩
  intro g70 a w ⟨k67, rest68, s57, v60, rb61, hd71, hg72, hR, F, hB, h59⟩
  cases rest68 with
  | nil =>
   replace hR := forL_nil hR
   have hkk67 := drop_nil hd71.1 hd71.2
   have hlk67 := dec_no hkk67
   refine x_seq ?_
   refine x_reg ?_
   refine o_lss F rfl rfl rfl (fun a F => ?_)
   refine x_end ?_
   refine x_tn ?_
   refine x_seq ?_
   refine x_ifF F rfl hlk67 ?_
   refine x_exit ?_
   refine x_te ?_
   refine x_te ?_
   refine x_be ?_
   refine x_tn ?_
   exact ⟨s57, v60, rb61, (Option.some.inj hR).symm, F.sub (sc rfl sn), hB, h59⟩
  | cons x69 rest68 =>
   subst hg72
   replace hd71 := drop_cons hd71.2
   have hxk67 := ix_nat hd71.2.1
   obtain ⟨ck67, hR, hn54⟩ := forL_cons hR
   rw [hf56] at hR
   have hlk67 := dec_yes hd71.1
   refine x_seq ?_
   refine x_reg ?_
   refine o_lss F rfl rfl rfl (fun a F => ?_)
   refine x_end ?_
   refine x_tn ?_
   refine x_seq ?_
   refine x_ifT F rfl hlk67 ?_
   refine x_skip ?_
   refine x_tn ?_
   refine x_seq ?_
   have ikk67 := k64 (Nat.le_of_lt hd71.1) i15
   have ink67 := inc64 hd71.1 i15
   refine x_blk ?_
   refine x_seq ?_
   refine x_reg ?_
   refine o_index Tryz.underlying124 Tryz.sizeOf132 F rfl rfl rfl (A0.go hB) hxk67 (fun a p73 b74 h75 s76 F => ?_)
   refine o_loadA Tryz.isAgg132 Tryz.sizeOf132 F rfl rfl h75 (fun a v77 b78 h79 s80 F => ?_)
   refine o_alloc Tryz.zeroValue132 F rfl rfl (fun a w b81 K82 l BK82 F => ?_)
   have d83 := dj1 h59.memR BK82
   have d84 := (dj1 h75.m BK82).symm
   have d85 := (dj1 h79.m BK82).symm
   have d86 := (dj1 h59.rd.m BK82).symm
   have CK82 := Nat.le_trans hB.size BK82
   replace hB := Below.through l hB
   replace h59 := h59.go l
   replace h79 := h79.go l
   obtain ⟨e90, i88, i89, eb87⟩ := RLiteral.rd h79
   subst e90
   refine o_bstoreA (vs := [.int .i64 x69.var, .int .i64 x69.value]) Tryz.sizeOf132 F rfl rfl rfl K82 (oc rfl (oc rfl on)) (Nat.le_of_ble_eq_true rfl) rfl (fun w K82 l => ?_)
   replace hB := hB.o l (fun c hc => by rw [List.mem_singleton] at hc; rw [hc]; exact CK82) hB.size
   replace h59 := h59.goO l d86
   refine x_end ?_
   refine x_tn ?_
   refine x_reg ?_
   refine o_move F rfl rfl (fun a F => ?_)
   refine o_bfield fa132_0 F rfl rfl rfl (fun a F => ?_)
   refine o_bload Tryz.isAgg2 F rfl rfl K82 rfl (fun a F => ?_)
   refine o_lit1 (R := RInt) (y := x69.var) Tryz.underlying42 Tryz.sizeOf2 Tryz.zeroValue2 rfl (by decide) (by decide) F rfl rfl (El.int i88) (fun a w v91 rb92 h93 l F => ?_)
   have d95 := Dj.new h59.rd.m h93.ownR (Nat.le_refl _)
   have d96 := Dj.app' (Dj.new h59.memR h93.ownR (Nat.le_refl _)).symm (Dj.nil' _)
   replace h93 := h93.base hB.size
   replace hB := Below.through l hB
   replace h59 := h59.go l
   obtain ⟨z97, c98, hR⟩ := bnd_some hR
   refine o_append (sz := 1) (R := RInt) (z := (.int .i64 0)) (bytes := 8) Tryz.underlying42 (by kernel_rfl) rfl (by decide) (by decide) (by decide) F rfl rfl rfl h59 h93.src hB.size (Dj.nil _) c98 (fun a w v99 rb100 h101 l keep F => ?_)
   replace h101 := row_nil2 h101
   replace hB := hB.o l h59.lo hB.size
   refine o_assign F rfl rfl (fun a F => ?_)
   refine x_end ?_
   refine x_bn ?_
   refine x_tn ?_
   refine x_reg ?_
   refine o_inc F rfl rfl rfl ink67 (fun a F => ?_)
   refine o_move F rfl rfl (fun a F => ?_)
   refine x_end ?_
   refine x_tn ?_
   replace hR := l_go hR hn54
   exact ⟨_, Nat.lt_succ_self _, k67 + 1, rest68, z97, v99, rb100, ⟨hd71.1, hd71.2.2⟩, rfl, hR, F.sub (sc rfl (sc rfl (sc rfl (sc rfl sn)))), hB, h101⟩
 intro a w ⟨s62, v65, rb66, ho53, F, hB, h64⟩
 subst ho53
 have hR := then_nx hk52
 refine x_tn ?_
 refine x_seq ?_
 obtain ⟨o119, hR, hk120⟩ := thn_some hR
 refine x_cutQ (fun a w => ∃ (s122 : Bool), o119 = .nx s122 ∧ Sk a 30 [(2, .bool s122)] ∧ Below w0.heap.size w0 w) ?_ ?_
 ·
  refine x_reg ?_
  refine o_move F rfl rfl (fun a F => ?_)
  refine o_len Tryz.underlying42 F rfl rfl h64.rd (fun a F => ?_)
  have i123 := (h64.rd).r.len64
  obtain ⟨z124, c125, hR⟩ := bnd_some hR
  refine o_says F rfl Tryz.call176 rfl (impl_isArity_c z124 c125 _ i123) (fun a w l F => ?_)
  replace hB := Below.through l hB
  replace h64 := h64.go l
  refine o_move F rfl rfl (fun a F => ?_)
  rcases bcases z124 with hb126 | hb126
  ·
   replace hR := ifT hb126 hR
   have F := F.eq (t := 22) rfl (congrArg Value.bool hb126)
   refine o_move F rfl rfl (fun a F => ?_)
   obtain ⟨z127, c128, hR⟩ := bnd_some hR
   refine o_gives F rfl Tryz.call109 rfl (impl_rising_c z127 c128 _ h64.rd) (fun a vv w l ⟨v129, rb130, hv133, h132⟩ F => ?_)
   subst vv
   have d135 := Dj.new h64.rd.m h132.ownR (Nat.le_refl _)
   have d136 := Dj.app' (Dj.new h64.memR h132.ownR (Nat.le_refl _)).symm (Dj.nil' _)
   replace h132 := h132.base hB.size
   replace hB := Below.through l hB
   replace h64 := h64.go l
   refine o_len Tryz.underlying42 F rfl rfl h132.rd (fun a F => ?_)
   have i137 := (h132.rd).r.len64
   refine o_move F rfl rfl (fun a F => ?_)
   refine o_len Tryz.underlying42 F rfl rfl h64.rd (fun a F => ?_)
   have i138 := (h64.rd).r.len64
   refine o_eql F rfl rfl rfl (fun a F => ?_)
   refine o_pickt F rfl rfl rfl (fun a F => ?_)
   refine o_assign F rfl rfl (fun a F => ?_)
   refine x_end ?_
   refine x_tn ?_
   exact ⟨((z127.length : Int) == (s62.length : Int)), (Option.some.inj hR).symm, F.sub (sc rfl sn), hB⟩
  replace hR := ifF hb126 hR
  have F := F.eq (t := 22) rfl (congrArg Value.bool hb126)
  refine o_no F rfl rfl (fun a F => ?_)
  refine o_no F rfl rfl (fun a F => ?_)
  refine o_no F rfl rfl (fun a F => ?_)
  refine o_no F rfl rfl (fun a F => ?_)
  refine o_no F rfl rfl (fun a F => ?_)
  refine o_no F rfl rfl (fun a F => ?_)
  refine o_pickf F rfl rfl rfl (fun a F => ?_)
  refine o_assign F rfl rfl (fun a F => ?_)
  refine x_end ?_
  refine x_tn ?_
  exact ⟨false, (Option.some.inj hR).symm, F.sub (sc rfl sn), hB⟩
 intro a w ⟨s122, ho121, F, hB⟩
 subst ho121
 have hR := then_nx hk120
 refine x_tn ?_
 refine x_ret ?_
 refine x_res1 F rfl (rv_t F rfl) ?_
 obtain rfl := Option.some.inj hR
 exact ⟨rfl, hB⟩

def impl_AddNoGoods_1 (x0 : List Literal) (y0 : Template) (y1 : Instance) : Option Bool :=
 thn (σ := Bool) (
  bnd (impl_areLiterals y0 y1 x0) fun z36 =>
  if (!z36) then  some (.nx true) else  bnd (impl_isOnce x0) fun z39 =>
   some (.nx (!z39))) fun s27 =>
 some s27
set_option maxHeartbeats 1000000 in
theorem impl_AddNoGoods_1_c {x0 : List Literal} {y0 : Template} {y1 : Instance} (r : Bool) (hR : impl_AddNoGoods_1 x0 y0 y1 = some r) {v0 : Value} {b0 : List Nat} {v1 : Value} {b1 : List Nat} {v2 : Value} {b2 : List Nat} (w0 : World) (A0 : Rd (Sl 2 RLiteral) w0 v0 x0 b0) (A1 : Rd (Pt 2 RTemplate) w0 v1 y0 b1) (A2 : Rd (Pt 2 RInstance) w0 v2 y1 b2) : Calls Tryz.prog 91 #[v0, v1, v2] w0 (Says (.bool r) w0) := by
 unfold impl_AddNoGoods_1 at hR
 refine x_enter (L := [(0, v0), (1, v1), (2, v2)]) Tryz.func91 rfl rfl rfl (sc rfl (sc rfl (sc rfl sn))) (fun a F => ?_)
 have hB := Below.refl w0.heap.size w0
 refine x_seq ?_
 refine x_reg ?_
 refine o_assign F rfl rfl (fun a F => ?_)
 refine x_end ?_
 refine x_tn ?_
 refine x_seq ?_
 obtain ⟨o24, hR, hk25⟩ := thn_some hR
 refine x_cutQ (fun a w => ∃ (s27 : Bool), o24 = .nx s27 ∧ Sk a 15 [(4, .bool s27)] ∧ Below w0.heap.size w0 w) ?_ ?_
 ·
  refine x_reg ?_
  refine o_loadA Tryz.isAgg33 Tryz.sizeOf33 F rfl rfl (A1.go hB) (fun a v28 b29 h30 s31 F => ?_)
  refine o_loadA Tryz.isAgg60 Tryz.sizeOf60 F rfl rfl (A2.go hB) (fun a v32 b33 h34 s35 F => ?_)
  refine o_move F rfl rfl (fun a F => ?_)
  obtain ⟨z36, c37, hR⟩ := bnd_some hR
  refine o_says F rfl Tryz.call92 rfl (impl_areLiterals_c z36 c37 _ h30 h34 (A0.go hB)) (fun a w l F => ?_)
  replace hB := Below.through l hB
  refine o_not F rfl rfl (fun a F => ?_)
  refine o_move F rfl rfl (fun a F => ?_)
  rcases bcases (!z36) with hb38 | hb38
  ·
   replace hR := ifT hb38 hR
   have F := F.eq (t := 10) rfl (congrArg Value.bool hb38)
   refine o_no F rfl rfl (fun a F => ?_)
   refine o_no F rfl rfl (fun a F => ?_)
   refine o_no F rfl rfl (fun a F => ?_)
   refine o_pickt F rfl rfl rfl (fun a F => ?_)
   refine o_assign F rfl rfl (fun a F => ?_)
   refine x_end ?_
   refine x_tn ?_
   exact ⟨true, (Option.some.inj hR).symm, F.sub (sc rfl sn), hB⟩
  replace hR := ifF hb38 hR
  have F := F.eq (t := 10) rfl (congrArg Value.bool hb38)
  refine o_move F rfl rfl (fun a F => ?_)
  obtain ⟨z39, c40, hR⟩ := bnd_some hR
  refine o_says F rfl Tryz.call93 rfl (impl_isOnce_c z39 c40 _ (A0.go hB)) (fun a w l F => ?_)
  replace hB := Below.through l hB
  refine o_not F rfl rfl (fun a F => ?_)
  refine o_pickf F rfl rfl rfl (fun a F => ?_)
  refine o_assign F rfl rfl (fun a F => ?_)
  refine x_end ?_
  refine x_tn ?_
  exact ⟨(!z39), (Option.some.inj hR).symm, F.sub (sc rfl sn), hB⟩
 intro a w ⟨s27, ho26, F, hB⟩
 subst ho26
 have hR := then_nx hk25
 refine x_tn ?_
 refine x_ret ?_
 refine x_res1 F rfl (rv_t F rfl) ?_
 obtain rfl := Option.some.inj hR
 exact ⟨rfl, hB⟩

def slices_IndexFunc_s_s_Literal_s_Literal (x0 : List (List Literal)) (x1 : (List Literal) → Option Bool) : Option Int :=
 thn (σ := Unit) (
  forL (σ := Unit) (ρ := Int) (fun (k29 : Nat) (x31 : (List Literal)) (s : Unit) =>
    match s with
    | _ =>
    bnd (x1 x31) fun z43 =>
    if z43 then
     some (.ret ((k29 : Int)))
    else
     some (.go ())) x0 0 ()) fun _ =>
 some ((-1))
set_option maxHeartbeats 1000000 in
theorem slices_IndexFunc_s_s_Literal_s_Literal_c {x0 : List (List Literal)} {x1 : (List Literal) → Option Bool} (r : Int) (hR : slices_IndexFunc_s_s_Literal_s_Literal x0 x1 = some r) {v0 : Value} {b0 : List Nat} {g1 : FuncId} {lb1 : List Value} (w0 : World) (A0 : Rd (Sl 1 (RSl 2 RLiteral)) w0 v0 x0 b0) (hg1 : ∀ args w, (callFunc g1 args).run Tryz.prog w = .ok (.enter g1 args) w) (hp1 : ∀ (a0 : List Literal) (r : Bool), x1 a0 = some r → ∀ W, Below w0.heap.size w0 W → ∀ (u0 : Value) (c0 : List Nat), Rd (Sl 2 RLiteral) W u0 a0 c0 → Calls Tryz.prog g1 ([u0] ++ lb1 : List Value).toArray W (Says (.bool r) W)) : Calls Tryz.prog 172 #[v0, .func (.func g1) #[] lb1.toArray] w0 (SaysI r w0) := by
 unfold slices_IndexFunc_s_s_Literal_s_Literal at hR
 refine x_enter (L := [(0, v0), (1, .func (.func g1) #[] lb1.toArray)]) Tryz.func172 rfl rfl rfl (sc rfl (sc rfl sn)) (fun a F => ?_)
 have hB := Below.refl w0.heap.size w0
 refine x_seq ?_
 refine x_reg ?_
 refine o_assign F rfl rfl (fun a F => ?_)
 refine x_end ?_
 refine x_tn ?_
 refine x_seq ?_
 refine x_seq ?_
 refine x_reg ?_
 refine o_move F rfl rfl (fun a F => ?_)
 refine o_len Tryz.underlying64 F rfl rfl (A0.go hB) (fun a F => ?_)
 have i11 := ((A0.go hB)).r.len64
 refine o_move F rfl rfl (fun a F => ?_)
 refine x_end ?_
 refine x_tn ?_
 obtain ⟨o23, hR, hk24⟩ := thn_some hR
 refine x_cutQ (fun a w => o23 = .nx () ∧ Sk a 19 [] ∧ Below w0.heap.size w0 w) ?_ ?_
 ·
  refine x_blk ?_
  obtain ⟨fl27, hf28, hR⟩ := forL_gen hR
  refine x_loop (fun g a w => ∃ (k29 : Nat) (rest30 : List (List Literal)), (k29 ≤ x0.length ∧ x0.drop k29 = rest30) ∧ rest30.length = g ∧ forL fl27 rest30 k29 () = some o23 ∧ Sk a 19 [(8, .int .i64 (k29 : Int)), (0, v0), (1, .func (.func g1) #[] lb1.toArray), (7, .int .i64 (x0.length : Int))] ∧ Below w0.heap.size w0 w) x0.length ?_ ?_
  ·
   exact ⟨0, x0, ⟨Nat.zero_le _, rfl⟩, rfl, hR, F.sub (sc rfl (sc rfl (sc rfl (sc rfl sn)))), hB⟩
  intro g32 a w ⟨k29, rest30, hd33, hg34, hR, F, hB⟩
  cases rest30 with
  | nil =>
   replace hR := forL_nil hR
   have hkk29 := drop_nil hd33.1 hd33.2
   have hlk29 := dec_no hkk29
   refine x_seq ?_
   refine x_reg ?_
   refine o_lss F rfl rfl rfl (fun a F => ?_)
   refine x_end ?_
   refine x_tn ?_
   refine x_seq ?_
   refine x_ifF F rfl hlk29 ?_
   refine x_exit ?_
   refine x_te ?_
   refine x_te ?_
   refine x_be ?_
   refine x_tn ?_
   exact ⟨(Option.some.inj hR).symm, F.sub sn, hB⟩
  | cons x31 rest30 =>
   subst hg34
   replace hd33 := drop_cons hd33.2
   have hxk29 := ix_nat hd33.2.1
   obtain ⟨ck29, hR, hn26⟩ := forL_cons hR
   rw [hf28] at hR
   have hlk29 := dec_yes hd33.1
   refine x_seq ?_
   refine x_reg ?_
   refine o_lss F rfl rfl rfl (fun a F => ?_)
   refine x_end ?_
   refine x_tn ?_
   refine x_seq ?_
   refine x_ifT F rfl hlk29 ?_
   refine x_skip ?_
   refine x_tn ?_
   refine x_seq ?_
   have ikk29 := k64 (Nat.le_of_lt hd33.1) i11
   have ink29 := inc64 hd33.1 i11
   refine x_blk ?_
   refine x_seq ?_
   refine x_reg ?_
   refine o_move F rfl rfl (fun a F => ?_)
   refine o_assign F rfl rfl (fun a F => ?_)
   refine x_end ?_
   refine x_tn ?_
   refine x_seq ?_
   refine x_reg ?_
   refine o_move F rfl rfl (fun a F => ?_)
   refine o_move F rfl rfl (fun a F => ?_)
   refine o_move F rfl rfl (fun a F => ?_)
   refine o_index Tryz.underlying64 Tryz.sizeOf124 F rfl rfl rfl (A0.go hB) hxk29 (fun a p35 b36 h37 s38 F => ?_)
   refine o_loadS Tryz.isAgg124 F rfl rfl h37 (fun a v39 b40 h41 s42 F => ?_)
   obtain ⟨z43, c44, hR⟩ := bnd_some hR
   refine o_saysV F rfl rfl hg1 rfl (hp1 _ z43 c44 _ hB _ _ h41) (fun a w l F => ?_)
   replace hB := Below.through l hB
   refine x_end ?_
   refine x_tn ?_
   refine x_if F rfl (fun hb45 => ?_) (fun hb45 => ?_)
   ·
    replace hR := ifT hb45 hR
    refine x_seq ?_
    refine x_reg ?_
    refine o_move F rfl rfl (fun a F => ?_)
    refine o_assign F rfl rfl (fun a F => ?_)
    refine x_end ?_
    refine x_tn ?_
    refine x_ret ?_
    refine x_br ?_
    refine x_tr ?_
    refine x_tr ?_
    replace hR := l_ret hR hn26
    refine x_br ?_
    refine x_tr ?_
    replace hR := j_ret hR hk24
    refine x_tr ?_
    refine x_res1 F rfl (rv_t F rfl) ?_
    obtain rfl := Option.some.inj hR
    exact ⟨⟨rfl, hB⟩, ikk29⟩
   replace hR := ifF hb45 hR
   refine x_skip ?_
   refine x_bn ?_
   refine x_tn ?_
   refine x_reg ?_
   refine o_inc F rfl rfl rfl ink29 (fun a F => ?_)
   refine o_move F rfl rfl (fun a F => ?_)
   refine x_end ?_
   refine x_tn ?_
   replace hR := l_go hR hn26
   exact ⟨_, Nat.lt_succ_self _, k29 + 1, rest30, ⟨hd33.1, hd33.2.2⟩, rfl, hR, F.sub (sc rfl (sc rfl (sc rfl (sc rfl sn)))), hB⟩
 intro a w ⟨ho25, F, hB⟩
 subst ho25
 have hR := then_nx hk24
 refine x_tn ?_
 refine x_seq ?_
 refine x_reg ?_
 refine o_assign F rfl rfl (fun a F => ?_)
 refine x_end ?_
 refine x_tn ?_
 refine x_ret ?_
 refine x_res1 F rfl (rv_t F rfl) ?_
 obtain rfl := Option.some.inj hR
 exact ⟨⟨rfl, hB⟩, (show I64 (-1) by decide)⟩

def slices_ContainsFunc_s_s_Literal_s_Literal (x0 : List (List Literal)) (x1 : (List Literal) → Option Bool) : Option Bool :=
 bnd (slices_IndexFunc_s_s_Literal_s_Literal x0 x1) fun z11 =>
 some ((decide (0 ≤ z11)))
set_option maxHeartbeats 1000000 in
theorem slices_ContainsFunc_s_s_Literal_s_Literal_c {x0 : List (List Literal)} {x1 : (List Literal) → Option Bool} (r : Bool) (hR : slices_ContainsFunc_s_s_Literal_s_Literal x0 x1 = some r) {v0 : Value} {b0 : List Nat} {g1 : FuncId} {lb1 : List Value} (w0 : World) (A0 : Rd (Sl 1 (RSl 2 RLiteral)) w0 v0 x0 b0) (hg1 : ∀ args w, (callFunc g1 args).run Tryz.prog w = .ok (.enter g1 args) w) (hp1 : ∀ (a0 : List Literal) (r : Bool), x1 a0 = some r → ∀ W, Below w0.heap.size w0 W → ∀ (u0 : Value) (c0 : List Nat), Rd (Sl 2 RLiteral) W u0 a0 c0 → Calls Tryz.prog g1 ([u0] ++ lb1 : List Value).toArray W (Says (.bool r) W)) : Calls Tryz.prog 90 #[v0, .func (.func g1) #[] lb1.toArray] w0 (Says (.bool r) w0) := by
 unfold slices_ContainsFunc_s_s_Literal_s_Literal at hR
 refine x_enter (L := [(0, v0), (1, .func (.func g1) #[] lb1.toArray)]) Tryz.func90 rfl rfl rfl (sc rfl (sc rfl sn)) (fun a F => ?_)
 have hB := Below.refl w0.heap.size w0
 refine x_seq ?_
 refine x_reg ?_
 refine o_assign F rfl rfl (fun a F => ?_)
 refine x_end ?_
 refine x_tn ?_
 refine x_seq ?_
 refine x_reg ?_
 refine o_move F rfl rfl (fun a F => ?_)
 refine o_move F rfl rfl (fun a F => ?_)
 obtain ⟨z11, c12, hR⟩ := bnd_some hR
 refine o_saysI F rfl Tryz.call172 rfl (slices_IndexFunc_s_s_Literal_s_Literal_c z11 c12 _ (A0.go hB) hg1 (fun a0 r h W l => hp1 a0 r h W (hB.through' l))) (fun a w l iz11 F => ?_)
 replace hB := Below.through l hB
 refine o_geq F rfl rfl rfl (fun a F => ?_)
 refine o_assign F rfl rfl (fun a F => ?_)
 refine x_end ?_
 refine x_tn ?_
 refine x_ret ?_
 refine x_res1 F rfl (rv_t F rfl) ?_
 obtain rfl := Option.some.inj hR
 exact ⟨rfl, hB⟩

def impl_ownTemplate (x0 : Template) : Option Template :=
 thn (σ := (List Rel)) (
  forL (σ := (List Rel)) (ρ := Template) (fun (k197 : Nat) (x199 : Rel) (s178 : (List Rel)) =>
   bnd (impl_ownLists x199.tuples) fun z226 =>
   bnd (ap s178 ([(Rel.mk x199.arity z226)])) fun z259 =>
   some (.go z259)) x0.rels 0 []) fun s188 =>
 some ((Template.mk x0.size s188))
set_option maxHeartbeats 1000000 in
theorem impl_ownTemplate_c {x0 : Template} (r : Template) (hR : impl_ownTemplate x0 = some r) {v0 : Value} {b0 : List Nat} (w0 : World) (A0 : Rd (Agg 2 RTemplate) w0 v0 x0 b0) : Calls Tryz.prog 94 #[v0] w0 (Gives (fun v w' => ∃ (v1' : Value) (rb2' : List Nat) (ib3' : List Nat), v = .agg #[.int .i64 r.size, v1'] ∧ I64 r.size ∧ Row 2 RRel 101 w0.heap.size w' v1' r.rels rb2' ib3' ∧ Own w0.heap.size ib3' w') w0) := by
 unfold impl_ownTemplate at hR
 refine x_enter (L := [(0, v0)]) Tryz.func94 rfl rfl rfl (sc rfl sn) (fun a F => ?_)
 have hB := Below.refl w0.heap.size w0
 refine x_seq ?_
 refine x_reg ?_
 obtain ⟨v15, b16, e18, i14, h17, eb13⟩ := RTemplate.rd (A0.go hB)
 subst e18
 refine o_box F rfl rfl rfl (fun a w b11 K12 l BK12 F => ?_)
 have d19 := (dj1 h17.m BK12).symm
 have CK12 := Nat.le_trans hB.size BK12
 replace hB := Below.through l hB
 replace h17 := h17.go l
 refine o_alloc Tryz.zeroValue33 F rfl rfl (fun a w b20 K21 l BK21 F => ?_)
 have nb22 := Dj.bb K12 BK21
 have d23 := (dj1 h17.m BK21).symm
 have CK21 := Nat.le_trans hB.size BK21
 replace hB := Below.through l hB
 replace h17 := h17.go l
 replace K12 := K12.thru l
 refine x_end ?_
 refine x_tn ?_
 refine x_seq ?_
 refine x_reg ?_
 refine o_bfield fa33_0 F rfl rfl rfl (fun a F => ?_)
 refine o_bload Tryz.isAgg2 F rfl rfl K12 rfl (fun a F => ?_)
 refine o_build Tryz.underlying33 Tryz.zeroValue33 (fun w => by simp [Tryz.sizeOf2, Tryz.sizeOf31]; rfl) F rfl rfl rfl rfl rfl (oc rfl on) rfl rfl (fun a F => ?_)
 have h24 := RTemplate.mk2 (w := w) i14 (Rd.nil 2 RRel _)
 refine o_alloc Tryz.zeroValue33 F rfl rfl (fun a w b25 K26 l BK26 F => ?_)
 have nb27 := Dj.bb K12 BK26
 have nb28 := Dj.bb K21 BK26
 have d29 := (dj1 h17.m BK26).symm
 have d30 := (dj1 h24.m BK26).symm
 have CK26 := Nat.le_trans hB.size BK26
 replace hB := Below.through l hB
 replace h17 := h17.go l
 replace h24 := h24.go l
 replace K12 := K12.thru l
 replace K21 := K21.thru l
 refine o_bstoreA (vs := [.int .i64 x0.size, (.slice none 0 0)]) Tryz.sizeOf33 F rfl rfl rfl K26 (oc rfl (oc rfl on)) (Nat.le_of_ble_eq_true rfl) rfl (fun w K26 l => ?_)
 replace hB := hB.o l (fun c hc => by rw [List.mem_singleton] at hc; rw [hc]; exact CK26) hB.size
 replace h17 := h17.goO l d29
 replace K12 := K12.only l (by simpa using nb27)
 replace K21 := K21.only l (by simpa using nb28)
 refine x_end ?_
 refine x_tn ?_
 refine x_seq ?_
 refine x_seq ?_
 refine x_reg ?_
 refine o_bfield fa33_1 F rfl rfl rfl (fun a F => ?_)
 refine o_bload Tryz.isAgg31 F rfl rfl K12 rfl (fun a F => ?_)
 refine o_len Tryz.underlying31 F rfl rfl h17 (fun a F => ?_)
 have i31 := (h17).r.len64
 refine o_move F rfl rfl (fun a F => ?_)
 refine x_end ?_
 refine x_tn ?_
 obtain ⟨o172, hR, hk173⟩ := thn_some hR
 refine x_cutQ (fun a w => ∃ (s188 : List Rel) (v191 : Value) (rb192 : List Nat) (ib193 : List Nat), o172 = .nx s188 ∧ Sk a 29 [(2, .pointer (some ⟨b20, 0, none⟩)), (3, .pointer (some ⟨b25, 0, none⟩))] ∧ Below w0.heap.size w0 w ∧ Row 2 RRel 101 w0.heap.size w v191 s188 rb192 ib193 ∧ Own w0.heap.size ib193 w ∧ Blk w b20 #[.int .i64 0, (.slice none 0 0)] 33 ∧ Blk w b25 #[.int .i64 x0.size, v191] 33 ∧ Dj (rb192 ++ ib193) [b20] ∧ Dj (rb192 ++ ib193) [b25]) ?_ ?_
 ·
  refine x_blk ?_
  obtain ⟨fl176, hf177, hR⟩ := forL_gen hR
  refine x_loop (fun g a w => ∃ (k197 : Nat) (rest198 : List Rel) (s178 : List Rel) (v181 : Value) (rb182 : List Nat) (ib183 : List Nat), (k197 ≤ x0.rels.length ∧ x0.rels.drop k197 = rest198) ∧ rest198.length = g ∧ forL fl176 rest198 k197 s178 = some o172 ∧ Sk a 29 [(12, .int .i64 (k197 : Int)), (2, .pointer (some ⟨b20, 0, none⟩)), (3, .pointer (some ⟨b25, 0, none⟩)), (10, v15), (11, .int .i64 (x0.rels.length : Int))] ∧ Below w0.heap.size w0 w ∧ Row 2 RRel 101 w0.heap.size w v181 s178 rb182 ib183 ∧ Own w0.heap.size ib183 w ∧ Rd (Sl 2 RRel) w v15 x0.rels b16 ∧ Blk w b20 #[.int .i64 0, (.slice none 0 0)] 33 ∧ Blk w b25 #[.int .i64 x0.size, v181] 33 ∧ Dj b16 rb182 ∧ Dj (rb182 ++ ib183) [b20] ∧ Dj (rb182 ++ ib183) [b25]) x0.rels.length ?_ ?_
  ·
   exact ⟨0, x0.rels, [], (.slice none 0 0), [], [], ⟨Nat.zero_le _, rfl⟩, rfl, hR, F.sub (sc rfl (sc rfl (sc rfl (sc rfl (sc rfl sn))))), hB, Row.nil 2 RRel 101 _ _, Own.nil _ _, h17, K21, K26, (Dj.nil _), (Dj.nil' _), (Dj.nil' _)⟩
  intro g200 a w ⟨k197, rest198, s178, v181, rb182, ib183, hd201, hg202, hR, F, hB, h180, ow184, h17, K21, K26, d185, d186, d187⟩
  cases rest198 with
  | nil =>
   replace hR := forL_nil hR
   have hkk197 := drop_nil hd201.1 hd201.2
   have hlk197 := dec_no hkk197
   refine x_seq ?_
   refine x_reg ?_
   refine o_lss F rfl rfl rfl (fun a F => ?_)
   refine x_end ?_
   refine x_tn ?_
   refine x_seq ?_
   refine x_ifF F rfl hlk197 ?_
   refine x_exit ?_
   refine x_te ?_
   refine x_te ?_
   refine x_be ?_
   refine x_tn ?_
   exact ⟨s178, v181, rb182, ib183, (Option.some.inj hR).symm, F.sub (sc rfl (sc rfl sn)), hB, h180, ow184, K21, K26, d186, d187⟩
  | cons x199 rest198 =>
   subst hg202
   replace hd201 := drop_cons hd201.2
   have hxk197 := ix_nat hd201.2.1
   obtain ⟨ck197, hR, hn175⟩ := forL_cons hR
   rw [hf177] at hR
   have hlk197 := dec_yes hd201.1
   refine x_seq ?_
   refine x_reg ?_
   refine o_lss F rfl rfl rfl (fun a F => ?_)
   refine x_end ?_
   refine x_tn ?_
   refine x_seq ?_
   refine x_ifT F rfl hlk197 ?_
   refine x_skip ?_
   refine x_tn ?_
   refine x_seq ?_
   have ikk197 := k64 (Nat.le_of_lt hd201.1) i31
   have ink197 := inc64 hd201.1 i31
   refine x_blk ?_
   refine x_seq ?_
   refine x_reg ?_
   refine o_index Tryz.underlying31 Tryz.sizeOf101 F rfl rfl rfl h17 hxk197 (fun a p203 b204 h205 s206 F => ?_)
   refine o_loadA Tryz.isAgg101 Tryz.sizeOf101 F rfl rfl h205 (fun a v207 b208 h209 s210 F => ?_)
   refine o_alloc Tryz.zeroValue101 F rfl rfl (fun a w b211 K212 l BK212 F => ?_)
   have d213 := dj1 h180.memR BK212
   have nb214 := Dj.bb K21 BK212
   have nb215 := Dj.bb K26 BK212
   have d216 := (dj1 h17.m BK212).symm
   have d217 := (dj1 h205.m BK212).symm
   have d218 := (dj1 h209.m BK212).symm
   have d219 := (dj1 h180.rd.m BK212).symm
   have CK212 := Nat.le_trans hB.size BK212
   replace hB := Below.through l hB
   replace h17 := h17.go l
   replace h180 := h180.go l
   replace ow184 := ow184.go l
   replace h209 := h209.go l
   replace K21 := K21.thru l
   replace K26 := K26.thru l
   obtain ⟨v222, b223, e225, i221, h224, eb220⟩ := RRel.rd h209
   subst e225
   refine o_bstoreA (vs := [.int .i64 x199.arity, v222]) Tryz.sizeOf101 F rfl rfl rfl K212 (oc rfl (oc (h224).r.one on)) (Nat.le_of_ble_eq_true rfl) rfl (fun w K212 l => ?_)
   replace hB := hB.o l (fun c hc => by rw [List.mem_singleton] at hc; rw [hc]; exact CK212) hB.size
   replace h17 := h17.goO l d216
   replace h180 := h180.goO l d219
   replace ow184 := ow184.goO l d219.r
   replace h224 := h224.goO l (Dj.sub d218 (fun c hc => by rw [eb220]; simp [hc]))
   replace K21 := K21.only l (by simpa using nb214)
   replace K26 := K26.only l (by simpa using nb215)
   refine x_end ?_
   refine x_tn ?_
   refine x_drawn (by kernel_rfl) (fun w l => ?_)
   replace hB := Below.through l hB
   replace h17 := h17.go l
   replace h180 := h180.go l
   replace ow184 := ow184.go l
   replace h224 := h224.go l
   replace K21 := K21.thru l
   replace K26 := K26.thru l
   replace K212 := K212.thru l
   refine b_q 0 (by kernel_rfl) rfl (by kernel_rfl) (by kernel_rfl) (by kernel_rfl) (by kernel_rfl) ?_
   refine v_val F rfl (fun w l => r_bfield fa33_1 F rfl rfl) (fun a F => ?_)
   refine b_q 1 (by kernel_rfl) rfl (by kernel_rfl) (by kernel_rfl) (by kernel_rfl) (by kernel_rfl) ?_
   refine v_val F rfl (fun w l => r_load1 Tryz.isAgg31 F rfl (((K26.thru l).cell _).trans rfl)) (fun a F => ?_)
   refine b_q 2 (by kernel_rfl) rfl (by kernel_rfl) (by kernel_rfl) (by kernel_rfl) (by kernel_rfl) ?_
   refine v_val F rfl (fun w l => r_bfield fa101_0 F rfl rfl) (fun a F => ?_)
   refine b_q 3 (by kernel_rfl) rfl (by kernel_rfl) (by kernel_rfl) (by kernel_rfl) (by kernel_rfl) ?_
   refine v_val F rfl (fun w l => r_load1 Tryz.isAgg2 F rfl (((K212.thru l).cell _).trans rfl)) (fun a F => ?_)
   refine b_q 4 (by kernel_rfl) rfl (by kernel_rfl) (by kernel_rfl) (by kernel_rfl) (by kernel_rfl) ?_
   refine v_val F rfl (fun w l => r_bfield fa101_1 F rfl rfl) (fun a F => ?_)
   refine b_q 5 (by kernel_rfl) rfl (by kernel_rfl) (by kernel_rfl) (by kernel_rfl) (by kernel_rfl) ?_
   refine v_val F rfl (fun w l => r_load1 Tryz.isAgg99 F rfl (((K212.thru l).cell _).trans rfl)) (fun a F => ?_)
   refine b_e 6 rfl (by kernel_rfl) ?_
   obtain ⟨z226, c227, hR⟩ := bnd_some hR
   refine o_gives F rfl Tryz.call177 rfl (impl_ownLists_c z226 c227 _ h224) (fun a vv w l ⟨v228, rb229, ib230, hv233, h231, ow232⟩ F => ?_)
   subst vv
   have o234 := h231.own ow232
   have d235 := (Dj.new (inm1 K21) o234 (Nat.le_refl _)).symm
   have d236 := (Dj.new (inm1 K26) o234 (Nat.le_refl _)).symm
   have d237 := (Dj.new (inm1 K212) o234 (Nat.le_refl _)).symm
   have d238 := (Dj.new h180.memR o234 (Nat.le_refl _)).symm
   have d239 := (Dj.new h180.mem o234 (Nat.le_refl _)).symm
   have d241 := Dj.new h17.m h231.ownR (Nat.le_refl _)
   have d242 := Dj.new h180.rd.m h231.ownR (Nat.le_refl _)
   have d243 := Dj.new (inm1 K21) h231.ownR (Nat.le_refl _)
   have d244 := Dj.new (inm1 K26) h231.ownR (Nat.le_refl _)
   replace h231 := h231.base hB.size
   replace ow232 := ow232.mono hB.size
   replace hB := Below.through l hB
   replace h17 := h17.go l
   replace h180 := h180.go l
   replace ow184 := ow184.go l
   replace K21 := K21.thru l
   replace K26 := K26.thru l
   refine x_end ?_
   refine x_tn ?_
   refine ⟨.inl l, ?_⟩
   refine b_q 7 (by kernel_rfl) rfl (by kernel_rfl) (by kernel_rfl) (by kernel_rfl) (by kernel_rfl) ?_
   refine v_val F rfl (fun w l => r_build Tryz.underlying101 Tryz.zeroValue101 (fun w => by simp [Tryz.sizeOf2, Tryz.sizeOf99]; rfl) F rfl rfl rfl rfl (oc rfl (oc (h231.rd).r.one on)) rfl rfl) (fun a F => ?_)
   have h245 := RRel.mk2 (w := w) i221 h231.rd
   refine b_e 8 rfl (by kernel_rfl) ?_
   refine o_lit1 (R := RRel) (y := (Rel.mk x199.arity z226)) Tryz.underlying31 Tryz.sizeOf101 Tryz.zeroValue101 rfl (by decide) (by decide) F rfl rfl (El.agg h245) (fun a w v246 rb247 h248 l F => ?_)
   have ow249 := Own.go (h231.own ow232) l
   have d251 := Dj.new h17.m h248.ownR (Nat.le_refl _)
   have d252 := Dj.new h180.rd.m h248.ownR (Nat.le_refl _)
   have d253 := Dj.new (inm1 K21) h248.ownR (Nat.le_refl _)
   have d254 := Dj.new (inm1 K26) h248.ownR (Nat.le_refl _)
   have d255 := Dj.app' (Dj.new h180.memR h248.ownR (Nat.le_refl _)).symm d238
   have d256 := Dj.app' (Dj.new h180.mem h248.ownR (Nat.le_refl _)).symm d239
   have d257 := Dj.app' (Dj.symm d253) d235
   have d258 := Dj.app' (Dj.symm d254) d236
   replace h248 := h248.base hB.size
   replace hB := Below.through l hB
   replace h17 := h17.go l
   replace h180 := h180.go l
   replace ow184 := ow184.go l
   replace K21 := K21.thru l
   replace K26 := K26.thru l
   refine x_end ?_
   refine x_tn ?_
   refine ⟨.inl l, ?_⟩
   refine b_e 9 rfl (by kernel_rfl) ?_
   obtain ⟨z259, c260, hR⟩ := bnd_some hR
   refine o_append (sz := 2) (R := RRel) (z := (.agg #[.int .i64 0, (.slice none 0 0)])) (bytes := 32) Tryz.underlying31 (by kernel_rfl) rfl (by decide) (by decide) (by decide) F rfl rfl rfl h180 h248.src hB.size (Dj.symm d255.r) c260 (fun a w v261 rb262 h263 l keep F => ?_)
   have ow264 := Own.append (Own.goO ow184 l h180.dj.symm) (Own.goO ow249 l (Dj.symm (Dj.symm d255.r))) (Dj.symm d256.r)
   have d266 := keep _ h17.m d185
   have d267 := keep _ (inm1 K21) (Dj.symm (Dj.l d186))
   have d268 := keep _ (inm1 K26) (Dj.symm (Dj.l d187))
   replace hB := hB.o l h180.lo hB.size
   replace h17 := h17.goO l d185
   replace K21 := K21.only l (Dj.symm (Dj.l d186)).not
   replace K26 := K26.only l (Dj.symm (Dj.l d187)).not
   have d269 := Dj.app' (Dj.symm d267) (Dj.app' (Dj.r d186) (Dj.r d257))
   have d270 := Dj.app' (Dj.symm d268) (Dj.app' (Dj.r d187) (Dj.r d258))
   refine x_end ?_
   refine x_tn ?_
   refine ⟨.inr (by kernel_rfl), ?_⟩
   refine b_q 10 (by kernel_rfl) rfl (by kernel_rfl) (by kernel_rfl) (by kernel_rfl) (by kernel_rfl) ?_
   refine v_val F rfl (fun w l => r_bfield fa33_1 F rfl rfl) (fun a F => ?_)
   refine b_e 11 rfl (by kernel_rfl) ?_
   refine o_bstore Tryz.sizeOf31 F rfl rfl rfl K26 (h263.rd).r.one (by first | simp | decide) rfl (fun w K26 l => ?_)
   replace hB := hB.o l (fun c hc => by rw [List.mem_singleton] at hc; rw [hc]; exact CK26) hB.size
   replace h17 := h17.goO l d29
   replace h263 := h263.goO l d270
   replace ow264 := ow264.goO l d270.r
   replace K21 := K21.only l (by simpa using nb28)
   refine x_end ?_
   refine x_tn ?_
   refine ⟨.inr (by kernel_rfl), ?_⟩
   refine b_end (by kernel_rfl) ?_
   refine x_bn ?_
   refine x_tn ?_
   refine x_reg ?_
   refine o_inc F rfl rfl rfl ink197 (fun a F => ?_)
   refine o_move F rfl rfl (fun a F => ?_)
   refine x_end ?_
   refine x_tn ?_
   replace hR := l_go hR hn175
   exact ⟨_, Nat.lt_succ_self _, k197 + 1, rest198, z259, v261, rb262, (ib183 ++ ((rb229 ++ ib230))), ⟨hd201.1, hd201.2.2⟩, rfl, hR, F.sub (sc rfl (sc rfl (sc rfl (sc rfl (sc rfl sn))))), hB, h263, ow264, h17, K21, K26, d266, d269, d270⟩
 intro a w ⟨s188, v191, rb192, ib193, ho174, F, hB, h190, ow194, K21, K26, d195, d196⟩
 subst ho174
 have hR := then_nx hk173
 refine x_tn ?_
 refine x_seq ?_
 refine x_reg ?_
 refine o_bloadA (cs := [.int .i64 x0.size, v191]) Tryz.isAgg33 Tryz.sizeOf33 F rfl rfl K26 rfl (fun j hj => by match j, hj with | 0, _ => rfl | 1, _ => rfl) (fun a F => ?_)
 have h271 := RTemplate.mk2 (w := w) i14 h190.rd
 refine o_bstoreA (vs := [.int .i64 x0.size, v191]) Tryz.sizeOf33 F rfl rfl rfl K21 (oc rfl (oc (h190.rd).r.one on)) (Nat.le_of_ble_eq_true rfl) rfl (fun w K21 l => ?_)
 replace hB := hB.o l (fun c hc => by rw [List.mem_singleton] at hc; rw [hc]; exact CK21) hB.size
 replace h190 := h190.goO l d195
 replace ow194 := ow194.goO l d195.r
 refine x_end ?_
 refine x_tn ?_
 refine x_ret ?_
 refine x_res1 F rfl (rv_cA (arr := #[.int .i64 x0.size, v191]) F Tryz.isAgg33 Tryz.sizeOf33 rfl K21) ?_
 obtain rfl := Option.some.inj hR
 exact ⟨_, rfl, hB, v191, rb192, ib193, rfl, i14, h190, ow194⟩

def impl_ownInstance (x0 : Instance) : Option Instance :=
 thn (σ := (List Con)) (
  forL (σ := (List Con)) (ρ := Instance) (fun (k187 : Nat) (x189 : Con) (s168 : (List Con)) =>
   bnd (slices_Clone_s_int64_int64 x189.scope) fun z216 =>
   bnd (ap s168 ([(Con.mk x189.rel z216)])) fun z244 =>
   some (.go z244)) x0.cons 0 []) fun s178 =>
 some ((Instance.mk x0.vars s178))
set_option maxHeartbeats 1000000 in
theorem impl_ownInstance_c {x0 : Instance} (r : Instance) (hR : impl_ownInstance x0 = some r) {v0 : Value} {b0 : List Nat} (w0 : World) (A0 : Rd (Agg 2 RInstance) w0 v0 x0 b0) : Calls Tryz.prog 95 #[v0] w0 (Gives (fun v w' => ∃ (v1' : Value) (rb2' : List Nat) (ib3' : List Nat), v = .agg #[.int .i64 r.vars, v1'] ∧ I64 r.vars ∧ Row 2 RCon 130 w0.heap.size w' v1' r.cons rb2' ib3' ∧ Own w0.heap.size ib3' w') w0) := by
 unfold impl_ownInstance at hR
 refine x_enter (L := [(0, v0)]) Tryz.func95 rfl rfl rfl (sc rfl sn) (fun a F => ?_)
 have hB := Below.refl w0.heap.size w0
 refine x_seq ?_
 refine x_reg ?_
 obtain ⟨v15, b16, e18, i14, h17, eb13⟩ := RInstance.rd (A0.go hB)
 subst e18
 refine o_box F rfl rfl rfl (fun a w b11 K12 l BK12 F => ?_)
 have d19 := (dj1 h17.m BK12).symm
 have CK12 := Nat.le_trans hB.size BK12
 replace hB := Below.through l hB
 replace h17 := h17.go l
 refine o_alloc Tryz.zeroValue60 F rfl rfl (fun a w b20 K21 l BK21 F => ?_)
 have nb22 := Dj.bb K12 BK21
 have d23 := (dj1 h17.m BK21).symm
 have CK21 := Nat.le_trans hB.size BK21
 replace hB := Below.through l hB
 replace h17 := h17.go l
 replace K12 := K12.thru l
 refine x_end ?_
 refine x_tn ?_
 refine x_seq ?_
 refine x_reg ?_
 refine o_bfield fa60_0 F rfl rfl rfl (fun a F => ?_)
 refine o_bload Tryz.isAgg2 F rfl rfl K12 rfl (fun a F => ?_)
 refine o_build Tryz.underlying60 Tryz.zeroValue60 (fun w => by simp [Tryz.sizeOf2, Tryz.sizeOf58]; rfl) F rfl rfl rfl rfl rfl (oc rfl on) rfl rfl (fun a F => ?_)
 have h24 := RInstance.mk2 (w := w) i14 (Rd.nil 2 RCon _)
 refine o_alloc Tryz.zeroValue60 F rfl rfl (fun a w b25 K26 l BK26 F => ?_)
 have nb27 := Dj.bb K12 BK26
 have nb28 := Dj.bb K21 BK26
 have d29 := (dj1 h17.m BK26).symm
 have d30 := (dj1 h24.m BK26).symm
 have CK26 := Nat.le_trans hB.size BK26
 replace hB := Below.through l hB
 replace h17 := h17.go l
 replace h24 := h24.go l
 replace K12 := K12.thru l
 replace K21 := K21.thru l
 refine o_bstoreA (vs := [.int .i64 x0.vars, (.slice none 0 0)]) Tryz.sizeOf60 F rfl rfl rfl K26 (oc rfl (oc rfl on)) (Nat.le_of_ble_eq_true rfl) rfl (fun w K26 l => ?_)
 replace hB := hB.o l (fun c hc => by rw [List.mem_singleton] at hc; rw [hc]; exact CK26) hB.size
 replace h17 := h17.goO l d29
 replace K12 := K12.only l (by simpa using nb27)
 replace K21 := K21.only l (by simpa using nb28)
 refine x_end ?_
 refine x_tn ?_
 refine x_seq ?_
 refine x_seq ?_
 refine x_reg ?_
 refine o_bfield fa60_1 F rfl rfl rfl (fun a F => ?_)
 refine o_bload Tryz.isAgg58 F rfl rfl K12 rfl (fun a F => ?_)
 refine o_len Tryz.underlying58 F rfl rfl h17 (fun a F => ?_)
 have i31 := (h17).r.len64
 refine o_move F rfl rfl (fun a F => ?_)
 refine x_end ?_
 refine x_tn ?_
 obtain ⟨o162, hR, hk163⟩ := thn_some hR
 refine x_cutQ (fun a w => ∃ (s178 : List Con) (v181 : Value) (rb182 : List Nat) (ib183 : List Nat), o162 = .nx s178 ∧ Sk a 29 [(2, .pointer (some ⟨b20, 0, none⟩)), (3, .pointer (some ⟨b25, 0, none⟩))] ∧ Below w0.heap.size w0 w ∧ Row 2 RCon 130 w0.heap.size w v181 s178 rb182 ib183 ∧ Own w0.heap.size ib183 w ∧ Blk w b20 #[.int .i64 0, (.slice none 0 0)] 60 ∧ Blk w b25 #[.int .i64 x0.vars, v181] 60 ∧ Dj (rb182 ++ ib183) [b20] ∧ Dj (rb182 ++ ib183) [b25]) ?_ ?_
 ·
  refine x_blk ?_
  obtain ⟨fl166, hf167, hR⟩ := forL_gen hR
  refine x_loop (fun g a w => ∃ (k187 : Nat) (rest188 : List Con) (s168 : List Con) (v171 : Value) (rb172 : List Nat) (ib173 : List Nat), (k187 ≤ x0.cons.length ∧ x0.cons.drop k187 = rest188) ∧ rest188.length = g ∧ forL fl166 rest188 k187 s168 = some o162 ∧ Sk a 29 [(12, .int .i64 (k187 : Int)), (2, .pointer (some ⟨b20, 0, none⟩)), (3, .pointer (some ⟨b25, 0, none⟩)), (10, v15), (11, .int .i64 (x0.cons.length : Int))] ∧ Below w0.heap.size w0 w ∧ Row 2 RCon 130 w0.heap.size w v171 s168 rb172 ib173 ∧ Own w0.heap.size ib173 w ∧ Rd (Sl 2 RCon) w v15 x0.cons b16 ∧ Blk w b20 #[.int .i64 0, (.slice none 0 0)] 60 ∧ Blk w b25 #[.int .i64 x0.vars, v171] 60 ∧ Dj b16 rb172 ∧ Dj (rb172 ++ ib173) [b20] ∧ Dj (rb172 ++ ib173) [b25]) x0.cons.length ?_ ?_
  ·
   exact ⟨0, x0.cons, [], (.slice none 0 0), [], [], ⟨Nat.zero_le _, rfl⟩, rfl, hR, F.sub (sc rfl (sc rfl (sc rfl (sc rfl (sc rfl sn))))), hB, Row.nil 2 RCon 130 _ _, Own.nil _ _, h17, K21, K26, (Dj.nil _), (Dj.nil' _), (Dj.nil' _)⟩
  intro g190 a w ⟨k187, rest188, s168, v171, rb172, ib173, hd191, hg192, hR, F, hB, h170, ow174, h17, K21, K26, d175, d176, d177⟩
  cases rest188 with
  | nil =>
   replace hR := forL_nil hR
   have hkk187 := drop_nil hd191.1 hd191.2
   have hlk187 := dec_no hkk187
   refine x_seq ?_
   refine x_reg ?_
   refine o_lss F rfl rfl rfl (fun a F => ?_)
   refine x_end ?_
   refine x_tn ?_
   refine x_seq ?_
   refine x_ifF F rfl hlk187 ?_
   refine x_exit ?_
   refine x_te ?_
   refine x_te ?_
   refine x_be ?_
   refine x_tn ?_
   exact ⟨s168, v171, rb172, ib173, (Option.some.inj hR).symm, F.sub (sc rfl (sc rfl sn)), hB, h170, ow174, K21, K26, d176, d177⟩
  | cons x189 rest188 =>
   subst hg192
   replace hd191 := drop_cons hd191.2
   have hxk187 := ix_nat hd191.2.1
   obtain ⟨ck187, hR, hn165⟩ := forL_cons hR
   rw [hf167] at hR
   have hlk187 := dec_yes hd191.1
   refine x_seq ?_
   refine x_reg ?_
   refine o_lss F rfl rfl rfl (fun a F => ?_)
   refine x_end ?_
   refine x_tn ?_
   refine x_seq ?_
   refine x_ifT F rfl hlk187 ?_
   refine x_skip ?_
   refine x_tn ?_
   refine x_seq ?_
   have ikk187 := k64 (Nat.le_of_lt hd191.1) i31
   have ink187 := inc64 hd191.1 i31
   refine x_blk ?_
   refine x_seq ?_
   refine x_reg ?_
   refine o_index Tryz.underlying58 Tryz.sizeOf130 F rfl rfl rfl h17 hxk187 (fun a p193 b194 h195 s196 F => ?_)
   refine o_loadA Tryz.isAgg130 Tryz.sizeOf130 F rfl rfl h195 (fun a v197 b198 h199 s200 F => ?_)
   refine o_alloc Tryz.zeroValue130 F rfl rfl (fun a w b201 K202 l BK202 F => ?_)
   have d203 := dj1 h170.memR BK202
   have nb204 := Dj.bb K21 BK202
   have nb205 := Dj.bb K26 BK202
   have d206 := (dj1 h17.m BK202).symm
   have d207 := (dj1 h195.m BK202).symm
   have d208 := (dj1 h199.m BK202).symm
   have d209 := (dj1 h170.rd.m BK202).symm
   have CK202 := Nat.le_trans hB.size BK202
   replace hB := Below.through l hB
   replace h17 := h17.go l
   replace h170 := h170.go l
   replace ow174 := ow174.go l
   replace h199 := h199.go l
   replace K21 := K21.thru l
   replace K26 := K26.thru l
   obtain ⟨v212, b213, e215, i211, h214, eb210⟩ := RCon.rd h199
   subst e215
   refine o_bstoreA (vs := [.int .i64 x189.rel, v212]) Tryz.sizeOf130 F rfl rfl rfl K202 (oc rfl (oc (h214).r.one on)) (Nat.le_of_ble_eq_true rfl) rfl (fun w K202 l => ?_)
   replace hB := hB.o l (fun c hc => by rw [List.mem_singleton] at hc; rw [hc]; exact CK202) hB.size
   replace h17 := h17.goO l d206
   replace h170 := h170.goO l d209
   replace ow174 := ow174.goO l d209.r
   replace h214 := h214.goO l (Dj.sub d208 (fun c hc => by rw [eb210]; simp [hc]))
   replace K21 := K21.only l (by simpa using nb204)
   replace K26 := K26.only l (by simpa using nb205)
   refine x_end ?_
   refine x_tn ?_
   refine x_drawn (by kernel_rfl) (fun w l => ?_)
   replace hB := Below.through l hB
   replace h17 := h17.go l
   replace h170 := h170.go l
   replace ow174 := ow174.go l
   replace h214 := h214.go l
   replace K21 := K21.thru l
   replace K26 := K26.thru l
   replace K202 := K202.thru l
   refine b_q 0 (by kernel_rfl) rfl (by kernel_rfl) (by kernel_rfl) (by kernel_rfl) (by kernel_rfl) ?_
   refine v_val F rfl (fun w l => r_bfield fa60_1 F rfl rfl) (fun a F => ?_)
   refine b_q 1 (by kernel_rfl) rfl (by kernel_rfl) (by kernel_rfl) (by kernel_rfl) (by kernel_rfl) ?_
   refine v_val F rfl (fun w l => r_load1 Tryz.isAgg58 F rfl (((K26.thru l).cell _).trans rfl)) (fun a F => ?_)
   refine b_q 2 (by kernel_rfl) rfl (by kernel_rfl) (by kernel_rfl) (by kernel_rfl) (by kernel_rfl) ?_
   refine v_val F rfl (fun w l => r_bfield fa130_0 F rfl rfl) (fun a F => ?_)
   refine b_q 3 (by kernel_rfl) rfl (by kernel_rfl) (by kernel_rfl) (by kernel_rfl) (by kernel_rfl) ?_
   refine v_val F rfl (fun w l => r_load1 Tryz.isAgg2 F rfl (((K202.thru l).cell _).trans rfl)) (fun a F => ?_)
   refine b_q 4 (by kernel_rfl) rfl (by kernel_rfl) (by kernel_rfl) (by kernel_rfl) (by kernel_rfl) ?_
   refine v_val F rfl (fun w l => r_bfield fa130_1 F rfl rfl) (fun a F => ?_)
   refine b_q 5 (by kernel_rfl) rfl (by kernel_rfl) (by kernel_rfl) (by kernel_rfl) (by kernel_rfl) ?_
   refine v_val F rfl (fun w l => r_load1 Tryz.isAgg42 F rfl (((K202.thru l).cell _).trans rfl)) (fun a F => ?_)
   refine b_e 6 rfl (by kernel_rfl) ?_
   obtain ⟨z216, c217, hR⟩ := bnd_some hR
   refine o_gives F rfl Tryz.call71 rfl (slices_Clone_s_int64_int64_c z216 c217 _ h214) (fun a vv w l ⟨v218, rb219, hv222, h221⟩ F => ?_)
   subst vv
   have d224 := Dj.new h17.m h221.ownR (Nat.le_refl _)
   have d225 := Dj.new h170.rd.m h221.ownR (Nat.le_refl _)
   have d226 := Dj.new (inm1 K21) h221.ownR (Nat.le_refl _)
   have d227 := Dj.new (inm1 K26) h221.ownR (Nat.le_refl _)
   have d228 := Dj.app' (Dj.new h170.memR h221.ownR (Nat.le_refl _)).symm (Dj.nil' _)
   have d229 := Dj.app' (Dj.new h170.mem h221.ownR (Nat.le_refl _)).symm (Dj.nil' _)
   replace h221 := h221.base hB.size
   replace hB := Below.through l hB
   replace h17 := h17.go l
   replace h170 := h170.go l
   replace ow174 := ow174.go l
   replace K21 := K21.thru l
   replace K26 := K26.thru l
   refine x_end ?_
   refine x_tn ?_
   refine ⟨.inl l, ?_⟩
   refine b_q 7 (by kernel_rfl) rfl (by kernel_rfl) (by kernel_rfl) (by kernel_rfl) (by kernel_rfl) ?_
   refine v_val F rfl (fun w l => r_build Tryz.underlying130 Tryz.zeroValue130 (fun w => by simp [Tryz.sizeOf2, Tryz.sizeOf42]; rfl) F rfl rfl rfl rfl (oc rfl (oc (h221.rd).r.one on)) rfl rfl) (fun a F => ?_)
   have h230 := RCon.mk2 (w := w) i211 h221.rd
   refine b_e 8 rfl (by kernel_rfl) ?_
   refine o_lit1 (R := RCon) (y := (Con.mk x189.rel z216)) Tryz.underlying58 Tryz.sizeOf130 Tryz.zeroValue130 rfl (by decide) (by decide) F rfl rfl (El.agg h230) (fun a w v231 rb232 h233 l F => ?_)
   have ow234 := Own.go (h221.own (Own.nil _ _)) l
   have d236 := Dj.new h17.m h233.ownR (Nat.le_refl _)
   have d237 := Dj.new h170.rd.m h233.ownR (Nat.le_refl _)
   have d238 := Dj.new (inm1 K21) h233.ownR (Nat.le_refl _)
   have d239 := Dj.new (inm1 K26) h233.ownR (Nat.le_refl _)
   have d240 := Dj.app' (Dj.new h170.memR h233.ownR (Nat.le_refl _)).symm d228
   have d241 := Dj.app' (Dj.new h170.mem h233.ownR (Nat.le_refl _)).symm d229
   have d242 := Dj.app' (Dj.symm d238) (Dj.app' (Dj.symm d226) (Dj.nil' _))
   have d243 := Dj.app' (Dj.symm d239) (Dj.app' (Dj.symm d227) (Dj.nil' _))
   replace h233 := h233.base hB.size
   replace hB := Below.through l hB
   replace h17 := h17.go l
   replace h170 := h170.go l
   replace ow174 := ow174.go l
   replace K21 := K21.thru l
   replace K26 := K26.thru l
   refine x_end ?_
   refine x_tn ?_
   refine ⟨.inl l, ?_⟩
   refine b_e 9 rfl (by kernel_rfl) ?_
   obtain ⟨z244, c245, hR⟩ := bnd_some hR
   refine o_append (sz := 2) (R := RCon) (z := (.agg #[.int .i64 0, (.slice none 0 0)])) (bytes := 32) Tryz.underlying58 (by kernel_rfl) rfl (by decide) (by decide) (by decide) F rfl rfl rfl h170 h233.src hB.size (Dj.symm d240.r) c245 (fun a w v246 rb247 h248 l keep F => ?_)
   have ow249 := Own.append (Own.goO ow174 l h170.dj.symm) (Own.goO ow234 l (Dj.symm (Dj.symm d240.r))) (Dj.symm d241.r)
   have d251 := keep _ h17.m d175
   have d252 := keep _ (inm1 K21) (Dj.symm (Dj.l d176))
   have d253 := keep _ (inm1 K26) (Dj.symm (Dj.l d177))
   replace hB := hB.o l h170.lo hB.size
   replace h17 := h17.goO l d175
   replace K21 := K21.only l (Dj.symm (Dj.l d176)).not
   replace K26 := K26.only l (Dj.symm (Dj.l d177)).not
   have d254 := Dj.app' (Dj.symm d252) (Dj.app' (Dj.r d176) (Dj.r d242))
   have d255 := Dj.app' (Dj.symm d253) (Dj.app' (Dj.r d177) (Dj.r d243))
   refine x_end ?_
   refine x_tn ?_
   refine ⟨.inr (by kernel_rfl), ?_⟩
   refine b_q 10 (by kernel_rfl) rfl (by kernel_rfl) (by kernel_rfl) (by kernel_rfl) (by kernel_rfl) ?_
   refine v_val F rfl (fun w l => r_bfield fa60_1 F rfl rfl) (fun a F => ?_)
   refine b_e 11 rfl (by kernel_rfl) ?_
   refine o_bstore Tryz.sizeOf58 F rfl rfl rfl K26 (h248.rd).r.one (by first | simp | decide) rfl (fun w K26 l => ?_)
   replace hB := hB.o l (fun c hc => by rw [List.mem_singleton] at hc; rw [hc]; exact CK26) hB.size
   replace h17 := h17.goO l d29
   replace h248 := h248.goO l d255
   replace ow249 := ow249.goO l d255.r
   replace K21 := K21.only l (by simpa using nb28)
   refine x_end ?_
   refine x_tn ?_
   refine ⟨.inr (by kernel_rfl), ?_⟩
   refine b_end (by kernel_rfl) ?_
   refine x_bn ?_
   refine x_tn ?_
   refine x_reg ?_
   refine o_inc F rfl rfl rfl ink187 (fun a F => ?_)
   refine o_move F rfl rfl (fun a F => ?_)
   refine x_end ?_
   refine x_tn ?_
   replace hR := l_go hR hn165
   exact ⟨_, Nat.lt_succ_self _, k187 + 1, rest188, z244, v246, rb247, (ib173 ++ ((rb219 ++ []))), ⟨hd191.1, hd191.2.2⟩, rfl, hR, F.sub (sc rfl (sc rfl (sc rfl (sc rfl (sc rfl sn))))), hB, h248, ow249, h17, K21, K26, d251, d254, d255⟩
 intro a w ⟨s178, v181, rb182, ib183, ho164, F, hB, h180, ow184, K21, K26, d185, d186⟩
 subst ho164
 have hR := then_nx hk163
 refine x_tn ?_
 refine x_seq ?_
 refine x_reg ?_
 refine o_bloadA (cs := [.int .i64 x0.vars, v181]) Tryz.isAgg60 Tryz.sizeOf60 F rfl rfl K26 rfl (fun j hj => by match j, hj with | 0, _ => rfl | 1, _ => rfl) (fun a F => ?_)
 have h256 := RInstance.mk2 (w := w) i14 h180.rd
 refine o_bstoreA (vs := [.int .i64 x0.vars, v181]) Tryz.sizeOf60 F rfl rfl rfl K21 (oc rfl (oc (h180.rd).r.one on)) (Nat.le_of_ble_eq_true rfl) rfl (fun w K21 l => ?_)
 replace hB := hB.o l (fun c hc => by rw [List.mem_singleton] at hc; rw [hc]; exact CK21) hB.size
 replace h180 := h180.goO l d185
 replace ow184 := ow184.goO l d185.r
 refine x_end ?_
 refine x_tn ?_
 refine x_ret ?_
 refine x_res1 F rfl (rv_cA (arr := #[.int .i64 x0.vars, v181]) F Tryz.isAgg60 Tryz.sizeOf60 rfl K21) ?_
 obtain rfl := Option.some.inj hR
 exact ⟨_, rfl, hB, v181, rb182, ib183, rfl, i14, h180, ow184⟩

def slices_Equal_s_int64_int64 (x0 : List Int) (x1 : List Int) : Option Bool :=
 if ((x0.length : Int) != (x1.length : Int)) then
  some false
 else
  thn (σ := Unit) (
   forL (σ := Unit) (ρ := Bool) (fun (k34 : Nat) (x36 : Int) (s : Unit) =>
     match s with
     | _ =>
     bnd (ix x1 (k34 : Int)) fun z45 =>
     if (x36 != z45) then
      some (.ret false)
     else
      some (.go ())) x0 0 ()) fun _ =>
  some true
set_option maxHeartbeats 1000000 in
theorem slices_Equal_s_int64_int64_c {x0 : List Int} {x1 : List Int} (r : Bool) (hR : slices_Equal_s_int64_int64 x0 x1 = some r) {v0 : Value} {b0 : List Nat} {v1 : Value} {b1 : List Nat} (w0 : World) (A0 : Rd (Sl 1 RInt) w0 v0 x0 b0) (A1 : Rd (Sl 1 RInt) w0 v1 x1 b1) : Calls Tryz.prog 98 #[v0, v1] w0 (Says (.bool r) w0) := by
 unfold slices_Equal_s_int64_int64 at hR
 refine x_enter (L := [(0, v0), (1, v1)]) Tryz.func98 rfl rfl rfl (sc rfl (sc rfl sn)) (fun a F => ?_)
 have hB := Below.refl w0.heap.size w0
 refine x_seq ?_
 refine x_reg ?_
 refine o_assign F rfl rfl (fun a F => ?_)
 refine x_end ?_
 refine x_tn ?_
 refine x_seq ?_
 refine x_seq ?_
 refine x_reg ?_
 refine o_move F rfl rfl (fun a F => ?_)
 refine o_len Tryz.underlying42 F rfl rfl (A0.go hB) (fun a F => ?_)
 have i11 := ((A0.go hB)).r.len64
 refine o_move F rfl rfl (fun a F => ?_)
 refine o_len Tryz.underlying42 F rfl rfl (A1.go hB) (fun a F => ?_)
 have i12 := ((A1.go hB)).r.len64
 refine o_neq F rfl rfl rfl (fun a F => ?_)
 refine x_end ?_
 refine x_tn ?_
 refine x_if F rfl (fun hb13 => ?_) (fun hb13 => ?_)
 ·
  replace hR := ifT hb13 hR
  refine x_seq ?_
  refine x_reg ?_
  refine o_assign F rfl rfl (fun a F => ?_)
  refine x_end ?_
  refine x_tn ?_
  refine x_ret ?_
  refine x_tr ?_
  refine x_res1 F rfl (rv_t F rfl) ?_
  obtain rfl := Option.some.inj hR
  exact ⟨rfl, hB⟩
 replace hR := ifF hb13 hR
 refine x_skip ?_
 refine x_tn ?_
 refine x_seq ?_
 refine x_seq ?_
 refine x_reg ?_
 refine o_move F rfl rfl (fun a F => ?_)
 refine o_len Tryz.underlying42 F rfl rfl (A0.go hB) (fun a F => ?_)
 have i14 := ((A0.go hB)).r.len64
 refine o_move F rfl rfl (fun a F => ?_)
 refine x_end ?_
 refine x_tn ?_
 obtain ⟨o28, hR, hk29⟩ := thn_some hR
 refine x_cutQ (fun a w => o28 = .nx () ∧ Sk a 26 [] ∧ Below w0.heap.size w0 w) ?_ ?_
 ·
  refine x_blk ?_
  obtain ⟨fl32, hf33, hR⟩ := forL_gen hR
  refine x_loop (fun g a w => ∃ (k34 : Nat) (rest35 : List Int), (k34 ≤ x0.length ∧ x0.drop k34 = rest35) ∧ rest35.length = g ∧ forL fl32 rest35 k34 () = some o28 ∧ Sk a 26 [(13, .int .i64 (k34 : Int)), (0, v0), (1, v1), (12, .int .i64 (x0.length : Int))] ∧ Below w0.heap.size w0 w) x0.length ?_ ?_
  ·
   exact ⟨0, x0, ⟨Nat.zero_le _, rfl⟩, rfl, hR, F.sub (sc rfl (sc rfl (sc rfl (sc rfl sn)))), hB⟩
  intro g37 a w ⟨k34, rest35, hd38, hg39, hR, F, hB⟩
  cases rest35 with
  | nil =>
   replace hR := forL_nil hR
   have hkk34 := drop_nil hd38.1 hd38.2
   have hlk34 := dec_no hkk34
   refine x_seq ?_
   refine x_reg ?_
   refine o_lss F rfl rfl rfl (fun a F => ?_)
   refine x_end ?_
   refine x_tn ?_
   refine x_seq ?_
   refine x_ifF F rfl hlk34 ?_
   refine x_exit ?_
   refine x_te ?_
   refine x_te ?_
   refine x_be ?_
   refine x_tn ?_
   exact ⟨(Option.some.inj hR).symm, F.sub sn, hB⟩
  | cons x36 rest35 =>
   subst hg39
   replace hd38 := drop_cons hd38.2
   have hxk34 := ix_nat hd38.2.1
   obtain ⟨ck34, hR, hn31⟩ := forL_cons hR
   rw [hf33] at hR
   have hlk34 := dec_yes hd38.1
   refine x_seq ?_
   refine x_reg ?_
   refine o_lss F rfl rfl rfl (fun a F => ?_)
   refine x_end ?_
   refine x_tn ?_
   refine x_seq ?_
   refine x_ifT F rfl hlk34 ?_
   refine x_skip ?_
   refine x_tn ?_
   refine x_seq ?_
   have ikk34 := k64 (Nat.le_of_lt hd38.1) i14
   have ink34 := inc64 hd38.1 i14
   refine x_blk ?_
   refine x_seq ?_
   refine x_reg ?_
   refine o_move F rfl rfl (fun a F => ?_)
   refine o_assign F rfl rfl (fun a F => ?_)
   refine x_end ?_
   refine x_tn ?_
   refine x_seq ?_
   refine x_draw (by kernel_rfl) (by kernel_rfl) ?_
   refine q_val F rfl (fun w l => r_move F rfl) (fun a F => ?_)
   refine q_val F rfl (fun w l => r_move F rfl) (fun a F => ?_)
   refine q_index Tryz.underlying42 Tryz.sizeOf2 F rfl rfl rfl (A0.go hB) hxk34 (fun a p40 b41 h42 s43 F => ?_)
   have i44 := (h42).i64
   refine q_val F rfl (fun w l => r_loadI Tryz.isAgg2 F rfl ((h42).go l)) (fun a F => ?_)
   refine q_val F rfl (fun w l => r_move F rfl) (fun a F => ?_)
   refine q_val F rfl (fun w l => r_move F rfl) (fun a F => ?_)
   obtain ⟨z45, c46, hR⟩ := bnd_some hR
   refine q_index Tryz.underlying42 Tryz.sizeOf2 F rfl rfl rfl (A1.go hB) c46 (fun a p47 b48 h49 s50 F => ?_)
   have i51 := (h49).i64
   refine q_val F rfl (fun w l => r_loadI Tryz.isAgg2 F rfl ((h49).go l)) (fun a F => ?_)
   refine q_val F rfl (fun w l => r_neq F rfl rfl) (fun a F => ?_)
   refine q_end (fun w l => ?_)
   replace hB := Below.through l hB
   refine x_tn ?_
   refine x_if F rfl (fun hb52 => ?_) (fun hb52 => ?_)
   ·
    replace hR := ifT hb52 hR
    refine x_seq ?_
    refine x_reg ?_
    refine o_assign F rfl rfl (fun a F => ?_)
    refine x_end ?_
    refine x_tn ?_
    refine x_ret ?_
    refine x_br ?_
    refine x_tr ?_
    refine x_tr ?_
    replace hR := l_ret hR hn31
    refine x_br ?_
    refine x_tr ?_
    replace hR := j_ret hR hk29
    refine x_tr ?_
    refine x_res1 F rfl (rv_t F rfl) ?_
    obtain rfl := Option.some.inj hR
    exact ⟨rfl, hB⟩
   replace hR := ifF hb52 hR
   refine x_skip ?_
   refine x_bn ?_
   refine x_tn ?_
   refine x_reg ?_
   refine o_inc F rfl rfl rfl ink34 (fun a F => ?_)
   refine o_move F rfl rfl (fun a F => ?_)
   refine x_end ?_
   refine x_tn ?_
   replace hR := l_go hR hn31
   exact ⟨_, Nat.lt_succ_self _, k34 + 1, rest35, ⟨hd38.1, hd38.2.2⟩, rfl, hR, F.sub (sc rfl (sc rfl (sc rfl (sc rfl sn)))), hB⟩
 intro a w ⟨ho30, F, hB⟩
 subst ho30
 have hR := then_nx hk29
 refine x_tn ?_
 refine x_seq ?_
 refine x_reg ?_
 refine o_assign F rfl rfl (fun a F => ?_)
 refine x_end ?_
 refine x_tn ?_
 refine x_ret ?_
 refine x_res1 F rfl (rv_t F rfl) ?_
 obtain rfl := Option.some.inj hR
 exact ⟨rfl, hB⟩

def impl_AddNoGoods_2 (x0 : List Int) (y0 : (List Int)) : Option Bool :=
 bnd (slices_Equal_s_int64_int64 x0 y0) fun z15 =>
 some ((!z15))
set_option maxHeartbeats 1000000 in
theorem impl_AddNoGoods_2_c {x0 : List Int} {y0 : (List Int)} (r : Bool) (hR : impl_AddNoGoods_2 x0 y0 = some r) {v0 : Value} {b0 : List Nat} {v1 : Value} {b1 : List Nat} (w0 : World) (A0 : Rd (Sl 1 RInt) w0 v0 x0 b0) (A1 : Rd (Pt 1 (RSl 1 RInt)) w0 v1 y0 b1) : Calls Tryz.prog 97 #[v0, v1] w0 (Says (.bool r) w0) := by
 unfold impl_AddNoGoods_2 at hR
 refine x_enter (L := [(0, v0), (1, v1)]) Tryz.func97 rfl rfl rfl (sc rfl (sc rfl sn)) (fun a F => ?_)
 have hB := Below.refl w0.heap.size w0
 refine x_seq ?_
 refine x_reg ?_
 refine o_assign F rfl rfl (fun a F => ?_)
 refine x_end ?_
 refine x_tn ?_
 refine x_seq ?_
 refine x_reg ?_
 refine o_move F rfl rfl (fun a F => ?_)
 refine o_loadS Tryz.isAgg42 F rfl rfl (A1.go hB) (fun a v11 b12 h13 s14 F => ?_)
 obtain ⟨z15, c16, hR⟩ := bnd_some hR
 refine o_says F rfl Tryz.call98 rfl (slices_Equal_s_int64_int64_c z15 c16 _ (A0.go hB) h13) (fun a w l F => ?_)
 replace hB := Below.through l hB
 refine o_not F rfl rfl (fun a F => ?_)
 refine o_assign F rfl rfl (fun a F => ?_)
 refine x_end ?_
 refine x_tn ?_
 refine x_ret ?_
 refine x_res1 F rfl (rv_t F rfl) ?_
 obtain rfl := Option.some.inj hR
 exact ⟨rfl, hB⟩

def impl_relOf (N : Nat) (x0 : Int) (x1 : Int) (x2 : (List Int) → Option Bool) : Option Rel :=
 bnd (impl_power x0 x1) fun z18 =>
 thn (σ := (List (List Int))) (
  forI (σ := (List (List Int))) (ρ := Rel) (fun (k127 : Nat) (s109 : (List (List Int))) =>
   bnd (impl_listOf N x0 x1 (k127 : Int)) fun z133 =>
   bnd (x2 z133) fun z146 =>
   if z146 then
    bnd (ap s109 ([z133])) fun z161 =>
    some (.go z161)
   else
    some (.go s109)) z18.toNat 0 []) fun s118 =>
 some ((Rel.mk x1 s118))
set_option maxHeartbeats 1000000 in
theorem impl_relOf_c {N : Nat} {x0 : Int} {x1 : Int} {x2 : (List Int) → Option Bool} (r : Rel) (hR : impl_relOf N x0 x1 x2 = some r) {g2 : FuncId} {lb2 : List Value} (w0 : World) (hx0 : I64 x0) (hx1 : I64 x1) (hg2 : ∀ args w, (callFunc g2 args).run Tryz.prog w = .ok (.enter g2 args) w) (hp2 : ∀ (a0 : List Int) (r : Bool), x2 a0 = some r → ∀ W, Below w0.heap.size w0 W → ∀ (u0 : Value) (c0 : List Nat), Rd (Sl 1 RInt) W u0 a0 c0 → Calls Tryz.prog g2 ([u0] ++ lb2 : List Value).toArray W (Says (.bool r) W)) : Calls Tryz.prog 96 #[.int .i64 x0, .int .i64 x1, .func (.func g2) #[] lb2.toArray] w0 (Gives (fun v w' => ∃ (v1' : Value) (rb2' : List Nat) (ib3' : List Nat), v = .agg #[.int .i64 r.arity, v1'] ∧ I64 r.arity ∧ Row 1 (RSl 1 RInt) 42 w0.heap.size w' v1' r.tuples rb2' ib3' ∧ Own w0.heap.size ib3' w') w0) := by
 unfold impl_relOf at hR
 refine x_enter (L := [(0, .int .i64 x0), (1, .int .i64 x1), (2, .func (.func g2) #[] lb2.toArray)]) Tryz.func96 rfl rfl rfl (sc rfl (sc rfl (sc rfl sn))) (fun a F => ?_)
 have hB := Below.refl w0.heap.size w0
 refine x_seq ?_
 refine x_reg ?_
 refine o_alloc Tryz.zeroValue101 F rfl rfl (fun a w b11 K12 l BK12 F => ?_)
 have CK12 := Nat.le_trans hB.size BK12
 replace hB := Below.through l hB
 refine x_end ?_
 refine x_tn ?_
 refine x_seq ?_
 refine x_reg ?_
 refine o_move F rfl rfl (fun a F => ?_)
 refine o_build Tryz.underlying101 Tryz.zeroValue101 (fun w => by simp [Tryz.sizeOf2, Tryz.sizeOf99]; rfl) F rfl rfl rfl rfl rfl (oc rfl on) rfl rfl (fun a F => ?_)
 have h13 := RRel.mk2 (w := w) hx1 (Rd.nil 1 (RSl 1 RInt) _)
 refine o_alloc Tryz.zeroValue101 F rfl rfl (fun a w b14 K15 l BK15 F => ?_)
 have nb16 := Dj.bb K12 BK15
 have d17 := (dj1 h13.m BK15).symm
 have CK15 := Nat.le_trans hB.size BK15
 replace hB := Below.through l hB
 replace h13 := h13.go l
 replace K12 := K12.thru l
 refine o_bstoreA (vs := [.int .i64 x1, (.slice none 0 0)]) Tryz.sizeOf101 F rfl rfl rfl K15 (oc rfl (oc rfl on)) (Nat.le_of_ble_eq_true rfl) rfl (fun w K15 l => ?_)
 replace hB := hB.o l (fun c hc => by rw [List.mem_singleton] at hc; rw [hc]; exact CK15) hB.size
 replace K12 := K12.only l (by simpa using nb16)
 refine x_end ?_
 refine x_tn ?_
 refine x_seq ?_
 refine x_seq ?_
 refine x_reg ?_
 refine o_move F rfl rfl (fun a F => ?_)
 refine o_move F rfl rfl (fun a F => ?_)
 obtain ⟨z18, c19, hR⟩ := bnd_some hR
 refine o_saysI F rfl Tryz.call178 rfl (impl_power_c z18 c19 _ hx0 hx1) (fun a w l iz18 F => ?_)
 replace hB := Below.through l hB
 replace K12 := K12.thru l
 replace K15 := K15.thru l
 refine o_move F rfl rfl (fun a F => ?_)
 refine x_end ?_
 refine x_tn ?_
 obtain ⟨o103, hR, hk104⟩ := thn_some hR
 refine x_cutQ (fun a w => ∃ (s118 : List (List Int)) (v121 : Value) (rb122 : List Nat) (ib123 : List Nat), o103 = .nx s118 ∧ Sk a 33 [(6, .pointer (some ⟨b11, 0, none⟩)), (7, .pointer (some ⟨b14, 0, none⟩))] ∧ Below w0.heap.size w0 w ∧ Row 1 (RSl 1 RInt) 42 w0.heap.size w v121 s118 rb122 ib123 ∧ Own w0.heap.size ib123 w ∧ Blk w b11 #[.int .i64 0, (.slice none 0 0)] 101 ∧ Blk w b14 #[.int .i64 x1, v121] 101 ∧ Dj (rb122 ++ ib123) [b11] ∧ Dj (rb122 ++ ib123) [b14]) ?_ ?_
 ·
  refine x_blk ?_
  obtain ⟨fl107, hf108, hR⟩ := forI_gen hR
  refine x_loop (fun g a w => ∃ (k127 : Nat) (s109 : List (List Int)) (v112 : Value) (rb113 : List Nat) (ib114 : List Nat), k127 + g = z18.toNat ∧ forI fl107 g k127 s109 = some o103 ∧ Sk a 33 [(15, .int .i64 (k127 : Int)), (0, .int .i64 x0), (1, .int .i64 x1), (2, .func (.func g2) #[] lb2.toArray), (6, .pointer (some ⟨b11, 0, none⟩)), (7, .pointer (some ⟨b14, 0, none⟩)), (14, .int .i64 z18)] ∧ Below w0.heap.size w0 w ∧ Row 1 (RSl 1 RInt) 42 w0.heap.size w v112 s109 rb113 ib114 ∧ Own w0.heap.size ib114 w ∧ Blk w b11 #[.int .i64 0, (.slice none 0 0)] 101 ∧ Blk w b14 #[.int .i64 x1, v112] 101 ∧ Dj (rb113 ++ ib114) [b11] ∧ Dj (rb113 ++ ib114) [b14]) z18.toNat ?_ ?_
  ·
   exact ⟨0, [], (.slice none 0 0), [], [], (Nat.zero_add _), hR, F.sub (sc rfl (sc rfl (sc rfl (sc rfl (sc rfl (sc rfl (sc rfl sn))))))), hB, Row.nil 1 (RSl 1 RInt) 42 _ _, Own.nil _ _, K12, K15, (Dj.nil' _), (Dj.nil' _)⟩
  intro g130 a w ⟨k127, s109, v112, rb113, ib114, hd131, hR, F, hB, h111, ow115, K12, K15, d116, d117⟩
  cases g130 with
  | zero =>
   replace hR := forI_zero hR
   have hlk127 := dec_noI hd131
   refine x_seq ?_
   refine x_reg ?_
   refine o_lss F rfl rfl rfl (fun a F => ?_)
   refine x_end ?_
   refine x_tn ?_
   refine x_seq ?_
   refine x_ifF F rfl hlk127 ?_
   refine x_exit ?_
   refine x_te ?_
   refine x_te ?_
   refine x_be ?_
   refine x_tn ?_
   exact ⟨s109, v112, rb113, ib114, (Option.some.inj hR).symm, F.sub (sc rfl (sc rfl sn)), hB, h111, ow115, K12, K15, d116, d117⟩
  | succ g130 =>
   obtain ⟨ck127, hR, hn106⟩ := forI_succ hR
   rw [hf108] at hR
   have hlk127 := dec_yesI hd131
   refine x_seq ?_
   refine x_reg ?_
   refine o_lss F rfl rfl rfl (fun a F => ?_)
   refine x_end ?_
   refine x_tn ?_
   refine x_seq ?_
   refine x_ifT F rfl hlk127 ?_
   refine x_skip ?_
   refine x_tn ?_
   refine x_seq ?_
   have ikk127 := k64I hd131 iz18
   have ink127 := inc64I hd131 iz18
   refine x_blk ?_
   refine x_seq ?_
   refine x_reg ?_
   refine o_move F rfl rfl (fun a F => ?_)
   refine o_assign F rfl rfl (fun a F => ?_)
   refine x_end ?_
   refine x_tn ?_
   refine x_seq ?_
   refine x_reg ?_
   refine o_move F rfl rfl (fun a F => ?_)
   refine o_move F rfl rfl (fun a F => ?_)
   refine o_move F rfl rfl (fun a F => ?_)
   obtain ⟨z133, c134, hR⟩ := bnd_some hR
   refine o_gives F rfl Tryz.call179 rfl (impl_listOf_c z133 c134 _ hx0 hx1 ikk127) (fun a vv w l ⟨v135, rb136, hv139, h138⟩ F => ?_)
   subst vv
   have d141 := Dj.new h111.rd.m h138.ownR (Nat.le_refl _)
   have d142 := Dj.new (inm1 K12) h138.ownR (Nat.le_refl _)
   have d143 := Dj.new (inm1 K15) h138.ownR (Nat.le_refl _)
   have d144 := Dj.app' (Dj.new h111.memR h138.ownR (Nat.le_refl _)).symm (Dj.nil' _)
   have d145 := Dj.app' (Dj.new h111.mem h138.ownR (Nat.le_refl _)).symm (Dj.nil' _)
   replace h138 := h138.base hB.size
   replace hB := Below.through l hB
   replace h111 := h111.go l
   replace ow115 := ow115.go l
   replace K12 := K12.thru l
   replace K15 := K15.thru l
   refine o_assign F rfl rfl (fun a F => ?_)
   refine x_end ?_
   refine x_tn ?_
   refine x_seq ?_
   refine x_reg ?_
   refine o_move F rfl rfl (fun a F => ?_)
   refine o_move F rfl rfl (fun a F => ?_)
   obtain ⟨z146, c147, hR⟩ := bnd_some hR
   refine o_saysV F rfl rfl hg2 rfl (hp2 _ z146 c147 _ hB _ _ h138.rd) (fun a w l F => ?_)
   replace hB := Below.through l hB
   replace h111 := h111.go l
   replace ow115 := ow115.go l
   replace h138 := h138.go l
   replace K12 := K12.thru l
   replace K15 := K15.thru l
   refine x_end ?_
   refine x_tn ?_
   refine x_if F rfl (fun hb148 => ?_) (fun hb148 => ?_)
   ·
    replace hR := ifT hb148 hR
    refine x_reg ?_
    refine o_bfield fa101_1 F rfl rfl rfl (fun a F => ?_)
    refine o_bload Tryz.isAgg99 F rfl rfl K15 rfl (fun a F => ?_)
    refine o_move F rfl rfl (fun a F => ?_)
    refine o_lit1 (R := (RSl 1 RInt)) (y := z133) Tryz.underlying99 Tryz.sizeOf42 Tryz.zeroValue42 rfl (by decide) (by decide) F rfl rfl (El.sl h138.rd) (fun a w v149 rb150 h151 l F => ?_)
    have ow152 := Own.go (h138.own (Own.nil _ _)) l
    have d154 := Dj.new h111.rd.m h151.ownR (Nat.le_refl _)
    have d155 := Dj.new (inm1 K12) h151.ownR (Nat.le_refl _)
    have d156 := Dj.new (inm1 K15) h151.ownR (Nat.le_refl _)
    have d157 := Dj.app' (Dj.new h111.memR h151.ownR (Nat.le_refl _)).symm d144
    have d158 := Dj.app' (Dj.new h111.mem h151.ownR (Nat.le_refl _)).symm d145
    have d159 := Dj.app' (Dj.symm d155) (Dj.app' (Dj.symm d142) (Dj.nil' _))
    have d160 := Dj.app' (Dj.symm d156) (Dj.app' (Dj.symm d143) (Dj.nil' _))
    replace h151 := h151.base hB.size
    replace hB := Below.through l hB
    replace h111 := h111.go l
    replace ow115 := ow115.go l
    replace K12 := K12.thru l
    replace K15 := K15.thru l
    obtain ⟨z161, c162, hR⟩ := bnd_some hR
    refine o_append (sz := 1) (R := (RSl 1 RInt)) (z := ((.slice none 0 0))) (bytes := 24) Tryz.underlying99 (by kernel_rfl) rfl (by decide) (by decide) (by decide) F rfl rfl rfl h111 h151.src hB.size (Dj.symm d157.r) c162 (fun a w v163 rb164 h165 l keep F => ?_)
    have ow166 := Own.append (Own.goO ow115 l h111.dj.symm) (Own.goO ow152 l (Dj.symm (Dj.symm d157.r))) (Dj.symm d158.r)
    have d168 := keep _ (inm1 K12) (Dj.symm (Dj.l d116))
    have d169 := keep _ (inm1 K15) (Dj.symm (Dj.l d117))
    replace hB := hB.o l h111.lo hB.size
    replace K12 := K12.only l (Dj.symm (Dj.l d116)).not
    replace K15 := K15.only l (Dj.symm (Dj.l d117)).not
    have d170 := Dj.app' (Dj.symm d168) (Dj.app' (Dj.r d116) (Dj.r d159))
    have d171 := Dj.app' (Dj.symm d169) (Dj.app' (Dj.r d117) (Dj.r d160))
    refine o_bfield fa101_1 F rfl rfl rfl (fun a F => ?_)
    refine o_bstore Tryz.sizeOf99 F rfl rfl rfl K15 (h165.rd).r.one (by first | simp | decide) rfl (fun w K15 l => ?_)
    replace hB := hB.o l (fun c hc => by rw [List.mem_singleton] at hc; rw [hc]; exact CK15) hB.size
    replace h165 := h165.goO l d171
    replace ow166 := ow166.goO l d171.r
    replace K12 := K12.only l (by simpa using nb16)
    refine x_end ?_
    refine x_bn ?_
    refine x_tn ?_
    refine x_reg ?_
    refine o_inc F rfl rfl rfl ink127 (fun a F => ?_)
    refine o_move F rfl rfl (fun a F => ?_)
    refine x_end ?_
    refine x_tn ?_
    replace hR := l_go hR hn106
    exact ⟨_, Nat.lt_succ_self _, k127 + 1, z161, v163, rb164, (ib114 ++ (rb136 ++ [])), (by omega), hR, F.sub (sc rfl (sc rfl (sc rfl (sc rfl (sc rfl (sc rfl (sc rfl sn))))))), hB, h165, ow166, K12, K15, d170, d171⟩
   replace hR := ifF hb148 hR
   refine x_skip ?_
   refine x_bn ?_
   refine x_tn ?_
   refine x_reg ?_
   refine o_inc F rfl rfl rfl ink127 (fun a F => ?_)
   refine o_move F rfl rfl (fun a F => ?_)
   refine x_end ?_
   refine x_tn ?_
   replace hR := l_go hR hn106
   exact ⟨_, Nat.lt_succ_self _, k127 + 1, s109, v112, rb113, ib114, (by omega), hR, F.sub (sc rfl (sc rfl (sc rfl (sc rfl (sc rfl (sc rfl (sc rfl sn))))))), hB, h111, ow115, K12, K15, d116, d117⟩
 intro a w ⟨s118, v121, rb122, ib123, ho105, F, hB, h120, ow124, K12, K15, d125, d126⟩
 subst ho105
 have hR := then_nx hk104
 refine x_tn ?_
 refine x_seq ?_
 refine x_reg ?_
 refine o_bloadA (cs := [.int .i64 x1, v121]) Tryz.isAgg101 Tryz.sizeOf101 F rfl rfl K15 rfl (fun j hj => by match j, hj with | 0, _ => rfl | 1, _ => rfl) (fun a F => ?_)
 have h172 := RRel.mk2 (w := w) hx1 h120.rd
 refine o_bstoreA (vs := [.int .i64 x1, v121]) Tryz.sizeOf101 F rfl rfl rfl K12 (oc rfl (oc (h120.rd).r.one on)) (Nat.le_of_ble_eq_true rfl) rfl (fun w K12 l => ?_)
 replace hB := hB.o l (fun c hc => by rw [List.mem_singleton] at hc; rw [hc]; exact CK12) hB.size
 replace h120 := h120.goO l d125
 replace ow124 := ow124.goO l d125.r
 refine x_end ?_
 refine x_tn ?_
 refine x_ret ?_
 refine x_res1 F rfl (rv_cA (arr := #[.int .i64 x1, v121]) F Tryz.isAgg101 Tryz.sizeOf101 rfl K12) ?_
 obtain rfl := Option.some.inj hR
 exact ⟨_, rfl, hB, v121, rb122, ib123, rfl, hx1, h120, ow124⟩
end Go.Proofs.YtfggmelojaicfaaGreat
