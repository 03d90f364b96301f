/-
  Functions of the program as plain functions, and that they compute them. Printed by fxio.py.
-/
import Derived.Test.YtbgkhipclkhlcaaDoorS5
namespace Go.Proofs.YtbgkhipclkhlcaaDoor
set_option linter.unusedVariables false
set_option linter.unusedSimpArgs false
set_option maxRecDepth 100000
open Go.RowKit
def spec_l05Numbers (x0 : List ByteArray) (x1 : Int) : Option ((List Int) × Bool) :=
 thn (σ := (List Int)) (
  forI (σ := (List Int)) (ρ := (List Int) × Bool) (fun (k62 : Nat) (s52 : (List Int)) =>
   bnd (ix x0 (x1 + (k62 : Int))) fun z69 =>
   bnd (spec_l01Number z69) fun z76 =>
   if (!z76.2) then
    some (.ret (s52, false))
   else
    bnd (ap s52 ([z76.1])) fun z87 =>
    some (.go z87)) ((x0.length : Int) - x1).toNat 0 []) fun s57 =>
 some (s57, true)
set_option maxHeartbeats 1000000 in
theorem spec_l05Numbers_c {x0 : List ByteArray} {x1 : Int} (r : (List Int) × Bool) (hR : spec_l05Numbers x0 x1 = some r) {v0 : Value} {b0 : List Nat} (w0 : World) (A0 : Rd (Sl 1 RStr) w0 v0 x0 b0) (hx1 : I64 x1) : Calls Tryd.prog 15 #[v0, .int .i64 x1] w0 (Gives (fun v w' => ∃ (v1' : Value) (rb2' : List Nat), v = .tuple #[v1', .bool r.2] ∧ Row 1 RInt 2 w0.heap.size w' v1' r.1 rb2' []) w0) := by
 unfold spec_l05Numbers at hR
 refine x_enter (L := [(0, v0), (1, .int .i64 x1)]) Tryd.func15 rfl rfl rfl (sc rfl (sc rfl sn)) (fun a F => ?_)
 have hB := Below.refl w0.heap.size w0
 refine x_seq ?_
 refine x_reg ?_
 refine o_assign F rfl rfl (fun a F => ?_)
 refine o_assign F rfl rfl (fun a F => ?_)
 refine x_end ?_
 refine x_tn ?_
 refine x_seq ?_
 refine x_reg ?_
 refine o_lit0 (R := RInt) Tryd.underlying41 Tryd.sizeOf2 F rfl (fun a w v11 rb12 h13 l F => ?_)
 replace h13 := h13.base hB.size
 replace hB := Below.through l hB
 refine o_assign F rfl rfl (fun a F => ?_)
 refine x_end ?_
 refine x_tn ?_
 refine x_seq ?_
 refine x_seq ?_
 refine x_reg ?_
 refine o_move F rfl rfl (fun a F => ?_)
 refine o_assign F rfl rfl (fun a F => ?_)
 refine x_end ?_
 refine x_tn ?_
 obtain ⟨o46, hR, hk47⟩ := thn_some hR
 refine x_cutQ (fun a w => ∃ (s57 : List Int) (v60 : Value) (rb61 : List Nat), o46 = .nx s57 ∧ Sk a 34 [(6, v60)] ∧ Below w0.heap.size w0 w ∧ Row 1 RInt 2 w0.heap.size w v60 s57 rb61 ([])) ?_ ?_
 ·
  refine x_blk ?_
  obtain ⟨fl50, hf51, hR⟩ := forI_gen hR
  have F := F.eq (t := 7) rfl (show Value.int .i64 x1 = Value.int .i64 (x1 + ((0 : Nat) : Int)) by rw [Int.ofNat_zero, Int.add_zero])
  refine x_loop (fun g a w => ∃ (k62 : Nat) (s52 : List Int) (v55 : Value) (rb56 : List Nat), k62 + g = ((x0.length : Int) - x1).toNat ∧ forI fl50 g k62 s52 = some o46 ∧ Sk a 34 [(7, .int .i64 (x1 + (k62 : Int))), (0, v0), (6, v55)] ∧ Below w0.heap.size w0 w ∧ Row 1 RInt 2 w0.heap.size w v55 s52 rb56 ([])) ((x0.length : Int) - x1).toNat ?_ ?_
  ·
   exact ⟨0, [], v11, rb12, (Nat.zero_add _), hR, F.sub (sc rfl (sc rfl (sc rfl sn))), hB, h13⟩
  intro g65 a w ⟨k62, s52, v55, rb56, hd66, hR, F, hB, h54⟩
  cases g65 with
  | zero =>
   replace hR := forI_zero hR
   have hlk62 := dec_noIO hd66
   refine x_seq ?_
   refine x_seq ?_
   refine x_reg ?_
   refine o_move F rfl rfl (fun a F => ?_)
   refine o_move F rfl rfl (fun a F => ?_)
   refine o_len Tryd.underlying30 F rfl rfl (A0.go hB) (fun a F => ?_)
   have i93 := ((A0.go hB)).r.len64
   refine o_lss F rfl rfl rfl (fun a F => ?_)
   refine x_end ?_
   refine x_tn ?_
   refine x_ifF F rfl hlk62 ?_
   refine x_exit ?_
   refine x_te ?_
   refine x_te ?_
   refine x_be ?_
   refine x_tn ?_
   exact ⟨s52, v55, rb56, (Option.some.inj hR).symm, F.sub (sc rfl sn), hB, h54⟩
  | succ g65 =>
   obtain ⟨ck62, hR, hn49⟩ := forI_succ hR
   rw [hf51] at hR
   have hlk62 := dec_yesIO hd66
   refine x_seq ?_
   refine x_seq ?_
   refine x_reg ?_
   refine o_move F rfl rfl (fun a F => ?_)
   refine o_move F rfl rfl (fun a F => ?_)
   refine o_len Tryd.underlying30 F rfl rfl (A0.go hB) (fun a F => ?_)
   have i68 := ((A0.go hB)).r.len64
   refine o_lss F rfl rfl rfl (fun a F => ?_)
   refine x_end ?_
   refine x_tn ?_
   refine x_ifT F rfl hlk62 ?_
   refine x_skip ?_
   refine x_tn ?_
   refine x_seq ?_
   have ikk62 := k64O hd66 hx1 i68
   have ink62 := inc64O hd66 hx1 i68
   refine x_blk ?_
   refine x_seq ?_
   refine x_reg ?_
   refine o_move F rfl rfl (fun a F => ?_)
   refine o_move F rfl rfl (fun a F => ?_)
   obtain ⟨z69, c70, hR⟩ := bnd_some hR
   refine o_index Tryd.underlying30 Tryd.sizeOf9 F rfl rfl rfl (A0.go hB) c70 (fun a p71 b72 h73 s74 F => ?_)
   have i75 := (h73).str
   refine o_loadT Tryd.isAgg9 F rfl rfl h73 (fun a F => ?_)
   obtain ⟨z76, c77, hR⟩ := bnd_some hR
   refine o_gives F rfl Tryd.call23 rfl (spec_l01Number_c z76 c77 _ i75) (fun a vv w l ⟨hv79, i78⟩ F => ?_)
   subst vv
   replace hB := Below.through l hB
   replace h54 := h54.go l
   refine o_move F rfl rfl (fun a F => ?_)
   refine o_extract F rfl rfl rfl (fun a F => ?_)
   refine o_extract F rfl rfl rfl (fun a F => ?_)
   refine o_assign F rfl rfl (fun a F => ?_)
   refine o_assign F rfl rfl (fun a F => ?_)
   refine x_end ?_
   refine x_tn ?_
   refine x_seq ?_
   refine x_seq ?_
   refine x_reg ?_
   refine o_move F rfl rfl (fun a F => ?_)
   refine o_not F rfl rfl (fun a F => ?_)
   refine x_end ?_
   refine x_tn ?_
   refine x_if F rfl (fun hb80 => ?_) (fun hb80 => ?_)
   ·
    replace hR := ifT hb80 hR
    refine x_seq ?_
    refine x_reg ?_
    refine o_move F rfl rfl (fun a F => ?_)
    refine o_assign F rfl rfl (fun a F => ?_)
    refine o_assign F rfl rfl (fun a F => ?_)
    refine x_end ?_
    refine x_tn ?_
    refine x_ret ?_
    refine x_tr ?_
    refine x_br ?_
    refine x_tr ?_
    refine x_tr ?_
    replace hR := l_ret hR hn49
    refine x_br ?_
    refine x_tr ?_
    replace hR := j_ret hR hk47
    refine x_tr ?_
    refine x_res2 F rfl (rv_t F rfl) (rv_t F rfl) ?_
    obtain rfl := Option.some.inj hR
    exact ⟨_, rfl, hB, v55, rb56, rfl, h54⟩
   replace hR := ifF hb80 hR
   refine x_skip ?_
   refine x_tn ?_
   refine x_reg ?_
   refine o_move F rfl rfl (fun a F => ?_)
   refine o_move F rfl rfl (fun a F => ?_)
   refine o_lit1 (R := RInt) (y := z76.1) Tryd.underlying41 Tryd.sizeOf2 Tryd.zeroValue2 rfl (by decide) (by decide) F rfl rfl (El.int i78) (fun a w v81 rb82 h83 l F => ?_)
   have d85 := Dj.new h54.rd.m h83.ownR (Nat.le_refl _)
   have d86 := Dj.app' (Dj.new h54.memR h83.ownR (Nat.le_refl _)).symm (Dj.nil' _)
   replace h83 := h83.base hB.size
   replace hB := Below.through l hB
   replace h54 := h54.go l
   obtain ⟨z87, c88, hR⟩ := bnd_some hR
   refine o_append (sz := 1) (R := RInt) (z := (.int .i64 0)) (bytes := 8) Tryd.underlying41 (by kernel_rfl) rfl (by decide) (by decide) (by decide) F rfl rfl rfl h54 h83.src hB.size (Dj.nil _) c88 (fun a w v89 rb90 h91 l keep F => ?_)
   replace h91 := row_nil2 h91
   replace hB := hB.o l h54.lo hB.size
   refine o_assign F rfl rfl (fun a F => ?_)
   refine x_end ?_
   refine x_bn ?_
   refine x_tn ?_
   refine x_reg ?_
   refine o_move F rfl rfl (fun a F => ?_)
   refine o_incO F rfl rfl rfl ink62 (fun a F => ?_)
   refine o_assign F rfl rfl (fun a F => ?_)
   refine x_end ?_
   refine x_tn ?_
   replace hR := l_go hR hn49
   exact ⟨_, Nat.lt_succ_self _, k62 + 1, z87, v89, rb90, (by omega), hR, F.sub (sc rfl (sc rfl (sc rfl sn))), hB, h91⟩
 intro a w ⟨s57, v60, rb61, ho48, F, hB, h59⟩
 subst ho48
 have hR := then_nx hk47
 refine x_tn ?_
 refine x_seq ?_
 refine x_reg ?_
 refine o_move F rfl rfl (fun a F => ?_)
 refine o_assign F rfl rfl (fun a F => ?_)
 refine o_assign F rfl rfl (fun a F => ?_)
 refine x_end ?_
 refine x_tn ?_
 refine x_ret ?_
 refine x_res2 F rfl (rv_t F rfl) (rv_t F rfl) ?_
 obtain rfl := Option.some.inj hR
 exact ⟨_, rfl, hB, v60, rb61, rfl, h59⟩

def spec_l08Read (N : Nat) (x0 : ByteArray) : Option (Line × Bool) :=
 bnd (spec_l01Split x0 (32 : UInt8)) fun z13 =>
 thn (σ := Int) (
  whl (σ := Int) (ρ := Line × Bool) (fun (s196 : Int) =>
   if (decide (s196 ≤ 3)) then
    bnd (spec_l08Words s196) fun z207 =>
    thn (σ := Bool) (
     bnd (ix z13 0) fun z228 =>
     if (!sEq z228 z207.1) then  some (.nx true) else  bnd (ck (z207.2 + 1)) fun z238 =>
      some (.nx ((z13.length : Int) != z238))) fun s227 =>
    if s227 then
     bnd (ck (s196 + 1)) fun z241 =>
     some (.go z241)
    else
     bnd (spec_l05Numbers z13 1) fun z243 =>
     thn (σ := (List Int)) (
      whl (σ := (List Int)) (ρ := (Ctl (Int) (Line × Bool))) (fun (s281 : (List Int)) =>
       if (decide ((s281.length : Int) < 3)) then
        bnd (ap s281 ([0])) fun z308 =>
        some (.go z308)
       else
        some (.brk s281)) N z243.1) fun s287 =>
     bnd (ix s287 0) fun z315 =>
     bnd (ix s287 1) fun z322 =>
     bnd (ix s287 2) fun z329 =>
     thn (σ := Bool × Int × Int × Int × Int) (
      if z243.2 then  bnd (spec_l08Line (Line.mk s196 z315 z322 z329)) fun z368 =>
       some (.nx (z368, s196, z315, z322, z329)) else  some (.nx (false, s196, z315, z322, z329))) fun (s356, s357, s359, s361, s363) =>
     some (.ret ((Line.mk s357 s359 s361 s363), s356))
   else
    some (.brk s196)) N 1) fun s198 =>
 some ((Line.mk 0 0 0 0), false)
set_option maxHeartbeats 1000000 in
theorem spec_l08Read_c {N : Nat} {x0 : ByteArray} (r : Line × Bool) (hR : spec_l08Read N x0 = some r)  (w0 : World) (hx0 : x0.size ≤ maxLen) : Calls Tryd.prog 7 #[.string x0] w0 (Gives (fun v w' => v = .tuple #[.agg #[.int .i64 r.1.kind, .int .i64 r.1.var, .int .i64 r.1.value, .int .i64 r.1.con], .bool r.2] ∧ I64 r.1.kind ∧ I64 r.1.var ∧ I64 r.1.value ∧ I64 r.1.con) w0) := by
 unfold spec_l08Read at hR
 refine x_enter (L := [(0, .string x0)]) Tryd.func7 rfl rfl rfl (sc rfl sn) (fun a F => ?_)
 have hB := Below.refl w0.heap.size w0
 refine x_seq ?_
 refine x_reg ?_
 refine o_alloc Tryd.zeroValue23 F rfl rfl (fun a w b11 K12 l BK12 F => ?_)
 have CK12 := Nat.le_trans hB.size BK12
 replace hB := Below.through l hB
 refine o_assign F rfl rfl (fun a F => ?_)
 refine x_end ?_
 refine x_tn ?_
 refine x_seq ?_
 refine x_reg ?_
 refine o_move F rfl rfl (fun a F => ?_)
 obtain ⟨z13, c14, hR⟩ := bnd_some hR
 refine o_gives F rfl Tryd.call13 rfl (spec_l01Split_c z13 c14 _ hx0) (fun a vv w l ⟨v15, rb16, hv19, h18⟩ F => ?_)
 subst vv
 have d21 := Dj.new (inm1 K12) h18.ownR (Nat.le_refl _)
 replace h18 := h18.base hB.size
 replace hB := Below.through l hB
 replace K12 := K12.thru l
 refine o_assign F rfl rfl (fun a F => ?_)
 refine x_end ?_
 refine x_tn ?_
 refine x_seq ?_
 refine x_seq ?_
 refine x_reg ?_
 refine o_assign F rfl rfl (fun a F => ?_)
 refine x_end ?_
 refine x_tn ?_
 obtain ⟨o190, hR, hk191⟩ := thn_some hR
 refine x_cutQ (fun a w => ∃ (s198 : Int), o190 = .nx s198 ∧ Sk a 62 [(2, .pointer (some ⟨b11, 0, none⟩))] ∧ Below w0.heap.size w0 w ∧ I64 s198 ∧ Blk w b11 #[.int .i64 0, .int .i64 0, .int .i64 0, .int .i64 0] 23) ?_ ?_
 ·
  refine x_blk ?_
  obtain ⟨fl194, hf195, hR⟩ := whl_gen hR
  refine x_loop (fun g a w => ∃ (s196 : Int), whl fl194 g s196 = some o190 ∧ Sk a 62 [(2, .pointer (some ⟨b11, 0, none⟩)), (4, v15), (5, .int .i64 s196)] ∧ Below w0.heap.size w0 w ∧ I64 s196 ∧ Row 1 RStr 9 w0.heap.size w v15 z13 rb16 ([]) ∧ Blk w b11 #[.int .i64 0, .int .i64 0, .int .i64 0, .int .i64 0] 23) N ?_ ?_
  ·
   exact ⟨1, hR, F.sub (sc rfl (sc rfl (sc rfl sn))), hB, (show I64 (1) by decide), h18, K12⟩
  intro g203 a w ⟨s196, hR, F, hB, i197, h18, K12⟩
  obtain ⟨ck200, rest201, hg205, hR, hn193⟩ := whl_round hR
  rw [hf195] at hR
  refine x_seq ?_
  refine x_seq ?_
  refine x_reg ?_
  refine o_move F rfl rfl (fun a F => ?_)
  refine o_leq F rfl rfl rfl (fun a F => ?_)
  refine x_end ?_
  refine x_tn ?_
  refine x_if F rfl (fun hb206 => ?_) (fun hb206 => ?_)
  ·
   replace hR := ifT hb206 hR
   refine x_skip ?_
   refine x_tn ?_
   refine x_seq ?_
   refine x_blk ?_
   refine x_seq ?_
   refine x_reg ?_
   refine o_move F rfl rfl (fun a F => ?_)
   obtain ⟨z207, c208, hR⟩ := bnd_some hR
   refine o_gives F rfl Tryd.call14 rfl (spec_l08Words_c z207 c208 _ i197) (fun a vv w l ⟨hv211, i209, i210⟩ F => ?_)
   subst vv
   replace hB := Below.through l hB
   replace h18 := h18.go l
   replace K12 := K12.thru l
   refine o_move F rfl rfl (fun a F => ?_)
   refine o_extract F rfl rfl rfl (fun a F => ?_)
   refine o_extract F rfl rfl rfl (fun a F => ?_)
   refine o_assign F rfl rfl (fun a F => ?_)
   refine o_assign F rfl rfl (fun a F => ?_)
   refine x_end ?_
   refine x_tn ?_
   refine x_seq ?_
   refine x_seq ?_
   obtain ⟨o224, hR, hk225⟩ := thn_some hR
   refine x_cutQ (fun a w => ∃ (s227 : Bool), o224 = .nx s227 ∧ Sk a 62 [(2, .pointer (some ⟨b11, 0, none⟩)), (4, v15), (5, .int .i64 s196), (33, .bool s227)] ∧ Below w0.heap.size w0 w ∧ Row 1 RStr 9 w0.heap.size w v15 z13 rb16 ([]) ∧ Blk w b11 #[.int .i64 0, .int .i64 0, .int .i64 0, .int .i64 0] 23) ?_ ?_
   ·
    refine x_reg ?_
    refine o_move F rfl rfl (fun a F => ?_)
    obtain ⟨z228, c229, hR⟩ := bnd_some hR
    refine o_rindex Tryd.underlying30 Tryd.sizeOf9 F rfl rfl rfl h18 c229 (fun a p230 b231 h232 s233 rp234 F => ?_)
    have i235 := (h232).str
    refine o_loadT Tryd.isAgg9 F rfl rfl h232 (fun a F => ?_)
    refine o_move F rfl rfl (fun a F => ?_)
    refine o_sneq F rfl rfl rfl (fun a F => ?_)
    refine o_move F rfl rfl (fun a F => ?_)
    rcases bcases (!sEq z228 z207.1) with hb236 | hb236
    ·
     replace hR := ifT hb236 hR
     have F := F.eq (t := 27) rfl (congrArg Value.bool hb236)
     refine o_no F rfl rfl (fun a F => ?_)
     refine o_no F rfl rfl (fun a F => ?_)
     refine o_no F rfl rfl (fun a F => ?_)
     refine o_no F rfl rfl (fun a F => ?_)
     refine o_no F rfl rfl (fun a F => ?_)
     refine o_pickt F rfl rfl rfl (fun a F => ?_)
     refine x_end ?_
     refine x_tn ?_
     exact ⟨true, (Option.some.inj hR).symm, F.sub (sc rfl (sc rfl (sc rfl (sc rfl sn)))), hB, h18, K12⟩
    replace hR := ifF hb236 hR
    have F := F.eq (t := 27) rfl (congrArg Value.bool hb236)
    refine o_move F rfl rfl (fun a F => ?_)
    refine o_len Tryd.underlying30 F rfl rfl h18.rd (fun a F => ?_)
    have i237 := (h18.rd).r.len64
    refine o_move F rfl rfl (fun a F => ?_)
    obtain ⟨z238, c239, hR⟩ := bnd_some hR
    refine o_add F rfl rfl rfl c239 (fun a F => ?_)
    refine o_neq F rfl rfl rfl (fun a F => ?_)
    refine o_pickf F rfl rfl rfl (fun a F => ?_)
    refine x_end ?_
    refine x_tn ?_
    exact ⟨((z13.length : Int) != z238), (Option.some.inj hR).symm, F.sub (sc rfl (sc rfl (sc rfl (sc rfl sn)))), hB, h18, K12⟩
   intro a w ⟨s227, ho226, F, hB, h18, K12⟩
   subst ho226
   have hR := then_nx hk225
   refine x_tn ?_
   refine x_if F rfl (fun hb240 => ?_) (fun hb240 => ?_)
   ·
    replace hR := ifT hb240 hR
    refine x_exit ?_
    refine x_te ?_
    refine x_be ?_
    refine x_tn ?_
    refine x_reg ?_
    refine o_move F rfl rfl (fun a F => ?_)
    obtain ⟨z241, c242, hR⟩ := bnd_some hR
    refine o_add F rfl rfl rfl c242 (fun a F => ?_)
    refine o_assign F rfl rfl (fun a F => ?_)
    refine x_end ?_
    refine x_tn ?_
    replace hR := l_go hR hn193
    exact ⟨rest201, (by omega), z241, hR, F.sub (sc rfl (sc rfl (sc rfl sn))), hB, (ck64 c242), h18, K12⟩
   replace hR := ifF hb240 hR
   refine x_skip ?_
   refine x_tn ?_
   refine x_seq ?_
   refine x_reg ?_
   refine o_move F rfl rfl (fun a F => ?_)
   obtain ⟨z243, c244, hR⟩ := bnd_some hR
   refine o_gives F rfl Tryd.call15 rfl (spec_l05Numbers_c z243 c244 _ h18.rd (show I64 (1) by decide)) (fun a vv w l ⟨v245, rb246, hv249, h248⟩ F => ?_)
   subst vv
   have d251 := Dj.new (inm1 K12) h248.ownR (Nat.le_refl _)
   have d252 := Dj.app' (Dj.new h18.memR h248.ownR (Nat.le_refl _)).symm (Dj.nil' _)
   replace h248 := h248.base hB.size
   replace hB := Below.through l hB
   replace K12 := K12.thru l
   refine o_move F rfl rfl (fun a F => ?_)
   refine o_extract F rfl rfl rfl (fun a F => ?_)
   refine o_extract F rfl rfl rfl (fun a F => ?_)
   refine o_assign F rfl rfl (fun a F => ?_)
   refine o_assign F rfl rfl (fun a F => ?_)
   refine x_end ?_
   refine x_tn ?_
   refine x_seq ?_
   obtain ⟨o275, hR, hk276⟩ := thn_some hR
   refine x_cutQ (fun a w => ∃ (s287 : List Int) (v290 : Value) (rb291 : List Nat), o275 = .nx s287 ∧ Sk a 62 [(2, .pointer (some ⟨b11, 0, none⟩)), (5, .int .i64 s196), (8, v290), (9, .bool z243.2)] ∧ Below w0.heap.size w0 w ∧ Row 1 RInt 2 w0.heap.size w v290 s287 rb291 ([]) ∧ Blk w b11 #[.int .i64 0, .int .i64 0, .int .i64 0, .int .i64 0] 23 ∧ Dj (rb291 ++ []) [b11]) ?_ ?_
   ·
    refine x_blk ?_
    obtain ⟨fl279, hf280, hR⟩ := whl_gen hR
    refine x_loop (fun g a w => ∃ (s281 : List Int) (v284 : Value) (rb285 : List Nat), whl fl279 g s281 = some o275 ∧ Sk a 62 [(2, .pointer (some ⟨b11, 0, none⟩)), (5, .int .i64 s196), (8, v284), (9, .bool z243.2)] ∧ Below w0.heap.size w0 w ∧ Row 1 RInt 2 w0.heap.size w v284 s281 rb285 ([]) ∧ Blk w b11 #[.int .i64 0, .int .i64 0, .int .i64 0, .int .i64 0] 23 ∧ Dj (rb285 ++ []) [b11]) N ?_ ?_
    ·
     exact ⟨z243.1, v245, rb246, hR, F.sub (sc rfl (sc rfl (sc rfl (sc rfl sn)))), hB, h248, K12, (Dj.app' (Dj.symm d251) (Dj.nil' _))⟩
    intro g296 a w ⟨s281, v284, rb285, hR, F, hB, h283, K12, d286⟩
    obtain ⟨ck293, rest294, hg298, hR, hn278⟩ := whl_round hR
    rw [hf280] at hR
    refine x_seq ?_
    refine x_seq ?_
    refine x_reg ?_
    refine o_move F rfl rfl (fun a F => ?_)
    refine o_len Tryd.underlying41 F rfl rfl h283.rd (fun a F => ?_)
    have i299 := (h283.rd).r.len64
    refine o_lss F rfl rfl rfl (fun a F => ?_)
    refine x_end ?_
    refine x_tn ?_
    refine x_if F rfl (fun hb300 => ?_) (fun hb300 => ?_)
    ·
     replace hR := ifT hb300 hR
     refine x_skip ?_
     refine x_tn ?_
     refine x_blk ?_
     refine x_reg ?_
     refine o_move F rfl rfl (fun a F => ?_)
     refine o_lit1 (R := RInt) (y := 0) Tryd.underlying41 Tryd.sizeOf2 Tryd.zeroValue2 rfl (by decide) (by decide) F rfl rfl (El.int (show I64 (0) by decide)) (fun a w v301 rb302 h303 l F => ?_)
     have d305 := Dj.new h283.rd.m h303.ownR (Nat.le_refl _)
     have d306 := Dj.new (inm1 K12) h303.ownR (Nat.le_refl _)
     have d307 := Dj.app' (Dj.new h283.memR h303.ownR (Nat.le_refl _)).symm (Dj.nil' _)
     replace h303 := h303.base hB.size
     replace hB := Below.through l hB
     replace h283 := h283.go l
     replace K12 := K12.thru l
     obtain ⟨z308, c309, hR⟩ := bnd_some hR
     refine o_append (sz := 1) (R := RInt) (z := (.int .i64 0)) (bytes := 8) Tryd.underlying41 (by kernel_rfl) rfl (by decide) (by decide) (by decide) F rfl rfl rfl h283 h303.src hB.size (Dj.nil _) c309 (fun a w v310 rb311 h312 l keep F => ?_)
     replace h312 := row_nil2 h312
     have d314 := keep _ (inm1 K12) (Dj.symm (Dj.l d286))
     replace hB := hB.o l h283.lo hB.size
     replace K12 := K12.only l (Dj.symm (Dj.l d286)).not
     refine o_assign F rfl rfl (fun a F => ?_)
     refine x_end ?_
     refine x_bn ?_
     refine x_tn ?_
     replace hR := l_go hR hn278
     exact ⟨rest294, (by omega), z308, v310, rb311, hR, F.sub (sc rfl (sc rfl (sc rfl (sc rfl sn)))), hB, h312, K12, (Dj.app' (Dj.symm d314) (Dj.nil' _))⟩
    replace hR := ifF hb300 hR
    refine x_exit ?_
    refine x_te ?_
    refine x_te ?_
    replace hR := l_brk hR hn278
    refine x_be ?_
    refine x_tn ?_
    exact ⟨s281, v284, rb285, (Option.some.inj hR).symm, F.sub (sc rfl (sc rfl (sc rfl (sc rfl sn)))), hB, h283, K12, d286⟩
   intro a w ⟨s287, v290, rb291, ho277, F, hB, h289, K12, d292⟩
   subst ho277
   have hR := then_nx hk276
   refine x_tn ?_
   refine x_seq ?_
   refine x_drawn (by kernel_rfl) (fun w l => ?_)
   replace hB := Below.through l hB
   replace h289 := h289.go l
   replace K12 := K12.thru l
   refine b_q0 0 rfl (by kernel_rfl) (by kernel_rfl) (by kernel_rfl) ?_
   refine v_val F rfl (fun w l => r_move F rfl) (fun a F => ?_)
   refine b_q0 1 rfl (by kernel_rfl) (by kernel_rfl) (by kernel_rfl) ?_
   refine v_val F rfl (fun w l => r_move F rfl) (fun a F => ?_)
   refine b_q 2 (by kernel_rfl) rfl (by kernel_rfl) (by kernel_rfl) (by kernel_rfl) (by kernel_rfl) ?_
   obtain ⟨z315, c316, hR⟩ := bnd_some hR
   refine v_index Tryd.underlying41 Tryd.sizeOf2 F rfl rfl rfl h289.rd c316 (fun a p317 b318 h319 s320 F => ?_)
   refine b_q 3 (by kernel_rfl) rfl (by kernel_rfl) (by kernel_rfl) (by kernel_rfl) (by kernel_rfl) ?_
   have i321 := (h319).i64
   refine v_val F rfl (fun w l => r_loadI Tryd.isAgg2 F rfl ((h319).go l)) (fun a F => ?_)
   refine b_q0 4 rfl (by kernel_rfl) (by kernel_rfl) (by kernel_rfl) ?_
   refine v_val F rfl (fun w l => r_move F rfl) (fun a F => ?_)
   refine b_q 5 (by kernel_rfl) rfl (by kernel_rfl) (by kernel_rfl) (by kernel_rfl) (by kernel_rfl) ?_
   obtain ⟨z322, c323, hR⟩ := bnd_some hR
   refine v_index Tryd.underlying41 Tryd.sizeOf2 F rfl rfl rfl h289.rd c323 (fun a p324 b325 h326 s327 F => ?_)
   refine b_q 6 (by kernel_rfl) rfl (by kernel_rfl) (by kernel_rfl) (by kernel_rfl) (by kernel_rfl) ?_
   have i328 := (h326).i64
   refine v_val F rfl (fun w l => r_loadI Tryd.isAgg2 F rfl ((h326).go l)) (fun a F => ?_)
   refine b_q0 7 rfl (by kernel_rfl) (by kernel_rfl) (by kernel_rfl) ?_
   refine v_val F rfl (fun w l => r_move F rfl) (fun a F => ?_)
   refine b_q 8 (by kernel_rfl) rfl (by kernel_rfl) (by kernel_rfl) (by kernel_rfl) (by kernel_rfl) ?_
   obtain ⟨z329, c330, hR⟩ := bnd_some hR
   refine v_index Tryd.underlying41 Tryd.sizeOf2 F rfl rfl rfl h289.rd c330 (fun a p331 b332 h333 s334 F => ?_)
   refine b_q 9 (by kernel_rfl) rfl (by kernel_rfl) (by kernel_rfl) (by kernel_rfl) (by kernel_rfl) ?_
   have i335 := (h333).i64
   refine v_val F rfl (fun w l => r_loadI Tryd.isAgg2 F rfl ((h333).go l)) (fun a F => ?_)
   refine b_q 10 (by kernel_rfl) rfl (by kernel_rfl) (by kernel_rfl) (by kernel_rfl) (by kernel_rfl) ?_
   refine v_val F rfl (fun w l => r_build Tryd.underlying23 Tryd.zeroValue23 (fun w => by simp [Tryd.sizeOf2]; rfl) F rfl rfl rfl rfl (oc rfl (oc rfl (oc rfl (oc rfl on)))) rfl rfl) (fun a F => ?_)
   have h336 := RLine.mk2 (w := w) i197 i321 i328 i335
   refine b_e 11 rfl (by kernel_rfl) ?_
   refine o_alloc Tryd.zeroValue23 F rfl rfl (fun a w b337 K338 l BK338 F => ?_)
   have d339 := dj1 h289.memR BK338
   have nb340 := Dj.bb K12 BK338
   have d341 := (dj1 h319.m BK338).symm
   have d342 := (dj1 h326.m BK338).symm
   have d343 := (dj1 h333.m BK338).symm
   have d344 := (dj1 h336.m BK338).symm
   have d345 := (dj1 h289.rd.m BK338).symm
   have CK338 := Nat.le_trans hB.size BK338
   replace hB := Below.through l hB
   replace h336 := h336.go l
   replace K12 := K12.thru l
   refine x_end ?_
   refine x_tn ?_
   refine ⟨.inl l, ?_⟩
   refine b_e 12 rfl (by kernel_rfl) ?_
   refine o_bstoreA (vs := [.int .i64 s196, .int .i64 z315, .int .i64 z322, .int .i64 z329]) Tryd.sizeOf23 F rfl rfl rfl K338 (oc rfl (oc rfl (oc rfl (oc rfl on)))) (Nat.le_of_ble_eq_true rfl) rfl (fun w K338 l => ?_)
   replace hB := hB.o l (fun c hc => by rw [List.mem_singleton] at hc; rw [hc]; exact CK338) hB.size
   replace K12 := K12.only l (by simpa using nb340)
   refine x_end ?_
   refine x_tn ?_
   refine ⟨.inr (by kernel_rfl), ?_⟩
   refine b_end (by kernel_rfl) ?_
   refine x_tn ?_
   refine x_seq ?_
   obtain ⟨o353, hR, hk354⟩ := thn_some hR
   refine x_cutQ (fun a w => ∃ (s356 : Bool) (s357 : Int) (s359 : Int) (s361 : Int) (s363 : Int), o353 = .nx (s356, s357, s359, s361, s363) ∧ Sk a 62 [(2, .pointer (some ⟨b11, 0, none⟩)), (3, .bool s356)] ∧ Below w0.heap.size w0 w ∧ I64 s357 ∧ I64 s359 ∧ I64 s361 ∧ I64 s363 ∧ Blk w b11 #[.int .i64 s357, .int .i64 s359, .int .i64 s361, .int .i64 s363] 23) ?_ ?_
   ·
    rcases bcases z243.2 with hb365 | hb365
    ·
     replace hR := ifT hb365 hR
     have F := F.eq (t := 9) rfl (congrArg Value.bool hb365)
     refine x_drawnO ([b11]) (by kernel_rfl) (fun w l => ?_)
     replace hB := Below.through l hB
     replace K12 := K12.thru l
     replace K338 := K338.thru l
     have dO366 : Dj [b337] ([b11]) := (Dj.one (Ne.symm nb340))
     refine b_q 0 (by kernel_rfl) rfl (by kernel_rfl) (by kernel_rfl) (by kernel_rfl) (by kernel_rfl) ?_
     refine v_val F rfl (fun w l => r_bloadA (cs := [.int .i64 s196, .int .i64 z315, .int .i64 z322, .int .i64 z329]) Tryd.isAgg23 Tryd.sizeOf23 F rfl (K338.only l (Dj.not dO366)) rfl (fun j hj => by match j, hj with | 0, _ => rfl | 1, _ => rfl | 2, _ => rfl | 3, _ => rfl)) (fun a F => ?_)
     have h367 := RLine.mk2 (w := w) i197 i321 i328 i335
     refine b_q0 1 rfl (by kernel_rfl) (by kernel_rfl) (by kernel_rfl) ?_
     refine v_val F rfl (fun w l => r_move F rfl) (fun a F => ?_)
     refine b_q0 2 rfl (by kernel_rfl) (by kernel_rfl) (by kernel_rfl) ?_
     refine v_val F rfl (fun w l => r_move F rfl) (fun a F => ?_)
     refine b_e 3 rfl (by kernel_rfl) ?_
     obtain ⟨z368, c369, hR⟩ := bnd_some hR
     refine o_says F rfl Tryd.call16 rfl (spec_l08Line_c z368 c369 _ (RLine.blk K338 i197 i321 i328 i335)) (fun a w l F => ?_)
     replace hB := Below.through l hB
     replace h367 := h367.go l
     replace K12 := K12.thru l
     refine x_end ?_
     refine x_tn ?_
     refine ⟨.inl (Only.of_below l), ?_⟩
     refine b_q 4 (by kernel_rfl) rfl (by kernel_rfl) (by kernel_rfl) (by kernel_rfl) (by kernel_rfl) ?_
     refine v_val F rfl (fun w l => r_pickt F rfl rfl) (fun a F => ?_)
     refine b_e 5 rfl (by kernel_rfl) ?_
     refine o_bstoreA (vs := [.int .i64 s196, .int .i64 z315, .int .i64 z322, .int .i64 z329]) Tryd.sizeOf23 F rfl rfl rfl K12 (oc rfl (oc rfl (oc rfl (oc rfl on)))) (Nat.le_of_ble_eq_true rfl) rfl (fun w K12 l => ?_)
     replace hB := hB.o l (fun c hc => by rw [List.mem_singleton] at hc; rw [hc]; exact CK12) hB.size
     refine x_end ?_
     refine x_tn ?_
     refine ⟨.inl (Only.mono l (fun c hc => hc)), ?_⟩
     refine b_q0 6 rfl (by kernel_rfl) (by kernel_rfl) (by kernel_rfl) ?_
     refine v_val F rfl (fun w l => r_assign F rfl) (fun a F => ?_)
     refine b_end (by kernel_rfl) ?_
     refine x_tn ?_
     exact ⟨z368, s196, z315, z322, z329, (Option.some.inj hR).symm, F.sub (sc rfl (sc rfl sn)), hB, i197, i321, i328, i335, K12⟩
    replace hR := ifF hb365 hR
    have F := F.eq (t := 9) rfl (congrArg Value.bool hb365)
    refine x_drawnO ([b11]) (by kernel_rfl) (fun w l => ?_)
    replace hB := Below.through l hB
    replace K12 := K12.thru l
    replace K338 := K338.thru l
    have dO370 : Dj [b337] ([b11]) := (Dj.one (Ne.symm nb340))
    refine b_q 0 (by kernel_rfl) rfl (by kernel_rfl) (by kernel_rfl) (by kernel_rfl) (by kernel_rfl) ?_
    refine v_val F rfl (fun w l => r_bloadA (cs := [.int .i64 s196, .int .i64 z315, .int .i64 z322, .int .i64 z329]) Tryd.isAgg23 Tryd.sizeOf23 F rfl (K338.only l (Dj.not dO370)) rfl (fun j hj => by match j, hj with | 0, _ => rfl | 1, _ => rfl | 2, _ => rfl | 3, _ => rfl)) (fun a F => ?_)
    have h371 := RLine.mk2 (w := w) i197 i321 i328 i335
    refine b_q0 1 rfl (by kernel_rfl) (by kernel_rfl) (by kernel_rfl) ?_
    refine v_val F rfl (fun w l => r_move F rfl) (fun a F => ?_)
    refine b_q0 2 rfl (by kernel_rfl) (by kernel_rfl) (by kernel_rfl) ?_
    refine v_val F rfl (fun w l => r_move F rfl) (fun a F => ?_)
    refine b_q 3 (by kernel_rfl) rfl (by kernel_rfl) (by kernel_rfl) (by kernel_rfl) (by kernel_rfl) ?_
    refine v_no F rfl rfl (fun a F => ?_)
    refine b_q 4 (by kernel_rfl) rfl (by kernel_rfl) (by kernel_rfl) (by kernel_rfl) (by kernel_rfl) ?_
    refine v_val F rfl (fun w l => r_pickf F rfl rfl) (fun a F => ?_)
    refine b_e 5 rfl (by kernel_rfl) ?_
    refine o_bstoreA (vs := [.int .i64 s196, .int .i64 z315, .int .i64 z322, .int .i64 z329]) Tryd.sizeOf23 F rfl rfl rfl K12 (oc rfl (oc rfl (oc rfl (oc rfl on)))) (Nat.le_of_ble_eq_true rfl) rfl (fun w K12 l => ?_)
    replace hB := hB.o l (fun c hc => by rw [List.mem_singleton] at hc; rw [hc]; exact CK12) hB.size
    refine x_end ?_
    refine x_tn ?_
    refine ⟨.inl (Only.mono l (fun c hc => hc)), ?_⟩
    refine b_q0 6 rfl (by kernel_rfl) (by kernel_rfl) (by kernel_rfl) ?_
    refine v_val F rfl (fun w l => r_assign F rfl) (fun a F => ?_)
    refine b_end (by kernel_rfl) ?_
    refine x_tn ?_
    exact ⟨false, s196, z315, z322, z329, (Option.some.inj hR).symm, F.sub (sc rfl (sc rfl sn)), hB, i197, i321, i328, i335, K12⟩
   intro a w ⟨s356, s357, s359, s361, s363, ho355, F, hB, i358, i360, i362, i364, K12⟩
   subst ho355
   have hR := then_nx hk354
   refine x_tn ?_
   refine x_ret ?_
   refine x_br ?_
   refine x_tr ?_
   refine x_tr ?_
   replace hR := l_ret hR hn193
   refine x_br ?_
   refine x_tr ?_
   replace hR := j_ret hR hk191
   refine x_tr ?_
   refine x_res2 F rfl (rv_cA (arr := #[.int .i64 s357, .int .i64 s359, .int .i64 s361, .int .i64 s363]) F Tryd.isAgg23 Tryd.sizeOf23 rfl K12) (rv_t F rfl) ?_
   obtain rfl := Option.some.inj hR
   exact ⟨_, rfl, hB, rfl, i358, i360, i362, i364⟩
  replace hR := ifF hb206 hR
  refine x_exit ?_
  refine x_te ?_
  refine x_te ?_
  replace hR := l_brk hR hn193
  refine x_be ?_
  refine x_tn ?_
  exact ⟨s196, (Option.some.inj hR).symm, F.sub (sc rfl sn), hB, i197, K12⟩
 intro a w ⟨s198, ho192, F, hB, i199, K12⟩
 subst ho192
 have hR := then_nx hk191
 refine x_tn ?_
 refine x_seq ?_
 refine x_reg ?_
 refine o_build Tryd.underlying23 Tryd.zeroValue23 (fun w => by simp [Tryd.sizeOf2]; rfl) F rfl rfl rfl rfl rfl on rfl rfl (fun a F => ?_)
 have h372 := RLine.mk2 (w := w) (show I64 0 by decide) (show I64 0 by decide) (show I64 0 by decide) (show I64 0 by decide)
 refine o_bstoreA (vs := [.int .i64 0, .int .i64 0, .int .i64 0, .int .i64 0]) Tryd.sizeOf23 F rfl rfl rfl K12 (oc rfl (oc rfl (oc rfl (oc rfl on)))) (Nat.le_of_ble_eq_true rfl) rfl (fun w K12 l => ?_)
 replace hB := hB.o l (fun c hc => by rw [List.mem_singleton] at hc; rw [hc]; exact CK12) hB.size
 refine o_assign F rfl rfl (fun a F => ?_)
 refine x_end ?_
 refine x_tn ?_
 refine x_ret ?_
 refine x_res2 F rfl (rv_cA (arr := #[.int .i64 0, .int .i64 0, .int .i64 0, .int .i64 0]) F Tryd.isAgg23 Tryd.sizeOf23 rfl K12) (rv_t F rfl) ?_
 obtain rfl := Option.some.inj hR
 exact ⟨_, rfl, hB, rfl, (show I64 0 by decide), (show I64 0 by decide), (show I64 0 by decide), (show I64 0 by decide)⟩

def spec_ReadLine (N : Nat) (x0 : ByteArray) : Option (Line × Int) :=
 bnd (spec_l08Read N x0) fun z13 =>
 if (!z13.2) then
  some ((Line.mk 0 0 0 0), 5)
 else
  some ((Line.mk z13.1.kind z13.1.var z13.1.value z13.1.con), 0)
set_option maxHeartbeats 1000000 in
theorem spec_ReadLine_c {N : Nat} {x0 : ByteArray} (r : Line × Int) (hR : spec_ReadLine N x0 = some r)  (w0 : World) (hx0 : x0.size ≤ maxLen) : Calls Tryd.prog 4 #[.string x0] w0 (Gives (fun v w' => v = .tuple #[.agg #[.int .i64 r.1.kind, .int .i64 r.1.var, .int .i64 r.1.value, .int .i64 r.1.con], .int .i64 r.2] ∧ I64 r.1.kind ∧ I64 r.1.var ∧ I64 r.1.value ∧ I64 r.1.con ∧ I64 r.2) w0) := by
 unfold spec_ReadLine at hR
 refine x_enter (L := [(0, .string x0)]) Tryd.func4 rfl rfl rfl (sc rfl sn) (fun a F => ?_)
 have hB := Below.refl w0.heap.size w0
 refine x_seq ?_
 refine x_reg ?_
 refine o_alloc Tryd.zeroValue23 F rfl rfl (fun a w b11 K12 l BK12 F => ?_)
 have CK12 := Nat.le_trans hB.size BK12
 replace hB := Below.through l hB
 refine o_assign F rfl rfl (fun a F => ?_)
 refine x_end ?_
 refine x_tn ?_
 refine x_seq ?_
 refine x_reg ?_
 refine o_move F rfl rfl (fun a F => ?_)
 obtain ⟨z13, c14, hR⟩ := bnd_some hR
 refine o_gives F rfl Tryd.call7 rfl (spec_l08Read_c z13 c14 _ hx0) (fun a vv w l ⟨hv19, i15, i16, i17, i18⟩ F => ?_)
 subst vv
 replace hB := Below.through l hB
 replace K12 := K12.thru l
 have h20 := RLine.mk2 (w := w) i15 i16 i17 i18
 refine o_move F rfl rfl (fun a F => ?_)
 refine o_extract F rfl rfl rfl (fun a F => ?_)
 refine o_extract F rfl rfl rfl (fun a F => ?_)
 refine o_alloc Tryd.zeroValue23 F rfl rfl (fun a w b21 K22 l BK22 F => ?_)
 have nb23 := Dj.bb K12 BK22
 have d24 := (dj1 h20.m BK22).symm
 have CK22 := Nat.le_trans hB.size BK22
 replace hB := Below.through l hB
 replace h20 := h20.go l
 replace K12 := K12.thru l
 refine o_bstoreA (vs := [.int .i64 z13.1.kind, .int .i64 z13.1.var, .int .i64 z13.1.value, .int .i64 z13.1.con]) Tryd.sizeOf23 F rfl rfl rfl K22 (oc rfl (oc rfl (oc rfl (oc rfl on)))) (Nat.le_of_ble_eq_true rfl) rfl (fun w K22 l => ?_)
 replace hB := hB.o l (fun c hc => by rw [List.mem_singleton] at hc; rw [hc]; exact CK22) hB.size
 replace K12 := K12.only l (by simpa using nb23)
 refine o_assign F rfl rfl (fun a F => ?_)
 refine x_end ?_
 refine x_tn ?_
 refine x_seq ?_
 refine x_seq ?_
 refine x_reg ?_
 refine o_move F rfl rfl (fun a F => ?_)
 refine o_not F rfl rfl (fun a F => ?_)
 refine x_end ?_
 refine x_tn ?_
 refine x_if F rfl (fun hb25 => ?_) (fun hb25 => ?_)
 ·
  replace hR := ifT hb25 hR
  refine x_seq ?_
  refine x_reg ?_
  refine o_build Tryd.underlying23 Tryd.zeroValue23 (fun w => by simp [Tryd.sizeOf2]; rfl) F rfl rfl rfl rfl rfl on rfl rfl (fun a F => ?_)
  have h26 := RLine.mk2 (w := w) (show I64 0 by decide) (show I64 0 by decide) (show I64 0 by decide) (show I64 0 by decide)
  refine o_bstoreA (vs := [.int .i64 0, .int .i64 0, .int .i64 0, .int .i64 0]) Tryd.sizeOf23 F rfl rfl rfl K12 (oc rfl (oc rfl (oc rfl (oc rfl on)))) (Nat.le_of_ble_eq_true rfl) rfl (fun w K12 l => ?_)
  replace hB := hB.o l (fun c hc => by rw [List.mem_singleton] at hc; rw [hc]; exact CK12) hB.size
  refine o_assign F rfl rfl (fun a F => ?_)
  refine x_end ?_
  refine x_tn ?_
  refine x_ret ?_
  refine x_tr ?_
  refine x_res2 F rfl (rv_cA (arr := #[.int .i64 0, .int .i64 0, .int .i64 0, .int .i64 0]) F Tryd.isAgg23 Tryd.sizeOf23 rfl K12) (rv_t F rfl) ?_
  obtain rfl := Option.some.inj hR
  exact ⟨_, rfl, hB, rfl, (show I64 0 by decide), (show I64 0 by decide), (show I64 0 by decide), (show I64 0 by decide), (show I64 (5) by decide)⟩
 replace hR := ifF hb25 hR
 refine x_skip ?_
 refine x_tn ?_
 refine x_seq ?_
 refine x_reg ?_
 refine o_bloadA (cs := [.int .i64 z13.1.kind, .int .i64 z13.1.var, .int .i64 z13.1.value, .int .i64 z13.1.con]) Tryd.isAgg23 Tryd.sizeOf23 F rfl rfl K22 rfl (fun j hj => by match j, hj with | 0, _ => rfl | 1, _ => rfl | 2, _ => rfl | 3, _ => rfl) (fun a F => ?_)
 have h27 := RLine.mk2 (w := w) i15 i16 i17 i18
 refine o_bstoreA (vs := [.int .i64 z13.1.kind, .int .i64 z13.1.var, .int .i64 z13.1.value, .int .i64 z13.1.con]) Tryd.sizeOf23 F rfl rfl rfl K12 (oc rfl (oc rfl (oc rfl (oc rfl on)))) (Nat.le_of_ble_eq_true rfl) rfl (fun w K12 l => ?_)
 replace hB := hB.o l (fun c hc => by rw [List.mem_singleton] at hc; rw [hc]; exact CK12) hB.size
 refine o_assign F rfl rfl (fun a F => ?_)
 refine x_end ?_
 refine x_tn ?_
 refine x_ret ?_
 refine x_res2 F rfl (rv_cA (arr := #[.int .i64 z13.1.kind, .int .i64 z13.1.var, .int .i64 z13.1.value, .int .i64 z13.1.con]) F Tryd.isAgg23 Tryd.sizeOf23 rfl K12) (rv_t F rfl) ?_
 obtain rfl := Option.some.inj hR
 exact ⟨_, rfl, hB, rfl, i15, i16, i17, i18, (show I64 (0) by decide)⟩

def impl_ReadLine (x0 : ByteArray) : Option (Line × Int) :=
 bnd (strings_Split x0 (bstr [32])) fun z13 =>
 bnd (ix z13 0) fun z22 =>
 bnd (impl_lineWords) fun z29 =>
 bnd (slices_Index_s_string_string z29 z22) fun z40 =>
 bnd (ck (z40 + 1)) fun z42 =>
 thn (σ := Int) (
  if (decide (1 < (z13.length : Int))) then
   bnd (ix z13 1) fun z166 =>
   bnd (impl_readNumber z166) fun z174 =>
   some (.nx z174)
  else
   some (.nx 0)) fun s162 =>
 thn (σ := Int) (
  if (decide (2 < (z13.length : Int))) then
   bnd (ix z13 2) fun z195 =>
   bnd (impl_readNumber z195) fun z203 =>
   some (.nx z203)
  else
   some (.nx 0)) fun s191 =>
 thn (σ := Int) (
  if (decide (3 < (z13.length : Int))) then
   bnd (ix z13 3) fun z224 =>
   bnd (impl_readNumber z224) fun z232 =>
   some (.nx z232)
  else
   some (.nx 0)) fun s220 =>
 bnd (impl_LineText (Line.mk z42 s162 s191 s220)) fun z235 =>
 thn (σ := Bool) (
  if (sEq z235 (bstr [])) then  some (.nx true) else  some (.nx (!sEq z235 x0))) fun s243 =>
 if s243 then
  some ((Line.mk 0 0 0 0), 5)
 else
  some ((Line.mk z42 s162 s191 s220), 0)
set_option maxHeartbeats 1000000 in
theorem impl_ReadLine_c {x0 : ByteArray} (r : Line × Int) (hR : impl_ReadLine x0 = some r)  (w0 : World) (hG : GloE w0) (hx0 : x0.size ≤ maxLen) : Calls Tryd.prog 5 #[.string x0] w0 (Gives (fun v w' => v = .tuple #[.agg #[.int .i64 r.1.kind, .int .i64 r.1.var, .int .i64 r.1.value, .int .i64 r.1.con], .int .i64 r.2] ∧ I64 r.1.kind ∧ I64 r.1.var ∧ I64 r.1.value ∧ I64 r.1.con ∧ I64 r.2) w0) := by
 unfold impl_ReadLine at hR
 refine x_enter (L := [(0, .string x0)]) Tryd.func5 rfl rfl rfl (sc rfl sn) (fun a F => ?_)
 have hB := Below.refl w0.heap.size w0
 refine x_seq ?_
 refine x_reg ?_
 refine o_alloc Tryd.zeroValue23 F rfl rfl (fun a w b11 K12 l BK12 F => ?_)
 have CK12 := Nat.le_trans hB.size BK12
 replace hB := Below.through l hB
 refine o_assign F rfl rfl (fun a F => ?_)
 refine x_end ?_
 refine x_tn ?_
 refine x_seq ?_
 refine x_reg ?_
 refine o_move F rfl rfl (fun a F => ?_)
 obtain ⟨z13, c14, hR⟩ := bnd_some hR
 refine o_gives F rfl Tryd.call8 rfl (strings_Split_c z13 c14 _ (hG.go hB).toGlo hx0 (by decide)) (fun a vv w l ⟨v15, rb16, hv19, h18⟩ F => ?_)
 subst vv
 have d21 := Dj.new (inm1 K12) h18.ownR (Nat.le_refl _)
 replace h18 := h18.base hB.size
 replace hB := Below.through l hB
 replace K12 := K12.thru l
 refine o_assign F rfl rfl (fun a F => ?_)
 refine x_end ?_
 refine x_tn ?_
 refine x_seq ?_
 obtain ⟨z22, c23, hR⟩ := bnd_some hR
 obtain ⟨z29, c30, hR⟩ := bnd_some hR
 obtain ⟨z40, c41, hR⟩ := bnd_some hR
 obtain ⟨z42, c43, hR⟩ := bnd_some hR
 refine x_drawn (by kernel_rfl) (fun w l => ?_)
 replace hB := Below.through l hB
 replace h18 := h18.go l
 replace K12 := K12.thru l
 refine dp (fun G => ∀ (b123 : Nat) (a : Act) (w : World), Sk a 53 [(0, .string x0), (2, .pointer (some ⟨b11, 0, none⟩)), (4, v15), (5, .pointer (some ⟨b123, 0, none⟩)), (17, (.agg #[.int .i64 z42, .int .i64 0, .int .i64 0, .int .i64 0]))] → Below w0.heap.size w0 w → Row 1 RStr 9 w0.heap.size w v15 z13 rb16 ([]) → I64 0 → I64 0 → I64 0 → I64 0 → w0.heap.size ≤ b123 → I64 0 → I64 0 → I64 0 → I64 0 → I64 z42 → I64 0 → I64 0 → I64 0 → Blk w b11 #[.int .i64 0, .int .i64 0, .int .i64 0, .int .i64 0] 23 → Blk w b123 #[.int .i64 0, .int .i64 0, .int .i64 0, .int .i64 0] 23 → Dj [b123] rb16 → Dj (rb16 ++ []) ([b123]) → b11 ≠ b123 → ∀ ls, ls = #[true, true, true, true, true, true, true, true, false] → G 1 ls a w) ?_ (fun H137 => ?_)
 ·
  intro b123 a w F hB h18 i119 i120 i121 i122 CK124 i125 i126 i127 i128 i129 i130 i131 i132 K12 K124 d133 d134 nb135 ls hls
  subst hls
  have h136 := RLine.mk2 (w := w) i129 i130 i131 i132
  refine b_e 8 rfl (by kernel_rfl) ?_
  refine o_bstoreA (vs := [.int .i64 z42, .int .i64 0, .int .i64 0, .int .i64 0]) Tryd.sizeOf23 F rfl rfl rfl K124 (oc rfl (oc rfl (oc rfl (oc rfl on)))) (Nat.le_of_ble_eq_true rfl) rfl (fun w K124 l => ?_)
  replace hB := hB.o l (fun c hc => by rw [List.mem_singleton] at hc; rw [hc]; exact CK124) hB.size
  replace h18 := h18.goO l d134
  replace K12 := K12.only l (by simpa using nb135)
  refine x_end ?_
  refine x_tn ?_
  refine ⟨.inr (by kernel_rfl), ?_⟩
  refine b_end (by kernel_rfl) ?_
  refine x_tn ?_
  refine x_seq ?_
  refine x_seq ?_
  refine x_reg ?_
  refine o_bfield fa23_1 F rfl rfl rfl (fun a F => ?_)
  refine o_bfield fa23_2 F rfl rfl rfl (fun a F => ?_)
  refine o_bfield fa23_3 F rfl rfl rfl (fun a F => ?_)
  refine o_litB (xs := [.tmp 18, .tmp 19, .tmp 20]) (l := [.pointer (some ⟨b123, 1, none⟩), .pointer (some ⟨b123, 2, none⟩), .pointer (some ⟨b123, 3, none⟩)]) Tryd.underlying35 Tryd.sizeOf34 Tryd.zeroValue34 rfl F rfl rfl rfl (by simp) (by simp) rfl (by simp only [List.forall_mem_cons, List.not_mem_nil, false_implies, implies_true, and_true]; exact ⟨rfl, rfl, rfl⟩) (fun a w b141 K142 l BK142 F => ?_)
  have d143 := dj1 h18.memR BK142
  have nb144 := Dj.bb K12 BK142
  have nb145 := Dj.bb K124 BK142
  have d146 := (dj1 h18.rd.m BK142).symm
  have CK142 := Nat.le_trans hB.size BK142
  replace hB := Below.through l hB
  replace h18 := h18.go l
  replace K12 := K12.thru l
  replace K124 := K124.thru l
  refine o_lenB Tryd.underlying35 F rfl rfl (fun a F => ?_)
  refine o_move F rfl rfl (fun a F => ?_)
  refine x_end ?_
  refine x_tn ?_
  refine x_blk ?_
  refine x_rounds 4 ?_
  refine x_rd ?_
  refine x_seq ?_
  refine x_reg ?_
  refine o_lss F rfl rfl rfl (fun a F => ?_)
  replace F := F.cast (show Value.bool (decide ((0 : Int) < 3)) = .bool true from rfl)
  refine x_end ?_
  refine x_tn ?_
  refine x_seq ?_
  refine x_ift F rfl ?_
  refine x_skip ?_
  refine x_tn ?_
  refine x_seq ?_
  obtain ⟨o159, hR, hk160⟩ := thn_some hR
  refine x_cutQ (fun a w => ∃ (s162 : Int), o159 = .nx s162 ∧ Sk a 53 [(0, .string x0), (2, .pointer (some ⟨b11, 0, none⟩)), (4, v15), (5, .pointer (some ⟨b123, 0, none⟩)), (21, .slice (some ⟨b141, 0, none⟩) 3 3), (22, .int .i64 3), (23, .int .i64 0)] ∧ Below w0.heap.size w0 w ∧ I64 s162 ∧ Row 1 RStr 9 w0.heap.size w v15 z13 rb16 ([]) ∧ Blk w b11 #[.int .i64 0, .int .i64 0, .int .i64 0, .int .i64 0] 23 ∧ Blk w b123 #[.int .i64 z42, .int .i64 s162, .int .i64 0, .int .i64 0] 23 ∧ Blk w b141 #[.pointer (some ⟨b123, 1, none⟩), .pointer (some ⟨b123, 2, none⟩), .pointer (some ⟨b123, 3, none⟩)] 34) ?_ ?_
  ·
   refine x_blk ?_
   refine x_seq ?_
   refine x_reg ?_
   refine o_move F rfl rfl (fun a F => ?_)
   refine o_bidx (i := 0) Tryd.underlying35 Tryd.sizeOf34 F rfl rfl rfl (by decide) (fun a F => ?_)
   refine o_bload Tryd.isAgg34 F rfl rfl K142 rfl (fun a F => ?_)
   refine o_assign F rfl rfl (fun a F => ?_)
   refine o_assign F rfl rfl (fun a F => ?_)
   refine x_end ?_
   refine x_tn ?_
   refine x_seq ?_
   refine x_reg ?_
   refine o_move F rfl rfl (fun a F => ?_)
   refine o_add F rfl rfl rfl (show ck ((0 : Int) + 1) = some 1 from rfl) (fun a F => ?_)
   refine o_move F rfl rfl (fun a F => ?_)
   refine o_len Tryd.underlying30 F rfl rfl h18.rd (fun a F => ?_)
   have i164 := (h18.rd).r.len64
   refine o_lss F rfl rfl rfl (fun a F => ?_)
   refine x_end ?_
   refine x_tn ?_
   refine x_if F rfl (fun hb165 => ?_) (fun hb165 => ?_)
   ·
    replace hR := ifT hb165 hR
    refine x_reg ?_
    refine o_move F rfl rfl (fun a F => ?_)
    refine o_move F rfl rfl (fun a F => ?_)
    refine o_move F rfl rfl (fun a F => ?_)
    refine o_add F rfl rfl rfl (show ck ((0 : Int) + 1) = some 1 from rfl) (fun a F => ?_)
    obtain ⟨z166, c167, hR⟩ := bnd_some hR
    refine o_rindex Tryd.underlying30 Tryd.sizeOf9 F rfl rfl rfl h18 c167 (fun a p168 b169 h170 s171 rp172 F => ?_)
    have i173 := (h170).str
    refine o_loadT Tryd.isAgg9 F rfl rfl h170 (fun a F => ?_)
    obtain ⟨z174, c175, hR⟩ := bnd_some hR
    refine o_saysI F rfl Tryd.call11 rfl (impl_readNumber_c z174 c175 _ (hG.go hB) i173) (fun a w l iz174 F => ?_)
    replace hB := Below.through l hB
    replace h18 := h18.go l
    replace K12 := K12.thru l
    replace K124 := K124.thru l
    replace K142 := K142.thru l
    refine o_nilCheck F rfl rfl (fun a F => ?_)
    refine o_bstore Tryd.sizeOf2 F rfl rfl rfl K124 rfl (by first | simp | decide) rfl (fun w K124 l => ?_)
    replace hB := hB.o l (fun c hc => by rw [List.mem_singleton] at hc; rw [hc]; exact CK124) hB.size
    replace h18 := h18.goO l d134
    replace K12 := K12.only l (by simpa using nb135)
    replace K142 := K142.only l (by simpa using nb145.symm)
    refine x_end ?_
    refine x_bn ?_
    refine x_tn ?_
    exact ⟨z174, (Option.some.inj hR).symm, F.sub (sc rfl (sc rfl (sc rfl (sc rfl (sc rfl (sc rfl (sc rfl sn))))))), hB, iz174, h18, K12, K124, K142⟩
   replace hR := ifF hb165 hR
   refine x_skip ?_
   refine x_bn ?_
   refine x_tn ?_
   exact ⟨0, (Option.some.inj hR).symm, F.sub (sc rfl (sc rfl (sc rfl (sc rfl (sc rfl (sc rfl (sc rfl sn))))))), hB, i130, h18, K12, K124, K142⟩
  intro a w ⟨s162, ho161, F, hB, i163, h18, K12, K124, K142⟩
  subst ho161
  have hR := then_nx hk160
  refine x_tn ?_
  refine x_reg ?_
  refine o_add F rfl rfl rfl (show ck ((0 : Int) + 1) = some 1 from rfl) (fun a F => ?_)
  refine o_move F rfl rfl (fun a F => ?_)
  refine x_end ?_
  refine x_tn ?_
  refine x_rd ?_
  refine x_seq ?_
  refine x_reg ?_
  refine o_lss F rfl rfl rfl (fun a F => ?_)
  replace F := F.cast (show Value.bool (decide ((1 : Int) < 3)) = .bool true from rfl)
  refine x_end ?_
  refine x_tn ?_
  refine x_seq ?_
  refine x_ift F rfl ?_
  refine x_skip ?_
  refine x_tn ?_
  refine x_seq ?_
  obtain ⟨o188, hR, hk189⟩ := thn_some hR
  refine x_cutQ (fun a w => ∃ (s191 : Int), o188 = .nx s191 ∧ Sk a 53 [(0, .string x0), (2, .pointer (some ⟨b11, 0, none⟩)), (4, v15), (5, .pointer (some ⟨b123, 0, none⟩)), (21, .slice (some ⟨b141, 0, none⟩) 3 3), (22, .int .i64 3), (23, .int .i64 1)] ∧ Below w0.heap.size w0 w ∧ I64 s191 ∧ Row 1 RStr 9 w0.heap.size w v15 z13 rb16 ([]) ∧ Blk w b11 #[.int .i64 0, .int .i64 0, .int .i64 0, .int .i64 0] 23 ∧ Blk w b123 #[.int .i64 z42, .int .i64 s162, .int .i64 s191, .int .i64 0] 23 ∧ Blk w b141 #[.pointer (some ⟨b123, 1, none⟩), .pointer (some ⟨b123, 2, none⟩), .pointer (some ⟨b123, 3, none⟩)] 34) ?_ ?_
  ·
   refine x_blk ?_
   refine x_seq ?_
   refine x_reg ?_
   refine o_move F rfl rfl (fun a F => ?_)
   refine o_bidx (i := 1) Tryd.underlying35 Tryd.sizeOf34 F rfl rfl rfl (by decide) (fun a F => ?_)
   refine o_bload Tryd.isAgg34 F rfl rfl K142 rfl (fun a F => ?_)
   refine o_assign F rfl rfl (fun a F => ?_)
   refine o_assign F rfl rfl (fun a F => ?_)
   refine x_end ?_
   refine x_tn ?_
   refine x_seq ?_
   refine x_reg ?_
   refine o_move F rfl rfl (fun a F => ?_)
   refine o_add F rfl rfl rfl (show ck ((1 : Int) + 1) = some 2 from rfl) (fun a F => ?_)
   refine o_move F rfl rfl (fun a F => ?_)
   refine o_len Tryd.underlying30 F rfl rfl h18.rd (fun a F => ?_)
   have i193 := (h18.rd).r.len64
   refine o_lss F rfl rfl rfl (fun a F => ?_)
   refine x_end ?_
   refine x_tn ?_
   refine x_if F rfl (fun hb194 => ?_) (fun hb194 => ?_)
   ·
    replace hR := ifT hb194 hR
    refine x_reg ?_
    refine o_move F rfl rfl (fun a F => ?_)
    refine o_move F rfl rfl (fun a F => ?_)
    refine o_move F rfl rfl (fun a F => ?_)
    refine o_add F rfl rfl rfl (show ck ((1 : Int) + 1) = some 2 from rfl) (fun a F => ?_)
    obtain ⟨z195, c196, hR⟩ := bnd_some hR
    refine o_rindex Tryd.underlying30 Tryd.sizeOf9 F rfl rfl rfl h18 c196 (fun a p197 b198 h199 s200 rp201 F => ?_)
    have i202 := (h199).str
    refine o_loadT Tryd.isAgg9 F rfl rfl h199 (fun a F => ?_)
    obtain ⟨z203, c204, hR⟩ := bnd_some hR
    refine o_saysI F rfl Tryd.call11 rfl (impl_readNumber_c z203 c204 _ (hG.go hB) i202) (fun a w l iz203 F => ?_)
    replace hB := Below.through l hB
    replace h18 := h18.go l
    replace K12 := K12.thru l
    replace K124 := K124.thru l
    replace K142 := K142.thru l
    refine o_nilCheck F rfl rfl (fun a F => ?_)
    refine o_bstore Tryd.sizeOf2 F rfl rfl rfl K124 rfl (by first | simp | decide) rfl (fun w K124 l => ?_)
    replace hB := hB.o l (fun c hc => by rw [List.mem_singleton] at hc; rw [hc]; exact CK124) hB.size
    replace h18 := h18.goO l d134
    replace K12 := K12.only l (by simpa using nb135)
    replace K142 := K142.only l (by simpa using nb145.symm)
    refine x_end ?_
    refine x_bn ?_
    refine x_tn ?_
    exact ⟨z203, (Option.some.inj hR).symm, F.sub (sc rfl (sc rfl (sc rfl (sc rfl (sc rfl (sc rfl (sc rfl sn))))))), hB, iz203, h18, K12, K124, K142⟩
   replace hR := ifF hb194 hR
   refine x_skip ?_
   refine x_bn ?_
   refine x_tn ?_
   exact ⟨0, (Option.some.inj hR).symm, F.sub (sc rfl (sc rfl (sc rfl (sc rfl (sc rfl (sc rfl (sc rfl sn))))))), hB, i131, h18, K12, K124, K142⟩
  intro a w ⟨s191, ho190, F, hB, i192, h18, K12, K124, K142⟩
  subst ho190
  have hR := then_nx hk189
  refine x_tn ?_
  refine x_reg ?_
  refine o_add F rfl rfl rfl (show ck ((1 : Int) + 1) = some 2 from rfl) (fun a F => ?_)
  refine o_move F rfl rfl (fun a F => ?_)
  refine x_end ?_
  refine x_tn ?_
  refine x_rd ?_
  refine x_seq ?_
  refine x_reg ?_
  refine o_lss F rfl rfl rfl (fun a F => ?_)
  replace F := F.cast (show Value.bool (decide ((2 : Int) < 3)) = .bool true from rfl)
  refine x_end ?_
  refine x_tn ?_
  refine x_seq ?_
  refine x_ift F rfl ?_
  refine x_skip ?_
  refine x_tn ?_
  refine x_seq ?_
  obtain ⟨o217, hR, hk218⟩ := thn_some hR
  refine x_cutQ (fun a w => ∃ (s220 : Int), o217 = .nx s220 ∧ Sk a 53 [(0, .string x0), (2, .pointer (some ⟨b11, 0, none⟩)), (4, v15), (5, .pointer (some ⟨b123, 0, none⟩)), (21, .slice (some ⟨b141, 0, none⟩) 3 3), (22, .int .i64 3), (23, .int .i64 2)] ∧ Below w0.heap.size w0 w ∧ I64 s220 ∧ Row 1 RStr 9 w0.heap.size w v15 z13 rb16 ([]) ∧ Blk w b11 #[.int .i64 0, .int .i64 0, .int .i64 0, .int .i64 0] 23 ∧ Blk w b123 #[.int .i64 z42, .int .i64 s162, .int .i64 s191, .int .i64 s220] 23 ∧ Blk w b141 #[.pointer (some ⟨b123, 1, none⟩), .pointer (some ⟨b123, 2, none⟩), .pointer (some ⟨b123, 3, none⟩)] 34) ?_ ?_
  ·
   refine x_blk ?_
   refine x_seq ?_
   refine x_reg ?_
   refine o_move F rfl rfl (fun a F => ?_)
   refine o_bidx (i := 2) Tryd.underlying35 Tryd.sizeOf34 F rfl rfl rfl (by decide) (fun a F => ?_)
   refine o_bload Tryd.isAgg34 F rfl rfl K142 rfl (fun a F => ?_)
   refine o_assign F rfl rfl (fun a F => ?_)
   refine o_assign F rfl rfl (fun a F => ?_)
   refine x_end ?_
   refine x_tn ?_
   refine x_seq ?_
   refine x_reg ?_
   refine o_move F rfl rfl (fun a F => ?_)
   refine o_add F rfl rfl rfl (show ck ((2 : Int) + 1) = some 3 from rfl) (fun a F => ?_)
   refine o_move F rfl rfl (fun a F => ?_)
   refine o_len Tryd.underlying30 F rfl rfl h18.rd (fun a F => ?_)
   have i222 := (h18.rd).r.len64
   refine o_lss F rfl rfl rfl (fun a F => ?_)
   refine x_end ?_
   refine x_tn ?_
   refine x_if F rfl (fun hb223 => ?_) (fun hb223 => ?_)
   ·
    replace hR := ifT hb223 hR
    refine x_reg ?_
    refine o_move F rfl rfl (fun a F => ?_)
    refine o_move F rfl rfl (fun a F => ?_)
    refine o_move F rfl rfl (fun a F => ?_)
    refine o_add F rfl rfl rfl (show ck ((2 : Int) + 1) = some 3 from rfl) (fun a F => ?_)
    obtain ⟨z224, c225, hR⟩ := bnd_some hR
    refine o_rindex Tryd.underlying30 Tryd.sizeOf9 F rfl rfl rfl h18 c225 (fun a p226 b227 h228 s229 rp230 F => ?_)
    have i231 := (h228).str
    refine o_loadT Tryd.isAgg9 F rfl rfl h228 (fun a F => ?_)
    obtain ⟨z232, c233, hR⟩ := bnd_some hR
    refine o_saysI F rfl Tryd.call11 rfl (impl_readNumber_c z232 c233 _ (hG.go hB) i231) (fun a w l iz232 F => ?_)
    replace hB := Below.through l hB
    replace h18 := h18.go l
    replace K12 := K12.thru l
    replace K124 := K124.thru l
    replace K142 := K142.thru l
    refine o_nilCheck F rfl rfl (fun a F => ?_)
    refine o_bstore Tryd.sizeOf2 F rfl rfl rfl K124 rfl (by first | simp | decide) rfl (fun w K124 l => ?_)
    replace hB := hB.o l (fun c hc => by rw [List.mem_singleton] at hc; rw [hc]; exact CK124) hB.size
    replace h18 := h18.goO l d134
    replace K12 := K12.only l (by simpa using nb135)
    replace K142 := K142.only l (by simpa using nb145.symm)
    refine x_end ?_
    refine x_bn ?_
    refine x_tn ?_
    exact ⟨z232, (Option.some.inj hR).symm, F.sub (sc rfl (sc rfl (sc rfl (sc rfl (sc rfl (sc rfl (sc rfl sn))))))), hB, iz232, h18, K12, K124, K142⟩
   replace hR := ifF hb223 hR
   refine x_skip ?_
   refine x_bn ?_
   refine x_tn ?_
   exact ⟨0, (Option.some.inj hR).symm, F.sub (sc rfl (sc rfl (sc rfl (sc rfl (sc rfl (sc rfl (sc rfl sn))))))), hB, i132, h18, K12, K124, K142⟩
  intro a w ⟨s220, ho219, F, hB, i221, h18, K12, K124, K142⟩
  subst ho219
  have hR := then_nx hk218
  refine x_tn ?_
  refine x_reg ?_
  refine o_add F rfl rfl rfl (show ck ((2 : Int) + 1) = some 3 from rfl) (fun a F => ?_)
  refine o_move F rfl rfl (fun a F => ?_)
  refine x_end ?_
  refine x_tn ?_
  refine x_rd ?_
  refine x_seq ?_
  refine x_reg ?_
  refine o_lss F rfl rfl rfl (fun a F => ?_)
  replace F := F.cast (show Value.bool (decide ((3 : Int) < 3)) = .bool false from rfl)
  refine x_end ?_
  refine x_tn ?_
  refine x_seq ?_
  refine x_iff F rfl ?_
  refine x_exit ?_
  refine x_te ?_
  refine x_te ?_
  refine x_be ?_
  refine x_tn ?_
  refine x_seq ?_
  refine x_seq ?_
  refine x_reg ?_
  refine o_bloadA (cs := [.int .i64 z42, .int .i64 s162, .int .i64 s191, .int .i64 s220]) Tryd.isAgg23 Tryd.sizeOf23 F rfl rfl K124 rfl (fun j hj => by match j, hj with | 0, _ => rfl | 1, _ => rfl | 2, _ => rfl | 3, _ => rfl) (fun a F => ?_)
  have h234 := RLine.mk2 (w := w) i129 i163 i192 i221
  obtain ⟨z235, c236, hR⟩ := bnd_some hR
  refine o_gives F rfl Tryd.call12 rfl (impl_LineText_c z235 c236 _ (hG.go hB).toGlo h234) (fun a vv w l ⟨hv238, i237⟩ F => ?_)
  subst vv
  replace hB := Below.through l hB
  replace K12 := K12.thru l
  replace K124 := K124.thru l
  refine o_assign F rfl rfl (fun a F => ?_)
  refine x_end ?_
  refine x_tn ?_
  refine x_seq ?_
  obtain ⟨o240, hR, hk241⟩ := thn_some hR
  refine x_cutQ (fun a w => ∃ (s243 : Bool), o240 = .nx s243 ∧ Sk a 53 [(2, .pointer (some ⟨b11, 0, none⟩)), (5, .pointer (some ⟨b123, 0, none⟩)), (50, .bool s243)] ∧ Below w0.heap.size w0 w ∧ Blk w b11 #[.int .i64 0, .int .i64 0, .int .i64 0, .int .i64 0] 23 ∧ Blk w b123 #[.int .i64 z42, .int .i64 s162, .int .i64 s191, .int .i64 s220] 23) ?_ ?_
  ·
   refine x_reg ?_
   refine o_move F rfl rfl (fun a F => ?_)
   refine o_seql F rfl rfl rfl (fun a F => ?_)
   refine o_move F rfl rfl (fun a F => ?_)
   rcases bcases (sEq z235 (bstr [])) with hb244 | hb244
   ·
    replace hR := ifT hb244 hR
    have F := F.eq (t := 46) rfl (congrArg Value.bool hb244)
    refine o_no F rfl rfl (fun a F => ?_)
    refine o_no F rfl rfl (fun a F => ?_)
    refine o_no F rfl rfl (fun a F => ?_)
    refine o_pickt F rfl rfl rfl (fun a F => ?_)
    refine x_end ?_
    refine x_tn ?_
    exact ⟨true, (Option.some.inj hR).symm, F.sub (sc rfl (sc rfl (sc rfl sn))), hB, K12, K124⟩
   replace hR := ifF hb244 hR
   have F := F.eq (t := 46) rfl (congrArg Value.bool hb244)
   refine o_move F rfl rfl (fun a F => ?_)
   refine o_move F rfl rfl (fun a F => ?_)
   refine o_sneq F rfl rfl rfl (fun a F => ?_)
   refine o_pickf F rfl rfl rfl (fun a F => ?_)
   refine x_end ?_
   refine x_tn ?_
   exact ⟨(!sEq z235 x0), (Option.some.inj hR).symm, F.sub (sc rfl (sc rfl (sc rfl sn))), hB, K12, K124⟩
  intro a w ⟨s243, ho242, F, hB, K12, K124⟩
  subst ho242
  have hR := then_nx hk241
  refine x_tn ?_
  refine x_if F rfl (fun hb245 => ?_) (fun hb245 => ?_)
  ·
   replace hR := ifT hb245 hR
   refine x_seq ?_
   refine x_reg ?_
   refine o_build Tryd.underlying23 Tryd.zeroValue23 (fun w => by simp [Tryd.sizeOf2]; rfl) F rfl rfl rfl rfl rfl on rfl rfl (fun a F => ?_)
   have h246 := RLine.mk2 (w := w) (show I64 0 by decide) (show I64 0 by decide) (show I64 0 by decide) (show I64 0 by decide)
   refine o_bstoreA (vs := [.int .i64 0, .int .i64 0, .int .i64 0, .int .i64 0]) Tryd.sizeOf23 F rfl rfl rfl K12 (oc rfl (oc rfl (oc rfl (oc rfl on)))) (Nat.le_of_ble_eq_true rfl) rfl (fun w K12 l => ?_)
   replace hB := hB.o l (fun c hc => by rw [List.mem_singleton] at hc; rw [hc]; exact CK12) hB.size
   refine o_assign F rfl rfl (fun a F => ?_)
   refine x_end ?_
   refine x_tn ?_
   refine x_ret ?_
   refine x_tr ?_
   refine x_res2 F rfl (rv_cA (arr := #[.int .i64 0, .int .i64 0, .int .i64 0, .int .i64 0]) F Tryd.isAgg23 Tryd.sizeOf23 rfl K12) (rv_t F rfl) ?_
   obtain rfl := Option.some.inj hR
   exact ⟨_, rfl, hB, rfl, (show I64 0 by decide), (show I64 0 by decide), (show I64 0 by decide), (show I64 0 by decide), (show I64 (5) by decide)⟩
  replace hR := ifF hb245 hR
  refine x_skip ?_
  refine x_tn ?_
  refine x_seq ?_
  refine x_reg ?_
  refine o_bloadA (cs := [.int .i64 z42, .int .i64 s162, .int .i64 s191, .int .i64 s220]) Tryd.isAgg23 Tryd.sizeOf23 F rfl rfl K124 rfl (fun j hj => by match j, hj with | 0, _ => rfl | 1, _ => rfl | 2, _ => rfl | 3, _ => rfl) (fun a F => ?_)
  have h247 := RLine.mk2 (w := w) i129 i163 i192 i221
  refine o_bstoreA (vs := [.int .i64 z42, .int .i64 s162, .int .i64 s191, .int .i64 s220]) Tryd.sizeOf23 F rfl rfl rfl K12 (oc rfl (oc rfl (oc rfl (oc rfl on)))) (Nat.le_of_ble_eq_true rfl) rfl (fun w K12 l => ?_)
  replace hB := hB.o l (fun c hc => by rw [List.mem_singleton] at hc; rw [hc]; exact CK12) hB.size
  refine o_assign F rfl rfl (fun a F => ?_)
  refine x_end ?_
  refine x_tn ?_
  refine x_ret ?_
  refine x_res2 F rfl (rv_cA (arr := #[.int .i64 z42, .int .i64 s162, .int .i64 s191, .int .i64 s220]) F Tryd.isAgg23 Tryd.sizeOf23 rfl K12) (rv_t F rfl) ?_
  obtain rfl := Option.some.inj hR
  exact ⟨_, rfl, hB, rfl, i129, i163, i192, i221, (show I64 (0) by decide)⟩
 refine dp (fun G => ∀ (b99 : Nat) (v105 : Value) (rb106 : List Nat) (a : Act) (w : World), Sk a 53 [(0, .string x0), (2, .pointer (some ⟨b11, 0, none⟩)), (4, v15), (5, .pointer (some ⟨b99, 0, none⟩)), (11, v105), (14, .string z22)] → Below w0.heap.size w0 w → Row 1 RStr 9 w0.heap.size w v15 z13 rb16 ([]) → I64 0 → I64 0 → I64 0 → I64 0 → w0.heap.size ≤ b99 → I64 0 → I64 0 → I64 0 → I64 0 → Row 1 RStr 9 w0.heap.size w v105 z29 rb106 ([]) → z22.size ≤ maxLen → Blk w b11 #[.int .i64 0, .int .i64 0, .int .i64 0, .int .i64 0] 23 → Blk w b99 #[.int .i64 0, .int .i64 0, .int .i64 0, .int .i64 0] 23 → Dj (rb16 ++ []) rb106 → Dj [b11] rb106 → Dj (rb106 ++ []) rb16 → Dj [b99] rb16 → Dj [b99] rb106 → Dj (rb16 ++ []) ([b99]) → b11 ≠ b99 → ∀ ls, ls = #[true, true, true, true, false, false, false, true, false] → G 4 ls a w) ?_ (fun H117 => ?_)
 ·
  intro b99 v105 rb106 a w F hB h18 i95 i96 i97 i98 CK100 i101 i102 i103 i104 h107 i109 K12 K100 d110 d111 d112 d113 d114 d115 nb116 ls hls
  subst hls
  refine b_e 4 rfl (by kernel_rfl) ?_
  refine o_saysI F rfl Tryd.call9 rfl (slices_Index_s_string_string_c z40 c41 _ h107.rd i109) (fun a w l iz40 F => ?_)
  replace hB := Below.through l hB
  replace h18 := h18.go l
  replace K12 := K12.thru l
  replace K100 := K100.thru l
  refine x_end ?_
  refine x_tn ?_
  refine ⟨.inl l, ?_⟩
  refine b_q0 5 rfl (by kernel_rfl) (by kernel_rfl) (by kernel_rfl) ?_
  refine v_val F rfl (fun w l => r_add F rfl rfl c43) (fun a F => ?_)
  refine b_q 6 (by kernel_rfl) rfl (by kernel_rfl) (by kernel_rfl) (by kernel_rfl) (by kernel_rfl) ?_
  refine v_val F rfl (fun w l => r_build Tryd.underlying23 Tryd.zeroValue23 (fun w => by simp [Tryd.sizeOf2]; rfl) F rfl rfl rfl rfl (oc rfl on) rfl rfl) (fun a F => ?_)
  have h118 := RLine.mk2 (w := w) (ck64 c43) (show I64 0 by decide) (show I64 0 by decide) (show I64 0 by decide)
  exact H137 b99 _ _ (F.sub (sc rfl (sc rfl (sc rfl (sc rfl (sc rfl sn)))))) hB h18 i95 i96 i97 i98 CK100 i101 i102 i103 i104 (ck64 c43) (show I64 0 by decide) (show I64 0 by decide) (show I64 0 by decide) K12 K100 d113 d115 nb116 _ (by kernel_rfl)
 refine b_q0 1 rfl (by kernel_rfl) (by kernel_rfl) (by kernel_rfl) ?_
 refine v_val F rfl (fun w l => r_move F rfl) (fun a F => ?_)
 refine b_q 2 (by kernel_rfl) rfl (by kernel_rfl) (by kernel_rfl) (by kernel_rfl) (by kernel_rfl) ?_
 refine v_index Tryd.underlying30 Tryd.sizeOf9 F rfl rfl rfl h18.rd c23 (fun a p51 b52 h53 s54 F => ?_)
 refine b_q 3 (by kernel_rfl) rfl (by kernel_rfl) (by kernel_rfl) (by kernel_rfl) (by kernel_rfl) ?_
 have i55 := (h53).str
 refine v_val F rfl (fun w l => r_loadT Tryd.isAgg9 F rfl ((h53).go l)) (fun a F => ?_)
 refine b_es [0, 7] (by kernel_rfl) (by simp) ⟨⟨_, rfl, ?_⟩, ⟨_, rfl, ?_⟩, trivial⟩
 ·
  refine o_gives F rfl Tryd.call10 rfl (impl_lineWords_c z29 c30 _) (fun a vv w l ⟨v56, rb57, hv60, h59⟩ F => ?_)
  subst vv
  have d62 := Dj.new h18.rd.m h59.ownR (Nat.le_refl _)
  have d63 := Dj.new (inm1 K12) h59.ownR (Nat.le_refl _)
  have d64 := Dj.app' (Dj.new h18.memR h59.ownR (Nat.le_refl _)).symm (Dj.nil' _)
  replace h59 := h59.base hB.size
  replace hB := Below.through l hB
  replace h18 := h18.go l
  replace K12 := K12.thru l
  refine x_end ?_
  refine x_tn ?_
  refine ⟨.inl l, ?_⟩
  refine b_es [4, 7] (by kernel_rfl) (by simp) ⟨⟨_, rfl, ?_⟩, ⟨_, rfl, ?_⟩, trivial⟩
  ·
   refine o_saysI F rfl Tryd.call9 rfl (slices_Index_s_string_string_c z40 c41 _ h59.rd i55) (fun a w l iz40 F => ?_)
   replace hB := Below.through l hB
   replace h18 := h18.go l
   replace K12 := K12.thru l
   refine x_end ?_
   refine x_tn ?_
   refine ⟨.inl l, ?_⟩
   refine b_q0 5 rfl (by kernel_rfl) (by kernel_rfl) (by kernel_rfl) ?_
   refine v_val F rfl (fun w l => r_add F rfl rfl c43) (fun a F => ?_)
   refine b_q 6 (by kernel_rfl) rfl (by kernel_rfl) (by kernel_rfl) (by kernel_rfl) (by kernel_rfl) ?_
   refine v_val F rfl (fun w l => r_build Tryd.underlying23 Tryd.zeroValue23 (fun w => by simp [Tryd.sizeOf2]; rfl) F rfl rfl rfl rfl (oc rfl on) rfl rfl) (fun a F => ?_)
   have h65 := RLine.mk2 (w := w) (ck64 c43) (show I64 0 by decide) (show I64 0 by decide) (show I64 0 by decide)
   refine b_e 7 rfl (by kernel_rfl) ?_
   refine o_alloc Tryd.zeroValue23 F rfl rfl (fun a w b66 K67 l BK67 F => ?_)
   have d68 := dj1 h18.memR BK67
   have nb69 := Dj.bb K12 BK67
   have d70 := (dj1 h65.m BK67).symm
   have d71 := (dj1 h18.rd.m BK67).symm
   have CK67 := Nat.le_trans hB.size BK67
   replace hB := Below.through l hB
   replace h18 := h18.go l
   replace h65 := h65.go l
   replace K12 := K12.thru l
   refine x_end ?_
   refine x_tn ?_
   refine ⟨.inl l, ?_⟩
   exact H137 b66 _ _ (F.sub (sc rfl (sc rfl (sc rfl (sc rfl (sc rfl sn)))))) hB h18 (show I64 0 by decide) (show I64 0 by decide) (show I64 0 by decide) (show I64 0 by decide) CK67 (show I64 0 by decide) (show I64 0 by decide) (show I64 0 by decide) (show I64 0 by decide) (ck64 c43) (show I64 0 by decide) (show I64 0 by decide) (show I64 0 by decide) K12 K67 d68 d71 nb69 _ (by kernel_rfl)
  refine o_alloc Tryd.zeroValue23 F rfl rfl (fun a w b72 K73 l BK73 F => ?_)
  have d74 := dj1 h18.memR BK73
  have d75 := dj1 h59.memR BK73
  have nb76 := Dj.bb K12 BK73
  have d77 := (dj1 h18.rd.m BK73).symm
  have d78 := (dj1 h59.rd.m BK73).symm
  have CK73 := Nat.le_trans hB.size BK73
  replace hB := Below.through l hB
  replace h18 := h18.go l
  replace h59 := h59.go l
  replace K12 := K12.thru l
  refine x_end ?_
  refine x_tn ?_
  refine ⟨.inl l, ?_⟩
  exact H117 b72 v56 rb57 _ _ (F.sub (sc rfl (sc rfl (sc rfl (sc rfl (sc rfl (sc rfl sn))))))) hB h18 (show I64 0 by decide) (show I64 0 by decide) (show I64 0 by decide) (show I64 0 by decide) CK73 (show I64 0 by decide) (show I64 0 by decide) (show I64 0 by decide) (show I64 0 by decide) h59 i55 K12 K73 d62 d63 d64 d74 d75 d77 nb76 _ (by kernel_rfl)
 refine o_alloc Tryd.zeroValue23 F rfl rfl (fun a w b79 K80 l BK80 F => ?_)
 have d81 := dj1 h18.memR BK80
 have nb82 := Dj.bb K12 BK80
 have d83 := (dj1 h53.m BK80).symm
 have d84 := (dj1 h18.rd.m BK80).symm
 have CK80 := Nat.le_trans hB.size BK80
 replace hB := Below.through l hB
 replace h18 := h18.go l
 replace K12 := K12.thru l
 refine x_end ?_
 refine x_tn ?_
 refine ⟨.inl l, ?_⟩
 refine b_e 0 rfl (by kernel_rfl) ?_
 refine o_gives F rfl Tryd.call10 rfl (impl_lineWords_c z29 c30 _) (fun a vv w l ⟨v85, rb86, hv89, h88⟩ F => ?_)
 subst vv
 have d91 := Dj.new h18.rd.m h88.ownR (Nat.le_refl _)
 have d92 := Dj.new (inm1 K12) h88.ownR (Nat.le_refl _)
 have d93 := Dj.new (inm1 K80) h88.ownR (Nat.le_refl _)
 have d94 := Dj.app' (Dj.new h18.memR h88.ownR (Nat.le_refl _)).symm (Dj.nil' _)
 replace h88 := h88.base hB.size
 replace hB := Below.through l hB
 replace h18 := h18.go l
 replace K12 := K12.thru l
 replace K80 := K80.thru l
 refine x_end ?_
 refine x_tn ?_
 refine ⟨.inl l, ?_⟩
 exact H117 b79 v85 rb86 _ _ (F.sub (sc rfl (sc rfl (sc rfl (sc rfl (sc rfl (sc rfl sn))))))) hB h18 (show I64 0 by decide) (show I64 0 by decide) (show I64 0 by decide) (show I64 0 by decide) CK80 (show I64 0 by decide) (show I64 0 by decide) (show I64 0 by decide) (show I64 0 by decide) h88 i55 K12 K80 d91 d92 d94 d81 d93 d84 nb82 _ (by kernel_rfl)
end Go.Proofs.YtbgkhipclkhlcaaDoor
