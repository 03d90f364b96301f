/-
  Functions of the program as plain functions, and that they compute them. Printed by fxio.py.
-/
import Derived.Test.YtbgkhipclkhlcaaDoorS3
import Derived.Test.YtbgkhipclkhlcaaDoorER
import Derived.Test.YtbgkhipclkhlcaaDoorBP
namespace Go.Proofs.YtbgkhipclkhlcaaDoor
set_option linter.unusedVariables false
set_option linter.unusedSimpArgs false
set_option maxRecDepth 100000
open Go.RowKit
def impl_readNumber (x0 : ByteArray) : Option Int :=
 bnd (strconv_ParseInt x0 10 64) fun z11 =>
 thn (σ := Bool) (
  if (!z11.2) then  some (.nx true) else  if (decide (z11.1 < 0)) then  some (.nx true) else  bnd (impl_dec z11.1) fun z29 =>
    some (.nx (!sEq z29 x0))) fun s26 =>
 if s26 then
  some ((-2))
 else
  some z11.1
set_option maxHeartbeats 1000000 in
theorem impl_readNumber_c {x0 : ByteArray} (r : Int) (hR : impl_readNumber x0 = some r)  (w0 : World) (hG : GloE w0) (hx0 : x0.size ≤ maxLen) : Calls Tryd.prog 11 #[.string x0] w0 (SaysI r w0) := by
 unfold impl_readNumber at hR
 refine x_enter (L := [(0, .string x0)]) Tryd.func11 rfl rfl rfl (sc rfl sn) (fun a F => ?_)
 have hB := Below.refl w0.heap.size w0
 refine x_seq ?_
 refine x_reg ?_
 refine o_assign F rfl rfl (fun a F => ?_)
 refine x_end ?_
 refine x_tn ?_
 refine x_seq ?_
 refine x_reg ?_
 refine o_move F rfl rfl (fun a F => ?_)
 obtain ⟨z11, c12, hR⟩ := bnd_some hR
 refine o_gives F rfl Tryd.call18 rfl (strconv_ParseInt_c z11 c12 _ (hG.go hB) hx0 (show I64 (10) by decide) (show I64 (64) by decide)) (fun a vv w l ⟨v14, hv16, i13, hE15⟩ F => ?_)
 subst vv
 replace hB := Below.through l hB
 refine o_move F rfl rfl (fun a F => ?_)
 refine o_extract F rfl rfl rfl (fun a F => ?_)
 refine o_extract F rfl rfl rfl (fun a F => ?_)
 refine o_assign F rfl rfl (fun a F => ?_)
 refine o_assign F rfl rfl (fun a F => ?_)
 refine x_end ?_
 refine x_tn ?_
 refine x_seq ?_
 refine x_seq ?_
 obtain ⟨o23, hR, hk24⟩ := thn_some hR
 refine x_cutQ (fun a w => ∃ (s26 : Bool), o23 = .nx s26 ∧ Sk a 23 [(3, .int .i64 z11.1), (21, .bool s26)] ∧ Below w0.heap.size w0 w) ?_ ?_
 ·
  refine x_reg ?_
  refine o_move F rfl rfl (fun a F => ?_)
  refine o_errne (by kernel_rfl) F rfl rfl hE15 (fun a F => ?_)
  refine o_move F rfl rfl (fun a F => ?_)
  rcases bcases (!z11.2) with hb27 | hb27
  ·
   replace hR := ifT hb27 hR
   have F := F.eq (t := 12) rfl (congrArg Value.bool hb27)
   refine o_no F rfl rfl (fun a F => ?_)
   refine o_no F rfl rfl (fun a F => ?_)
   refine o_pickt F rfl rfl rfl (fun a F => ?_)
   refine o_move F rfl rfl (fun a F => ?_)
   refine o_no F rfl rfl (fun a F => ?_)
   refine o_no F rfl rfl (fun a F => ?_)
   refine o_no F rfl rfl (fun a F => ?_)
   refine o_no F rfl rfl (fun a F => ?_)
   refine o_pickt F rfl rfl rfl (fun a F => ?_)
   refine x_end ?_
   refine x_tn ?_
   exact ⟨true, (Option.some.inj hR).symm, F.sub (sc rfl (sc rfl sn)), hB⟩
  replace hR := ifF hb27 hR
  have F := F.eq (t := 12) rfl (congrArg Value.bool hb27)
  refine o_move F rfl rfl (fun a F => ?_)
  refine o_lss F rfl rfl rfl (fun a F => ?_)
  refine o_pickf F rfl rfl rfl (fun a F => ?_)
  refine o_move F rfl rfl (fun a F => ?_)
  rcases bcases (decide (z11.1 < 0)) with hb28 | hb28
  ·
   replace hR := ifT hb28 hR
   have F := F.eq (t := 16) rfl (congrArg Value.bool hb28)
   refine o_no F rfl rfl (fun a F => ?_)
   refine o_no F rfl rfl (fun a F => ?_)
   refine o_no F rfl rfl (fun a F => ?_)
   refine o_no F rfl rfl (fun a F => ?_)
   refine o_pickt F rfl rfl rfl (fun a F => ?_)
   refine x_end ?_
   refine x_tn ?_
   exact ⟨true, (Option.some.inj hR).symm, F.sub (sc rfl (sc rfl sn)), hB⟩
  replace hR := ifF hb28 hR
  have F := F.eq (t := 16) rfl (congrArg Value.bool hb28)
  refine o_move F rfl rfl (fun a F => ?_)
  obtain ⟨z29, c30, hR⟩ := bnd_some hR
  refine o_gives F rfl Tryd.call19 rfl (impl_dec_c z29 c30 _ (hG.go hB).toGlo i13) (fun a vv w l ⟨hv32, i31⟩ F => ?_)
  subst vv
  replace hB := Below.through l hB
  refine o_move F rfl rfl (fun a F => ?_)
  refine o_sneq F rfl rfl rfl (fun a F => ?_)
  refine o_pickf F rfl rfl rfl (fun a F => ?_)
  refine x_end ?_
  refine x_tn ?_
  exact ⟨(!sEq z29 x0), (Option.some.inj hR).symm, F.sub (sc rfl (sc rfl sn)), hB⟩
 intro a w ⟨s26, ho25, F, hB⟩
 subst ho25
 have hR := then_nx hk24
 refine x_tn ?_
 refine x_if F rfl (fun hb33 => ?_) (fun hb33 => ?_)
 ·
  replace hR := ifT hb33 hR
  refine x_seq ?_
  refine x_reg ?_
  refine o_assign F rfl rfl (fun a F => ?_)
  refine x_end ?_
  refine x_tn ?_
  refine x_ret ?_
  refine x_tr ?_
  refine x_res1 F rfl (rv_t F rfl) ?_
  obtain rfl := Option.some.inj hR
  exact ⟨⟨rfl, hB⟩, (show I64 (-2) by decide)⟩
 replace hR := ifF hb33 hR
 refine x_skip ?_
 refine x_tn ?_
 refine x_seq ?_
 refine x_reg ?_
 refine o_move F rfl rfl (fun a F => ?_)
 refine o_assign F rfl rfl (fun a F => ?_)
 refine x_end ?_
 refine x_tn ?_
 refine x_ret ?_
 refine x_res1 F rfl (rv_t F rfl) ?_
 obtain rfl := Option.some.inj hR
 exact ⟨⟨rfl, hB⟩, i13⟩

def spec_l01Split (x0 : ByteArray) (x1 : UInt8) : Option (List ByteArray) :=
 thn (σ := (List ByteArray) × Int) (
  forI (σ := (List ByteArray) × Int) (ρ := (List ByteArray)) (fun (k61 : Nat) (s : (List ByteArray) × Int) =>
    match s with
    | (s47, s52) =>
    bnd (six x0 (k61 : Int)) fun z67 =>
    if ((z67.toNat : Int) == (x1.toNat : Int)) then
     bnd (ssl x0 s52 (k61 : Int)) fun z70 =>
     bnd (ap s47 ([z70])) fun z78 =>
     bnd (ck ((k61 : Int) + 1)) fun z84 =>
     some (.go (z78, z84))
    else
     some (.go (s47, s52))) (x0.size : Int).toNat 0 ([], 0)) fun (s54, s59) =>
 bnd (ssl x0 s59 (x0.size : Int)) fun z86 =>
 bnd (ap s54 ([z86])) fun z94 =>
 some z94
set_option maxHeartbeats 1000000 in
theorem spec_l01Split_c {x0 : ByteArray} {x1 : UInt8} (r : (List ByteArray)) (hR : spec_l01Split x0 x1 = some r)  (w0 : World) (hx0 : x0.size ≤ maxLen) : Calls Tryd.prog 13 #[.string x0, .int .u8 (x1).toNat] w0 (Gives (fun v w' => ∃ (v1' : Value) (rb2' : List Nat), v = v1' ∧ Row 1 RStr 9 w0.heap.size w' v1' r rb2' []) w0) := by
 unfold spec_l01Split at hR
 refine x_enter (L := [(0, .string x0), (1, .int .u8 (x1).toNat)]) Tryd.func13 rfl rfl rfl (sc rfl (sc rfl sn)) (fun a F => ?_)
 have hB := Below.refl w0.heap.size w0
 refine x_seq ?_
 refine x_reg ?_
 refine o_assign F rfl rfl (fun a F => ?_)
 refine x_end ?_
 refine x_tn ?_
 refine x_seq ?_
 refine x_reg ?_
 refine o_lit0 (R := RStr) Tryd.underlying30 Tryd.sizeOf9 F rfl (fun a w v11 rb12 h13 l F => ?_)
 replace h13 := h13.base hB.size
 replace hB := Below.through l hB
 refine o_assign F rfl rfl (fun a F => ?_)
 refine x_end ?_
 refine x_tn ?_
 refine x_seq ?_
 refine x_reg ?_
 refine o_assign F rfl rfl (fun a F => ?_)
 refine x_end ?_
 refine x_tn ?_
 refine x_seq ?_
 refine x_seq ?_
 refine x_reg ?_
 refine o_assign F rfl rfl (fun a F => ?_)
 refine x_end ?_
 refine x_tn ?_
 obtain ⟨o41, hR, hk42⟩ := thn_some hR
 refine x_cutQ (fun a w => ∃ (s54 : List ByteArray) (v57 : Value) (rb58 : List Nat) (s59 : Int), o41 = .nx (s54, s59) ∧ Sk a 35 [(0, .string x0), (5, v57), (6, .int .i64 s59)] ∧ Below w0.heap.size w0 w ∧ Row 1 RStr 9 w0.heap.size w v57 s54 rb58 ([]) ∧ I64 s59) ?_ ?_
 ·
  refine x_blk ?_
  obtain ⟨fl45, hf46, hR⟩ := forI_gen hR
  refine x_loop (fun g a w => ∃ (k61 : Nat) (s47 : List ByteArray) (v50 : Value) (rb51 : List Nat) (s52 : Int), k61 + g = (x0.size : Int).toNat ∧ forI fl45 g k61 (s47, s52) = some o41 ∧ Sk a 35 [(7, .int .i64 (k61 : Int)), (0, .string x0), (1, .int .u8 (x1).toNat), (5, v50), (6, .int .i64 s52)] ∧ Below w0.heap.size w0 w ∧ Row 1 RStr 9 w0.heap.size w v50 s47 rb51 ([]) ∧ I64 s52) (x0.size : Int).toNat ?_ ?_
  ·
   exact ⟨0, [], v11, rb12, 0, (Nat.zero_add _), hR, F.sub (sc rfl (sc rfl (sc rfl (sc rfl (sc rfl sn))))), hB, h13, (show I64 (0) by decide)⟩
  intro g64 a w ⟨k61, s47, v50, rb51, s52, hd65, hR, F, hB, h49, i53⟩
  cases g64 with
  | zero =>
   replace hR := forI_zero hR
   have hlk61 := dec_noI hd65
   refine x_seq ?_
   refine x_seq ?_
   refine x_reg ?_
   refine o_move F rfl rfl (fun a F => ?_)
   refine o_move F rfl rfl (fun a F => ?_)
   refine o_lenStr Tryd.underlying9 F rfl rfl (fun a F => ?_)
   refine o_lss F rfl rfl rfl (fun a F => ?_)
   refine x_end ?_
   refine x_tn ?_
   refine x_ifF F rfl hlk61 ?_
   refine x_exit ?_
   refine x_te ?_
   refine x_te ?_
   refine x_be ?_
   refine x_tn ?_
   exact ⟨s47, v50, rb51, s52, (Option.some.inj hR).symm, F.sub (sc rfl (sc rfl (sc rfl sn))), hB, h49, i53⟩
  | succ g64 =>
   obtain ⟨ck61, hR, hn44⟩ := forI_succ hR
   rw [hf46] at hR
   have hlk61 := dec_yesI hd65
   refine x_seq ?_
   refine x_seq ?_
   refine x_reg ?_
   refine o_move F rfl rfl (fun a F => ?_)
   refine o_move F rfl rfl (fun a F => ?_)
   refine o_lenStr Tryd.underlying9 F rfl rfl (fun a F => ?_)
   refine o_lss F rfl rfl rfl (fun a F => ?_)
   refine x_end ?_
   refine x_tn ?_
   refine x_ifT F rfl hlk61 ?_
   refine x_skip ?_
   refine x_tn ?_
   refine x_seq ?_
   have ikk61 := k64I hd65 (str64 hx0)
   have ink61 := inc64I hd65 (str64 hx0)
   refine x_blk ?_
   refine x_seq ?_
   refine x_reg ?_
   refine o_move F rfl rfl (fun a F => ?_)
   refine o_move F rfl rfl (fun a F => ?_)
   obtain ⟨z67, c68, hR⟩ := bnd_some hR
   refine o_six Tryd.underlying9 F rfl rfl rfl c68 (fun a F => ?_)
   refine o_move F rfl rfl (fun a F => ?_)
   refine o_eqlU F rfl rfl rfl (fun a F => ?_)
   refine x_end ?_
   refine x_tn ?_
   refine x_if F rfl (fun hb69 => ?_) (fun hb69 => ?_)
   ·
    replace hR := ifT hb69 hR
    refine x_seq ?_
    refine x_reg ?_
    refine o_move F rfl rfl (fun a F => ?_)
    refine o_move F rfl rfl (fun a F => ?_)
    refine o_move F rfl rfl (fun a F => ?_)
    refine o_move F rfl rfl (fun a F => ?_)
    obtain ⟨z70, c71, hR⟩ := bnd_some hR
    refine o_ssllh Tryd.underlying9 F rfl rfl rfl rfl c71 (fun a F => ?_)
    refine o_lit1 (R := RStr) (y := z70) Tryd.underlying30 Tryd.sizeOf9 Tryd.zeroValue9 rfl (by decide) (by decide) F rfl rfl (El.str (ssl_sz c71 hx0)) (fun a w v72 rb73 h74 l F => ?_)
    have d76 := Dj.new h49.rd.m h74.ownR (Nat.le_refl _)
    have d77 := Dj.app' (Dj.new h49.memR h74.ownR (Nat.le_refl _)).symm (Dj.nil' _)
    replace h74 := h74.base hB.size
    replace hB := Below.through l hB
    replace h49 := h49.go l
    obtain ⟨z78, c79, hR⟩ := bnd_some hR
    refine o_append (sz := 1) (R := RStr) (z := (.string ByteArray.empty)) (bytes := 16) Tryd.underlying30 (by kernel_rfl) rfl (by decide) (by decide) (by decide) F rfl rfl rfl h49 h74.src hB.size (Dj.nil _) c79 (fun a w v80 rb81 h82 l keep F => ?_)
    replace h82 := row_nil2 h82
    replace hB := hB.o l h49.lo hB.size
    refine o_assign F rfl rfl (fun a F => ?_)
    refine x_end ?_
    refine x_tn ?_
    refine x_reg ?_
    refine o_move F rfl rfl (fun a F => ?_)
    obtain ⟨z84, c85, hR⟩ := bnd_some hR
    refine o_add F rfl rfl rfl c85 (fun a F => ?_)
    refine o_assign F rfl rfl (fun a F => ?_)
    refine x_end ?_
    refine x_bn ?_
    refine x_tn ?_
    refine x_reg ?_
    refine o_move F rfl rfl (fun a F => ?_)
    refine o_inc F rfl rfl rfl ink61 (fun a F => ?_)
    refine o_assign F rfl rfl (fun a F => ?_)
    refine x_end ?_
    refine x_tn ?_
    replace hR := l_go hR hn44
    exact ⟨_, Nat.lt_succ_self _, k61 + 1, z78, v80, rb81, z84, (by omega), hR, F.sub (sc rfl (sc rfl (sc rfl (sc rfl (sc rfl sn))))), hB, h82, (ck64 c85)⟩
   replace hR := ifF hb69 hR
   refine x_skip ?_
   refine x_bn ?_
   refine x_tn ?_
   refine x_reg ?_
   refine o_move F rfl rfl (fun a F => ?_)
   refine o_inc F rfl rfl rfl ink61 (fun a F => ?_)
   refine o_assign F rfl rfl (fun a F => ?_)
   refine x_end ?_
   refine x_tn ?_
   replace hR := l_go hR hn44
   exact ⟨_, Nat.lt_succ_self _, k61 + 1, s47, v50, rb51, s52, (by omega), hR, F.sub (sc rfl (sc rfl (sc rfl (sc rfl (sc rfl sn))))), hB, h49, i53⟩
 intro a w ⟨s54, v57, rb58, s59, ho43, F, hB, h56, i60⟩
 subst ho43
 have hR := then_nx hk42
 refine x_tn ?_
 refine x_seq ?_
 refine x_reg ?_
 refine o_move F rfl rfl (fun a F => ?_)
 refine o_move F rfl rfl (fun a F => ?_)
 refine o_move F rfl rfl (fun a F => ?_)
 obtain ⟨z86, c87, hR⟩ := bnd_some hR
 refine o_ssll Tryd.underlying9 F rfl rfl rfl c87 (fun a F => ?_)
 refine o_lit1 (R := RStr) (y := z86) Tryd.underlying30 Tryd.sizeOf9 Tryd.zeroValue9 rfl (by decide) (by decide) F rfl rfl (El.str (ssl_sz c87 hx0)) (fun a w v88 rb89 h90 l F => ?_)
 have d92 := Dj.new h56.rd.m h90.ownR (Nat.le_refl _)
 have d93 := Dj.app' (Dj.new h56.memR h90.ownR (Nat.le_refl _)).symm (Dj.nil' _)
 replace h90 := h90.base hB.size
 replace hB := Below.through l hB
 replace h56 := h56.go l
 obtain ⟨z94, c95, hR⟩ := bnd_some hR
 refine o_append (sz := 1) (R := RStr) (z := (.string ByteArray.empty)) (bytes := 16) Tryd.underlying30 (by kernel_rfl) rfl (by decide) (by decide) (by decide) F rfl rfl rfl h56 h90.src hB.size (Dj.nil _) c95 (fun a w v96 rb97 h98 l keep F => ?_)
 replace h98 := row_nil2 h98
 replace hB := hB.o l h56.lo hB.size
 refine o_assign F rfl rfl (fun a F => ?_)
 refine x_end ?_
 refine x_tn ?_
 refine x_ret ?_
 refine x_res1 F rfl (rv_t F rfl) ?_
 obtain rfl := Option.some.inj hR
 exact ⟨_, rfl, hB, v96, rb97, rfl, h98⟩

def spec_l01Number (x0 : ByteArray) : Option (Int × Bool) :=
 thn (σ := Bool) (
  if (decide ((x0.size : Int) < 1)) then  some (.nx true) else  if (decide (9 < (x0.size : Int))) then  some (.nx true) else  bnd (six x0 0) fun z22 =>
    if ((z22.toNat : Int) == ((48 : UInt8).toNat : Int)) then  some (.nx (decide (1 < (x0.size : Int)))) else  some (.nx false)) fun s19 =>
 if s19 then
  some (0, false)
 else
  thn (σ := Int) (
   forI (σ := Int) (ρ := Int × Bool) (fun (k55 : Nat) (s51 : Int) =>
    thn (σ := Bool) (
     bnd (six x0 (k55 : Int)) fun z68 =>
     if (decide ((z68.toNat : Int) < ((48 : UInt8).toNat : Int))) then  some (.nx true) else  some (.nx (decide (((57 : UInt8).toNat : Int) < (z68.toNat : Int))))) fun s67 =>
    if s67 then
     some (.ret (0, false))
    else
     bnd (ck (s51 * 10)) fun z72 =>
     bnd (six x0 (k55 : Int)) fun z74 =>
     bnd (ck (z72 + ((u8w ((z74.toNat : Int) - ((48 : UInt8).toNat : Int))).toNat : Int))) fun z76 =>
     some (.go z76)) (x0.size : Int).toNat 0 0) fun s53 =>
  some (s53, true)
set_option maxHeartbeats 1000000 in
theorem spec_l01Number_c {x0 : ByteArray} (r : Int × Bool) (hR : spec_l01Number x0 = some r)  (w0 : World) (hx0 : x0.size ≤ maxLen) : Calls Tryd.prog 23 #[.string x0] w0 (Gives (fun v w' => v = .tuple #[.int .i64 r.1, .bool r.2] ∧ I64 r.1) w0) := by
 unfold spec_l01Number at hR
 refine x_enter (L := [(0, .string x0)]) Tryd.func23 rfl rfl rfl (sc rfl sn) (fun a F => ?_)
 have hB := Below.refl w0.heap.size w0
 refine x_seq ?_
 refine x_reg ?_
 refine o_assign F rfl rfl (fun a F => ?_)
 refine o_assign F rfl rfl (fun a F => ?_)
 refine x_end ?_
 refine x_tn ?_
 refine x_seq ?_
 refine x_seq ?_
 obtain ⟨o16, hR, hk17⟩ := thn_some hR
 refine x_cutQ (fun a w => ∃ (s19 : Bool), o16 = .nx s19 ∧ Sk a 49 [(0, .string x0), (23, .bool s19)] ∧ Below w0.heap.size w0 w) ?_ ?_
 ·
  refine x_reg ?_
  refine o_move F rfl rfl (fun a F => ?_)
  refine o_lenStr Tryd.underlying9 F rfl rfl (fun a F => ?_)
  refine o_lss F rfl rfl rfl (fun a F => ?_)
  refine o_move F rfl rfl (fun a F => ?_)
  rcases bcases (decide ((x0.size : Int) < 1)) with hb20 | hb20
  ·
   replace hR := ifT hb20 hR
   have F := F.eq (t := 9) rfl (congrArg Value.bool hb20)
   refine o_no F rfl rfl (fun a F => ?_)
   refine o_no F rfl rfl (fun a F => ?_)
   refine o_no F rfl rfl (fun a F => ?_)
   refine o_pickt F rfl rfl rfl (fun a F => ?_)
   refine o_move F rfl rfl (fun a F => ?_)
   refine o_no F rfl rfl (fun a F => ?_)
   refine o_no F rfl rfl (fun a F => ?_)
   refine o_no F rfl rfl (fun a F => ?_)
   refine o_no F rfl rfl (fun a F => ?_)
   refine o_no F rfl rfl (fun a F => ?_)
   refine o_no F rfl rfl (fun a F => ?_)
   refine o_no F rfl rfl (fun a F => ?_)
   refine o_no F rfl rfl (fun a F => ?_)
   refine o_pickt F rfl rfl rfl (fun a F => ?_)
   refine x_end ?_
   refine x_tn ?_
   exact ⟨true, (Option.some.inj hR).symm, F.sub (sc rfl (sc rfl sn)), hB⟩
  replace hR := ifF hb20 hR
  have F := F.eq (t := 9) rfl (congrArg Value.bool hb20)
  refine o_move F rfl rfl (fun a F => ?_)
  refine o_lenStr Tryd.underlying9 F rfl rfl (fun a F => ?_)
  refine o_gtr F rfl rfl rfl (fun a F => ?_)
  refine o_pickf F rfl rfl rfl (fun a F => ?_)
  refine o_move F rfl rfl (fun a F => ?_)
  rcases bcases (decide (9 < (x0.size : Int))) with hb21 | hb21
  ·
   replace hR := ifT hb21 hR
   have F := F.eq (t := 14) rfl (congrArg Value.bool hb21)
   refine o_no F rfl rfl (fun a F => ?_)
   refine o_no F rfl rfl (fun a F => ?_)
   refine o_no F rfl rfl (fun a F => ?_)
   refine o_no F rfl rfl (fun a F => ?_)
   refine o_no F rfl rfl (fun a F => ?_)
   refine o_no F rfl rfl (fun a F => ?_)
   refine o_no F rfl rfl (fun a F => ?_)
   refine o_no F rfl rfl (fun a F => ?_)
   refine o_pickt F rfl rfl rfl (fun a F => ?_)
   refine x_end ?_
   refine x_tn ?_
   exact ⟨true, (Option.some.inj hR).symm, F.sub (sc rfl (sc rfl sn)), hB⟩
  replace hR := ifF hb21 hR
  have F := F.eq (t := 14) rfl (congrArg Value.bool hb21)
  refine o_move F rfl rfl (fun a F => ?_)
  obtain ⟨z22, c23, hR⟩ := bnd_some hR
  refine o_six Tryd.underlying9 F rfl rfl rfl c23 (fun a F => ?_)
  refine o_eqlU (j := (48 : UInt8)) F rfl rfl rfl (fun a F => ?_)
  refine o_move F rfl rfl (fun a F => ?_)
  rcases bcases ((z22.toNat : Int) == ((48 : UInt8).toNat : Int)) with hb24 | hb24
  ·
   replace hR := ifT hb24 hR
   have F := F.eq (t := 18) rfl (congrArg Value.bool hb24)
   refine o_move F rfl rfl (fun a F => ?_)
   refine o_lenStr Tryd.underlying9 F rfl rfl (fun a F => ?_)
   refine o_gtr F rfl rfl rfl (fun a F => ?_)
   refine o_pickt F rfl rfl rfl (fun a F => ?_)
   refine o_pickf F rfl rfl rfl (fun a F => ?_)
   refine x_end ?_
   refine x_tn ?_
   exact ⟨(decide (1 < (x0.size : Int))), (Option.some.inj hR).symm, F.sub (sc rfl (sc rfl sn)), hB⟩
  replace hR := ifF hb24 hR
  have F := F.eq (t := 18) rfl (congrArg Value.bool hb24)
  refine o_no F rfl rfl (fun a F => ?_)
  refine o_no F rfl rfl (fun a F => ?_)
  refine o_no F rfl rfl (fun a F => ?_)
  refine o_pickf F rfl rfl rfl (fun a F => ?_)
  refine o_pickf F rfl rfl rfl (fun a F => ?_)
  refine x_end ?_
  refine x_tn ?_
  exact ⟨false, (Option.some.inj hR).symm, F.sub (sc rfl (sc rfl sn)), hB⟩
 intro a w ⟨s19, ho18, F, hB⟩
 subst ho18
 have hR := then_nx hk17
 refine x_tn ?_
 refine x_if F rfl (fun hb25 => ?_) (fun hb25 => ?_)
 ·
  replace hR := ifT hb25 hR
  refine x_seq ?_
  refine x_reg ?_
  refine o_assign F rfl rfl (fun a F => ?_)
  refine o_assign F rfl rfl (fun a F => ?_)
  refine x_end ?_
  refine x_tn ?_
  refine x_ret ?_
  refine x_tr ?_
  refine x_res2 F rfl (rv_t F rfl) (rv_t F rfl) ?_
  obtain rfl := Option.some.inj hR
  exact ⟨_, rfl, hB, rfl, (show I64 (0) by decide)⟩
 replace hR := ifF hb25 hR
 refine x_skip ?_
 refine x_tn ?_
 refine x_seq ?_
 refine x_reg ?_
 refine o_assign F rfl rfl (fun a F => ?_)
 refine x_end ?_
 refine x_tn ?_
 refine x_seq ?_
 refine x_seq ?_
 refine x_reg ?_
 refine o_assign F rfl rfl (fun a F => ?_)
 refine x_end ?_
 refine x_tn ?_
 obtain ⟨o45, hR, hk46⟩ := thn_some hR
 refine x_cutQ (fun a w => ∃ (s53 : Int), o45 = .nx s53 ∧ Sk a 49 [(4, .int .i64 s53)] ∧ Below w0.heap.size w0 w ∧ I64 s53) ?_ ?_
 ·
  refine x_blk ?_
  obtain ⟨fl49, hf50, hR⟩ := forI_gen hR
  refine x_loop (fun g a w => ∃ (k55 : Nat) (s51 : Int), k55 + g = (x0.size : Int).toNat ∧ forI fl49 g k55 s51 = some o45 ∧ Sk a 49 [(5, .int .i64 (k55 : Int)), (0, .string x0), (4, .int .i64 s51)] ∧ Below w0.heap.size w0 w ∧ I64 s51) (x0.size : Int).toNat ?_ ?_
  ·
   exact ⟨0, 0, (Nat.zero_add _), hR, F.sub (sc rfl (sc rfl (sc rfl sn))), hB, (show I64 (0) by decide)⟩
  intro g58 a w ⟨k55, s51, hd59, hR, F, hB, i52⟩
  cases g58 with
  | zero =>
   replace hR := forI_zero hR
   have hlk55 := dec_noI hd59
   refine x_seq ?_
   refine x_seq ?_
   refine x_reg ?_
   refine o_move F rfl rfl (fun a F => ?_)
   refine o_move F rfl rfl (fun a F => ?_)
   refine o_lenStr Tryd.underlying9 F rfl rfl (fun a F => ?_)
   refine o_lss F rfl rfl rfl (fun a F => ?_)
   refine x_end ?_
   refine x_tn ?_
   refine x_ifF F rfl hlk55 ?_
   refine x_exit ?_
   refine x_te ?_
   refine x_te ?_
   refine x_be ?_
   refine x_tn ?_
   exact ⟨s51, (Option.some.inj hR).symm, F.sub (sc rfl sn), hB, i52⟩
  | succ g58 =>
   obtain ⟨ck55, hR, hn48⟩ := forI_succ hR
   rw [hf50] at hR
   have hlk55 := dec_yesI hd59
   refine x_seq ?_
   refine x_seq ?_
   refine x_reg ?_
   refine o_move F rfl rfl (fun a F => ?_)
   refine o_move F rfl rfl (fun a F => ?_)
   refine o_lenStr Tryd.underlying9 F rfl rfl (fun a F => ?_)
   refine o_lss F rfl rfl rfl (fun a F => ?_)
   refine x_end ?_
   refine x_tn ?_
   refine x_ifT F rfl hlk55 ?_
   refine x_skip ?_
   refine x_tn ?_
   refine x_seq ?_
   have ikk55 := k64I hd59 (str64 hx0)
   have ink55 := inc64I hd59 (str64 hx0)
   refine x_blk ?_
   refine x_seq ?_
   refine x_seq ?_
   obtain ⟨o64, hR, hk65⟩ := thn_some hR
   refine x_cutQ (fun a w => ∃ (s67 : Bool), o64 = .nx s67 ∧ Sk a 49 [(0, .string x0), (4, .int .i64 s51), (5, .int .i64 (k55 : Int)), (39, .bool s67)] ∧ Below w0.heap.size w0 w) ?_ ?_
   ·
    refine x_reg ?_
    refine o_move F rfl rfl (fun a F => ?_)
    refine o_move F rfl rfl (fun a F => ?_)
    obtain ⟨z68, c69, hR⟩ := bnd_some hR
    refine o_six Tryd.underlying9 F rfl rfl rfl c69 (fun a F => ?_)
    refine o_lssU (j := (48 : UInt8)) F rfl rfl rfl (fun a F => ?_)
    refine o_move F rfl rfl (fun a F => ?_)
    rcases bcases (decide ((z68.toNat : Int) < ((48 : UInt8).toNat : Int))) with hb70 | hb70
    ·
     replace hR := ifT hb70 hR
     have F := F.eq (t := 34) rfl (congrArg Value.bool hb70)
     refine o_no F rfl rfl (fun a F => ?_)
     refine o_no F rfl rfl (fun a F => ?_)
     refine o_no F rfl rfl (fun a F => ?_)
     refine o_no F rfl rfl (fun a F => ?_)
     refine o_pickt F rfl rfl rfl (fun a F => ?_)
     refine x_end ?_
     refine x_tn ?_
     exact ⟨true, (Option.some.inj hR).symm, F.sub (sc rfl (sc rfl (sc rfl (sc rfl sn)))), hB⟩
    replace hR := ifF hb70 hR
    have F := F.eq (t := 34) rfl (congrArg Value.bool hb70)
    refine o_move F rfl rfl (fun a F => ?_)
    refine o_move F rfl rfl (fun a F => ?_)
    refine o_six Tryd.underlying9 F rfl rfl rfl c69 (fun a F => ?_)
    refine o_gtrU (j := (57 : UInt8)) F rfl rfl rfl (fun a F => ?_)
    refine o_pickf F rfl rfl rfl (fun a F => ?_)
    refine x_end ?_
    refine x_tn ?_
    exact ⟨(decide (((57 : UInt8).toNat : Int) < (z68.toNat : Int))), (Option.some.inj hR).symm, F.sub (sc rfl (sc rfl (sc rfl (sc rfl sn)))), hB⟩
   intro a w ⟨s67, ho66, F, hB⟩
   subst ho66
   have hR := then_nx hk65
   refine x_tn ?_
   refine x_if F rfl (fun hb71 => ?_) (fun hb71 => ?_)
   ·
    replace hR := ifT hb71 hR
    refine x_seq ?_
    refine x_reg ?_
    refine o_assign F rfl rfl (fun a F => ?_)
    refine o_assign F rfl rfl (fun a F => ?_)
    refine x_end ?_
    refine x_tn ?_
    refine x_ret ?_
    refine x_tr ?_
    refine x_br ?_
    refine x_tr ?_
    refine x_tr ?_
    replace hR := l_ret hR hn48
    refine x_br ?_
    refine x_tr ?_
    replace hR := j_ret hR hk46
    refine x_tr ?_
    refine x_res2 F rfl (rv_t F rfl) (rv_t F rfl) ?_
    obtain rfl := Option.some.inj hR
    exact ⟨_, rfl, hB, rfl, (show I64 (0) by decide)⟩
   replace hR := ifF hb71 hR
   refine x_skip ?_
   refine x_tn ?_
   refine x_reg ?_
   refine o_move F rfl rfl (fun a F => ?_)
   obtain ⟨z72, c73, hR⟩ := bnd_some hR
   refine o_mul F rfl rfl rfl c73 (fun a F => ?_)
   refine o_move F rfl rfl (fun a F => ?_)
   refine o_move F rfl rfl (fun a F => ?_)
   obtain ⟨z74, c75, hR⟩ := bnd_some hR
   refine o_six Tryd.underlying9 F rfl rfl rfl c75 (fun a F => ?_)
   refine o_subU (j := (48 : UInt8)) F rfl rfl rfl (fun a F => ?_)
   refine o_convI Tryd.underlying5 Tryd.underlying2 F rfl rfl (fun a F => ?_)
   obtain ⟨z76, c77, hR⟩ := bnd_some hR
   refine o_add F rfl rfl rfl c77 (fun a F => ?_)
   refine o_assign F rfl rfl (fun a F => ?_)
   refine x_end ?_
   refine x_bn ?_
   refine x_tn ?_
   refine x_reg ?_
   refine o_move F rfl rfl (fun a F => ?_)
   refine o_inc F rfl rfl rfl ink55 (fun a F => ?_)
   refine o_assign F rfl rfl (fun a F => ?_)
   refine x_end ?_
   refine x_tn ?_
   replace hR := l_go hR hn48
   exact ⟨_, Nat.lt_succ_self _, k55 + 1, z76, (by omega), hR, F.sub (sc rfl (sc rfl (sc rfl sn))), hB, (ck64 c77)⟩
 intro a w ⟨s53, ho47, F, hB, i54⟩
 subst ho47
 have hR := then_nx hk46
 refine x_tn ?_
 refine x_seq ?_
 refine x_reg ?_
 refine o_move F rfl rfl (fun a F => ?_)
 refine o_assign F rfl rfl (fun a F => ?_)
 refine o_assign F rfl rfl (fun a F => ?_)
 refine x_end ?_
 refine x_tn ?_
 refine x_ret ?_
 refine x_res2 F rfl (rv_t F rfl) (rv_t F rfl) ?_
 obtain rfl := Option.some.inj hR
 exact ⟨_, rfl, hB, rfl, i54⟩

def slices_Index_s_string_string (x0 : List ByteArray) (x1 : ByteArray) : Option Int :=
 thn (σ := Unit) (
  forL (σ := Unit) (ρ := Int) (fun (k24 : Nat) (x26 : ByteArray) (s : Unit) =>
    match s with
    | _ =>
    if (sEq x1 x26) then
     some (.ret ((k24 : Int)))
    else
     some (.go ())) x0 0 ()) fun _ =>
 some ((-1))
set_option maxHeartbeats 1000000 in
theorem slices_Index_s_string_string_c {x0 : List ByteArray} {x1 : ByteArray} (r : Int) (hR : slices_Index_s_string_string x0 x1 = some r) {v0 : Value} {b0 : List Nat} (w0 : World) (A0 : Rd (Sl 1 RStr) w0 v0 x0 b0) (hx1 : x1.size ≤ maxLen) : Calls Tryd.prog 9 #[v0, .string x1] w0 (SaysI r w0) := by
 unfold slices_Index_s_string_string at hR
 refine x_enter (L := [(0, v0), (1, .string x1)]) Tryd.func9 rfl rfl rfl (sc rfl (sc rfl sn)) (fun a F => ?_)
 have hB := Below.refl w0.heap.size w0
 refine x_seq ?_
 refine x_reg ?_
 refine o_assign F rfl rfl (fun a F => ?_)
 refine x_end ?_
 refine x_tn ?_
 refine x_seq ?_
 refine x_seq ?_
 refine x_reg ?_
 refine o_move F rfl rfl (fun a F => ?_)
 refine o_len Tryd.underlying30 F rfl rfl (A0.go hB) (fun a F => ?_)
 have i11 := ((A0.go hB)).r.len64
 refine o_move F rfl rfl (fun a F => ?_)
 refine x_end ?_
 refine x_tn ?_
 obtain ⟨o18, hR, hk19⟩ := thn_some hR
 refine x_cutQ (fun a w => o18 = .nx () ∧ Sk a 19 [] ∧ Below w0.heap.size w0 w) ?_ ?_
 ·
  refine x_blk ?_
  obtain ⟨fl22, hf23, hR⟩ := forL_gen hR
  refine x_loop (fun g a w => ∃ (k24 : Nat) (rest25 : List ByteArray), (k24 ≤ x0.length ∧ x0.drop k24 = rest25) ∧ rest25.length = g ∧ forL fl22 rest25 k24 () = some o18 ∧ Sk a 19 [(8, .int .i64 (k24 : Int)), (0, v0), (1, .string x1), (7, .int .i64 (x0.length : Int))] ∧ Below w0.heap.size w0 w) x0.length ?_ ?_
  ·
   exact ⟨0, x0, ⟨Nat.zero_le _, rfl⟩, rfl, hR, F.sub (sc rfl (sc rfl (sc rfl (sc rfl sn)))), hB⟩
  intro g27 a w ⟨k24, rest25, hd28, hg29, hR, F, hB⟩
  cases rest25 with
  | nil =>
   replace hR := forL_nil hR
   have hkk24 := drop_nil hd28.1 hd28.2
   have hlk24 := dec_no hkk24
   refine x_seq ?_
   refine x_reg ?_
   refine o_lss F rfl rfl rfl (fun a F => ?_)
   refine x_end ?_
   refine x_tn ?_
   refine x_seq ?_
   refine x_ifF F rfl hlk24 ?_
   refine x_exit ?_
   refine x_te ?_
   refine x_te ?_
   refine x_be ?_
   refine x_tn ?_
   exact ⟨(Option.some.inj hR).symm, F.sub sn, hB⟩
  | cons x26 rest25 =>
   subst hg29
   replace hd28 := drop_cons hd28.2
   have hxk24 := ix_nat hd28.2.1
   obtain ⟨ck24, hR, hn21⟩ := forL_cons hR
   rw [hf23] at hR
   have hlk24 := dec_yes hd28.1
   refine x_seq ?_
   refine x_reg ?_
   refine o_lss F rfl rfl rfl (fun a F => ?_)
   refine x_end ?_
   refine x_tn ?_
   refine x_seq ?_
   refine x_ifT F rfl hlk24 ?_
   refine x_skip ?_
   refine x_tn ?_
   refine x_seq ?_
   have ikk24 := k64 (Nat.le_of_lt hd28.1) i11
   have ink24 := inc64 hd28.1 i11
   refine x_blk ?_
   refine x_seq ?_
   refine x_reg ?_
   refine o_move F rfl rfl (fun a F => ?_)
   refine o_assign F rfl rfl (fun a F => ?_)
   refine x_end ?_
   refine x_tn ?_
   refine x_seq ?_
   refine x_reg ?_
   refine o_move F rfl rfl (fun a F => ?_)
   refine o_move F rfl rfl (fun a F => ?_)
   refine o_move F rfl rfl (fun a F => ?_)
   refine o_index Tryd.underlying30 Tryd.sizeOf9 F rfl rfl rfl (A0.go hB) hxk24 (fun a p30 b31 h32 s33 F => ?_)
   have i34 := (h32).str
   refine o_loadT Tryd.isAgg9 F rfl rfl h32 (fun a F => ?_)
   refine o_seql F rfl rfl rfl (fun a F => ?_)
   refine x_end ?_
   refine x_tn ?_
   refine x_if F rfl (fun hb35 => ?_) (fun hb35 => ?_)
   ·
    replace hR := ifT hb35 hR
    refine x_seq ?_
    refine x_reg ?_
    refine o_move F rfl rfl (fun a F => ?_)
    refine o_assign F rfl rfl (fun a F => ?_)
    refine x_end ?_
    refine x_tn ?_
    refine x_ret ?_
    refine x_br ?_
    refine x_tr ?_
    refine x_tr ?_
    replace hR := l_ret hR hn21
    refine x_br ?_
    refine x_tr ?_
    replace hR := j_ret hR hk19
    refine x_tr ?_
    refine x_res1 F rfl (rv_t F rfl) ?_
    obtain rfl := Option.some.inj hR
    exact ⟨⟨rfl, hB⟩, ikk24⟩
   replace hR := ifF hb35 hR
   refine x_skip ?_
   refine x_bn ?_
   refine x_tn ?_
   refine x_reg ?_
   refine o_inc F rfl rfl rfl ink24 (fun a F => ?_)
   refine o_move F rfl rfl (fun a F => ?_)
   refine x_end ?_
   refine x_tn ?_
   replace hR := l_go hR hn21
   exact ⟨_, Nat.lt_succ_self _, k24 + 1, rest25, ⟨hd28.1, hd28.2.2⟩, rfl, hR, F.sub (sc rfl (sc rfl (sc rfl (sc rfl sn)))), hB⟩
 intro a w ⟨ho20, F, hB⟩
 subst ho20
 have hR := then_nx hk19
 refine x_tn ?_
 refine x_seq ?_
 refine x_reg ?_
 refine o_assign F rfl rfl (fun a F => ?_)
 refine x_end ?_
 refine x_tn ?_
 refine x_ret ?_
 refine x_res1 F rfl (rv_t F rfl) ?_
 obtain rfl := Option.some.inj hR
 exact ⟨⟨rfl, hB⟩, (show I64 (-1) by decide)⟩
end Go.Proofs.YtbgkhipclkhlcaaDoor
