/-
  Functions of the program as plain functions, and that they compute them. Printed by fxio.py.
-/
import Derived.Test.YtjjdbdlbjdoebaaDoorS3
import Derived.Test.YtjjdbdlbjdoebaaDoorER
import Derived.Test.YtjjdbdlbjdoebaaDoorBP
namespace Go.Proofs.YtjjdbdlbjdoebaaDoor
set_option linter.unusedVariables false
set_option linter.unusedSimpArgs false
set_option maxRecDepth 100000
open Go.RowKit
def impl_readNumber (x0 : ByteArray) : Option Int :=
 bnd (strconv_ParseInt x0 10 64) fun z11 =>
 thn (σ := Bool) (
  if (!z11.2) then  some (.nx true) else  if (decide (z11.1 < 0)) then  some (.nx true) else  bnd (impl_dec z11.1) fun z29 =>
    some (.nx (!sEq z29 x0))) fun s26 =>
 if s26 then
  some ((-2))
 else
  some z11.1
set_option maxHeartbeats 1000000 in
theorem impl_readNumber_c {x0 : ByteArray} (r : Int) (hR : impl_readNumber x0 = some r)  (w0 : World) (hG : GloE w0) (hx0 : x0.size ≤ maxLen) : Calls Tryd.prog 56 #[.string x0] w0 (SaysI r w0) := by
 unfold impl_readNumber at hR
 refine x_enter (L := [(0, .string x0)]) Tryd.func56 rfl rfl rfl (sc rfl sn) (fun a F => ?_)
 have hB := Below.refl w0.heap.size w0
 refine x_seq ?_
 refine x_reg ?_
 refine o_assign F rfl rfl (fun a F => ?_)
 refine x_end ?_
 refine x_tn ?_
 refine x_seq ?_
 refine x_reg ?_
 refine o_move F rfl rfl (fun a F => ?_)
 obtain ⟨z11, c12, hR⟩ := bnd_some hR
 refine o_gives F rfl Tryd.call77 rfl (strconv_ParseInt_c z11 c12 _ (hG.go hB) hx0 (show I64 (10) by decide) (show I64 (64) by decide)) (fun a vv w l ⟨v14, hv16, i13, hE15⟩ F => ?_)
 subst vv
 replace hB := Below.through l hB
 refine o_move F rfl rfl (fun a F => ?_)
 refine o_extract F rfl rfl rfl (fun a F => ?_)
 refine o_extract F rfl rfl rfl (fun a F => ?_)
 refine o_assign F rfl rfl (fun a F => ?_)
 refine o_assign F rfl rfl (fun a F => ?_)
 refine x_end ?_
 refine x_tn ?_
 refine x_seq ?_
 refine x_seq ?_
 obtain ⟨o23, hR, hk24⟩ := thn_some hR
 refine x_cutQ (fun a w => ∃ (s26 : Bool), o23 = .nx s26 ∧ Sk a 23 [(3, .int .i64 z11.1), (21, .bool s26)] ∧ Below w0.heap.size w0 w) ?_ ?_
 ·
  refine x_reg ?_
  refine o_move F rfl rfl (fun a F => ?_)
  refine o_errne (by kernel_rfl) F rfl rfl hE15 (fun a F => ?_)
  refine o_move F rfl rfl (fun a F => ?_)
  rcases bcases (!z11.2) with hb27 | hb27
  ·
   replace hR := ifT hb27 hR
   have F := F.eq (t := 12) rfl (congrArg Value.bool hb27)
   refine o_no F rfl rfl (fun a F => ?_)
   refine o_no F rfl rfl (fun a F => ?_)
   refine o_pickt F rfl rfl rfl (fun a F => ?_)
   refine o_move F rfl rfl (fun a F => ?_)
   refine o_no F rfl rfl (fun a F => ?_)
   refine o_no F rfl rfl (fun a F => ?_)
   refine o_no F rfl rfl (fun a F => ?_)
   refine o_no F rfl rfl (fun a F => ?_)
   refine o_pickt F rfl rfl rfl (fun a F => ?_)
   refine x_end ?_
   refine x_tn ?_
   exact ⟨true, (Option.some.inj hR).symm, F.sub (sc rfl (sc rfl sn)), hB⟩
  replace hR := ifF hb27 hR
  have F := F.eq (t := 12) rfl (congrArg Value.bool hb27)
  refine o_move F rfl rfl (fun a F => ?_)
  refine o_lss F rfl rfl rfl (fun a F => ?_)
  refine o_pickf F rfl rfl rfl (fun a F => ?_)
  refine o_move F rfl rfl (fun a F => ?_)
  rcases bcases (decide (z11.1 < 0)) with hb28 | hb28
  ·
   replace hR := ifT hb28 hR
   have F := F.eq (t := 16) rfl (congrArg Value.bool hb28)
   refine o_no F rfl rfl (fun a F => ?_)
   refine o_no F rfl rfl (fun a F => ?_)
   refine o_no F rfl rfl (fun a F => ?_)
   refine o_no F rfl rfl (fun a F => ?_)
   refine o_pickt F rfl rfl rfl (fun a F => ?_)
   refine x_end ?_
   refine x_tn ?_
   exact ⟨true, (Option.some.inj hR).symm, F.sub (sc rfl (sc rfl sn)), hB⟩
  replace hR := ifF hb28 hR
  have F := F.eq (t := 16) rfl (congrArg Value.bool hb28)
  refine o_move F rfl rfl (fun a F => ?_)
  obtain ⟨z29, c30, hR⟩ := bnd_some hR
  refine o_gives F rfl Tryd.call45 rfl (impl_dec_c z29 c30 _ (hG.go hB).toGlo i13) (fun a vv w l ⟨hv32, i31⟩ F => ?_)
  subst vv
  replace hB := Below.through l hB
  refine o_move F rfl rfl (fun a F => ?_)
  refine o_sneq F rfl rfl rfl (fun a F => ?_)
  refine o_pickf F rfl rfl rfl (fun a F => ?_)
  refine x_end ?_
  refine x_tn ?_
  exact ⟨(!sEq z29 x0), (Option.some.inj hR).symm, F.sub (sc rfl (sc rfl sn)), hB⟩
 intro a w ⟨s26, ho25, F, hB⟩
 subst ho25
 have hR := then_nx hk24
 refine x_tn ?_
 refine x_if F rfl (fun hb33 => ?_) (fun hb33 => ?_)
 ·
  replace hR := ifT hb33 hR
  refine x_seq ?_
  refine x_reg ?_
  refine o_assign F rfl rfl (fun a F => ?_)
  refine x_end ?_
  refine x_tn ?_
  refine x_ret ?_
  refine x_tr ?_
  refine x_res1 F rfl (rv_t F rfl) ?_
  obtain rfl := Option.some.inj hR
  exact ⟨⟨rfl, hB⟩, (show I64 (-2) by decide)⟩
 replace hR := ifF hb33 hR
 refine x_skip ?_
 refine x_tn ?_
 refine x_seq ?_
 refine x_reg ?_
 refine o_move F rfl rfl (fun a F => ?_)
 refine o_assign F rfl rfl (fun a F => ?_)
 refine x_end ?_
 refine x_tn ?_
 refine x_ret ?_
 refine x_res1 F rfl (rv_t F rfl) ?_
 obtain rfl := Option.some.inj hR
 exact ⟨⟨rfl, hB⟩, i13⟩

def spec_l01Split (x0 : ByteArray) (x1 : UInt8) : Option (List ByteArray) :=
 thn (σ := (List ByteArray) × Int) (
  forI (σ := (List ByteArray) × Int) (ρ := (List ByteArray)) (fun (k61 : Nat) (s : (List ByteArray) × Int) =>
    match s with
    | (s47, s52) =>
    bnd (six x0 (k61 : Int)) fun z67 =>
    if ((z67.toNat : Int) == (x1.toNat : Int)) then
     bnd (ssl x0 s52 (k61 : Int)) fun z70 =>
     bnd (ap s47 ([z70])) fun z78 =>
     bnd (ck ((k61 : Int) + 1)) fun z84 =>
     some (.go (z78, z84))
    else
     some (.go (s47, s52))) (x0.size : Int).toNat 0 ([], 0)) fun (s54, s59) =>
 bnd (ssl x0 s59 (x0.size : Int)) fun z86 =>
 bnd (ap s54 ([z86])) fun z94 =>
 some z94
set_option maxHeartbeats 1000000 in
theorem spec_l01Split_c {x0 : ByteArray} {x1 : UInt8} (r : (List ByteArray)) (hR : spec_l01Split x0 x1 = some r)  (w0 : World) (hx0 : x0.size ≤ maxLen) : Calls Tryd.prog 52 #[.string x0, .int .u8 (x1).toNat] w0 (Gives (fun v w' => ∃ (v1' : Value) (rb2' : List Nat), v = v1' ∧ Row 1 RStr 9 w0.heap.size w' v1' r rb2' []) w0) := by
 unfold spec_l01Split at hR
 refine x_enter (L := [(0, .string x0), (1, .int .u8 (x1).toNat)]) Tryd.func52 rfl rfl rfl (sc rfl (sc rfl sn)) (fun a F => ?_)
 have hB := Below.refl w0.heap.size w0
 refine x_seq ?_
 refine x_reg ?_
 refine o_assign F rfl rfl (fun a F => ?_)
 refine x_end ?_
 refine x_tn ?_
 refine x_seq ?_
 refine x_reg ?_
 refine o_lit0 (R := RStr) Tryd.underlying63 Tryd.sizeOf9 F rfl (fun a w v11 rb12 h13 l F => ?_)
 replace h13 := h13.base hB.size
 replace hB := Below.through l hB
 refine o_assign F rfl rfl (fun a F => ?_)
 refine x_end ?_
 refine x_tn ?_
 refine x_seq ?_
 refine x_reg ?_
 refine o_assign F rfl rfl (fun a F => ?_)
 refine x_end ?_
 refine x_tn ?_
 refine x_seq ?_
 refine x_seq ?_
 refine x_reg ?_
 refine o_assign F rfl rfl (fun a F => ?_)
 refine x_end ?_
 refine x_tn ?_
 obtain ⟨o41, hR, hk42⟩ := thn_some hR
 refine x_cutQ (fun a w => ∃ (s54 : List ByteArray) (v57 : Value) (rb58 : List Nat) (s59 : Int), o41 = .nx (s54, s59) ∧ Sk a 35 [(0, .string x0), (5, v57), (6, .int .i64 s59)] ∧ Below w0.heap.size w0 w ∧ Row 1 RStr 9 w0.heap.size w v57 s54 rb58 ([]) ∧ I64 s59) ?_ ?_
 ·
  refine x_blk ?_
  obtain ⟨fl45, hf46, hR⟩ := forI_gen hR
  refine x_loop (fun g a w => ∃ (k61 : Nat) (s47 : List ByteArray) (v50 : Value) (rb51 : List Nat) (s52 : Int), k61 + g = (x0.size : Int).toNat ∧ forI fl45 g k61 (s47, s52) = some o41 ∧ Sk a 35 [(7, .int .i64 (k61 : Int)), (0, .string x0), (1, .int .u8 (x1).toNat), (5, v50), (6, .int .i64 s52)] ∧ Below w0.heap.size w0 w ∧ Row 1 RStr 9 w0.heap.size w v50 s47 rb51 ([]) ∧ I64 s52) (x0.size : Int).toNat ?_ ?_
  ·
   exact ⟨0, [], v11, rb12, 0, (Nat.zero_add _), hR, F.sub (sc rfl (sc rfl (sc rfl (sc rfl (sc rfl sn))))), hB, h13, (show I64 (0) by decide)⟩
  intro g64 a w ⟨k61, s47, v50, rb51, s52, hd65, hR, F, hB, h49, i53⟩
  cases g64 with
  | zero =>
   replace hR := forI_zero hR
   have hlk61 := dec_noI hd65
   refine x_seq ?_
   refine x_seq ?_
   refine x_reg ?_
   refine o_move F rfl rfl (fun a F => ?_)
   refine o_move F rfl rfl (fun a F => ?_)
   refine o_lenStr Tryd.underlying9 F rfl rfl (fun a F => ?_)
   refine o_lss F rfl rfl rfl (fun a F => ?_)
   refine x_end ?_
   refine x_tn ?_
   refine x_ifF F rfl hlk61 ?_
   refine x_exit ?_
   refine x_te ?_
   refine x_te ?_
   refine x_be ?_
   refine x_tn ?_
   exact ⟨s47, v50, rb51, s52, (Option.some.inj hR).symm, F.sub (sc rfl (sc rfl (sc rfl sn))), hB, h49, i53⟩
  | succ g64 =>
   obtain ⟨ck61, hR, hn44⟩ := forI_succ hR
   rw [hf46] at hR
   have hlk61 := dec_yesI hd65
   refine x_seq ?_
   refine x_seq ?_
   refine x_reg ?_
   refine o_move F rfl rfl (fun a F => ?_)
   refine o_move F rfl rfl (fun a F => ?_)
   refine o_lenStr Tryd.underlying9 F rfl rfl (fun a F => ?_)
   refine o_lss F rfl rfl rfl (fun a F => ?_)
   refine x_end ?_
   refine x_tn ?_
   refine x_ifT F rfl hlk61 ?_
   refine x_skip ?_
   refine x_tn ?_
   refine x_seq ?_
   have ikk61 := k64I hd65 (str64 hx0)
   have ink61 := inc64I hd65 (str64 hx0)
   refine x_blk ?_
   refine x_seq ?_
   refine x_reg ?_
   refine o_move F rfl rfl (fun a F => ?_)
   refine o_move F rfl rfl (fun a F => ?_)
   obtain ⟨z67, c68, hR⟩ := bnd_some hR
   refine o_six Tryd.underlying9 F rfl rfl rfl c68 (fun a F => ?_)
   refine o_move F rfl rfl (fun a F => ?_)
   refine o_eqlU F rfl rfl rfl (fun a F => ?_)
   refine x_end ?_
   refine x_tn ?_
   refine x_if F rfl (fun hb69 => ?_) (fun hb69 => ?_)
   ·
    replace hR := ifT hb69 hR
    refine x_seq ?_
    refine x_reg ?_
    refine o_move F rfl rfl (fun a F => ?_)
    refine o_move F rfl rfl (fun a F => ?_)
    refine o_move F rfl rfl (fun a F => ?_)
    refine o_move F rfl rfl (fun a F => ?_)
    obtain ⟨z70, c71, hR⟩ := bnd_some hR
    refine o_ssllh Tryd.underlying9 F rfl rfl rfl rfl c71 (fun a F => ?_)
    refine o_lit1 (R := RStr) (y := z70) Tryd.underlying63 Tryd.sizeOf9 Tryd.zeroValue9 rfl (by decide) (by decide) F rfl rfl (El.str (ssl_sz c71 hx0)) (fun a w v72 rb73 h74 l F => ?_)
    have d76 := Dj.new h49.rd.m h74.ownR (Nat.le_refl _)
    have d77 := Dj.app' (Dj.new h49.memR h74.ownR (Nat.le_refl _)).symm (Dj.nil' _)
    replace h74 := h74.base hB.size
    replace hB := Below.through l hB
    replace h49 := h49.go l
    obtain ⟨z78, c79, hR⟩ := bnd_some hR
    refine o_append (sz := 1) (R := RStr) (z := (.string ByteArray.empty)) (bytes := 16) Tryd.underlying63 (by kernel_rfl) rfl (by decide) (by decide) (by decide) F rfl rfl rfl h49 h74.src hB.size (Dj.nil _) c79 (fun a w v80 rb81 h82 l keep F => ?_)
    replace h82 := row_nil2 h82
    replace hB := hB.o l h49.lo hB.size
    refine o_assign F rfl rfl (fun a F => ?_)
    refine x_end ?_
    refine x_tn ?_
    refine x_reg ?_
    refine o_move F rfl rfl (fun a F => ?_)
    obtain ⟨z84, c85, hR⟩ := bnd_some hR
    refine o_add F rfl rfl rfl c85 (fun a F => ?_)
    refine o_assign F rfl rfl (fun a F => ?_)
    refine x_end ?_
    refine x_bn ?_
    refine x_tn ?_
    refine x_reg ?_
    refine o_move F rfl rfl (fun a F => ?_)
    refine o_inc F rfl rfl rfl ink61 (fun a F => ?_)
    refine o_assign F rfl rfl (fun a F => ?_)
    refine x_end ?_
    refine x_tn ?_
    replace hR := l_go hR hn44
    exact ⟨_, Nat.lt_succ_self _, k61 + 1, z78, v80, rb81, z84, (by omega), hR, F.sub (sc rfl (sc rfl (sc rfl (sc rfl (sc rfl sn))))), hB, h82, (ck64 c85)⟩
   replace hR := ifF hb69 hR
   refine x_skip ?_
   refine x_bn ?_
   refine x_tn ?_
   refine x_reg ?_
   refine o_move F rfl rfl (fun a F => ?_)
   refine o_inc F rfl rfl rfl ink61 (fun a F => ?_)
   refine o_assign F rfl rfl (fun a F => ?_)
   refine x_end ?_
   refine x_tn ?_
   replace hR := l_go hR hn44
   exact ⟨_, Nat.lt_succ_self _, k61 + 1, s47, v50, rb51, s52, (by omega), hR, F.sub (sc rfl (sc rfl (sc rfl (sc rfl (sc rfl sn))))), hB, h49, i53⟩
 intro a w ⟨s54, v57, rb58, s59, ho43, F, hB, h56, i60⟩
 subst ho43
 have hR := then_nx hk42
 refine x_tn ?_
 refine x_seq ?_
 refine x_reg ?_
 refine o_move F rfl rfl (fun a F => ?_)
 refine o_move F rfl rfl (fun a F => ?_)
 refine o_move F rfl rfl (fun a F => ?_)
 obtain ⟨z86, c87, hR⟩ := bnd_some hR
 refine o_ssll Tryd.underlying9 F rfl rfl rfl c87 (fun a F => ?_)
 refine o_lit1 (R := RStr) (y := z86) Tryd.underlying63 Tryd.sizeOf9 Tryd.zeroValue9 rfl (by decide) (by decide) F rfl rfl (El.str (ssl_sz c87 hx0)) (fun a w v88 rb89 h90 l F => ?_)
 have d92 := Dj.new h56.rd.m h90.ownR (Nat.le_refl _)
 have d93 := Dj.app' (Dj.new h56.memR h90.ownR (Nat.le_refl _)).symm (Dj.nil' _)
 replace h90 := h90.base hB.size
 replace hB := Below.through l hB
 replace h56 := h56.go l
 obtain ⟨z94, c95, hR⟩ := bnd_some hR
 refine o_append (sz := 1) (R := RStr) (z := (.string ByteArray.empty)) (bytes := 16) Tryd.underlying63 (by kernel_rfl) rfl (by decide) (by decide) (by decide) F rfl rfl rfl h56 h90.src hB.size (Dj.nil _) c95 (fun a w v96 rb97 h98 l keep F => ?_)
 replace h98 := row_nil2 h98
 replace hB := hB.o l h56.lo hB.size
 refine o_assign F rfl rfl (fun a F => ?_)
 refine x_end ?_
 refine x_tn ?_
 refine x_ret ?_
 refine x_res1 F rfl (rv_t F rfl) ?_
 obtain rfl := Option.some.inj hR
 exact ⟨_, rfl, hB, v96, rb97, rfl, h98⟩

def spec_l01Number (x0 : ByteArray) : Option (Int × Bool) :=
 thn (σ := Bool) (
  if (decide ((x0.size : Int) < 1)) then  some (.nx true) else  if (decide (9 < (x0.size : Int))) then  some (.nx true) else  bnd (six x0 0) fun z22 =>
    if ((z22.toNat : Int) == ((48 : UInt8).toNat : Int)) then  some (.nx (decide (1 < (x0.size : Int)))) else  some (.nx false)) fun s19 =>
 if s19 then
  some (0, false)
 else
  thn (σ := Int) (
   forI (σ := Int) (ρ := Int × Bool) (fun (k55 : Nat) (s51 : Int) =>
    thn (σ := Bool) (
     bnd (six x0 (k55 : Int)) fun z68 =>
     if (decide ((z68.toNat : Int) < ((48 : UInt8).toNat : Int))) then  some (.nx true) else  some (.nx (decide (((57 : UInt8).toNat : Int) < (z68.toNat : Int))))) fun s67 =>
    if s67 then
     some (.ret (0, false))
    else
     bnd (ck (s51 * 10)) fun z72 =>
     bnd (six x0 (k55 : Int)) fun z74 =>
     bnd (ck (z72 + ((u8w ((z74.toNat : Int) - ((48 : UInt8).toNat : Int))).toNat : Int))) fun z76 =>
     some (.go z76)) (x0.size : Int).toNat 0 0) fun s53 =>
  some (s53, true)
set_option maxHeartbeats 1000000 in
theorem spec_l01Number_c {x0 : ByteArray} (r : Int × Bool) (hR : spec_l01Number x0 = some r)  (w0 : World) (hx0 : x0.size ≤ maxLen) : Calls Tryd.prog 53 #[.string x0] w0 (Gives (fun v w' => v = .tuple #[.int .i64 r.1, .bool r.2] ∧ I64 r.1) w0) := by
 unfold spec_l01Number at hR
 refine x_enter (L := [(0, .string x0)]) Tryd.func53 rfl rfl rfl (sc rfl sn) (fun a F => ?_)
 have hB := Below.refl w0.heap.size w0
 refine x_seq ?_
 refine x_reg ?_
 refine o_assign F rfl rfl (fun a F => ?_)
 refine o_assign F rfl rfl (fun a F => ?_)
 refine x_end ?_
 refine x_tn ?_
 refine x_seq ?_
 refine x_seq ?_
 obtain ⟨o16, hR, hk17⟩ := thn_some hR
 refine x_cutQ (fun a w => ∃ (s19 : Bool), o16 = .nx s19 ∧ Sk a 49 [(0, .string x0), (23, .bool s19)] ∧ Below w0.heap.size w0 w) ?_ ?_
 ·
  refine x_reg ?_
  refine o_move F rfl rfl (fun a F => ?_)
  refine o_lenStr Tryd.underlying9 F rfl rfl (fun a F => ?_)
  refine o_lss F rfl rfl rfl (fun a F => ?_)
  refine o_move F rfl rfl (fun a F => ?_)
  rcases bcases (decide ((x0.size : Int) < 1)) with hb20 | hb20
  ·
   replace hR := ifT hb20 hR
   have F := F.eq (t := 9) rfl (congrArg Value.bool hb20)
   refine o_no F rfl rfl (fun a F => ?_)
   refine o_no F rfl rfl (fun a F => ?_)
   refine o_no F rfl rfl (fun a F => ?_)
   refine o_pickt F rfl rfl rfl (fun a F => ?_)
   refine o_move F rfl rfl (fun a F => ?_)
   refine o_no F rfl rfl (fun a F => ?_)
   refine o_no F rfl rfl (fun a F => ?_)
   refine o_no F rfl rfl (fun a F => ?_)
   refine o_no F rfl rfl (fun a F => ?_)
   refine o_no F rfl rfl (fun a F => ?_)
   refine o_no F rfl rfl (fun a F => ?_)
   refine o_no F rfl rfl (fun a F => ?_)
   refine o_no F rfl rfl (fun a F => ?_)
   refine o_pickt F rfl rfl rfl (fun a F => ?_)
   refine x_end ?_
   refine x_tn ?_
   exact ⟨true, (Option.some.inj hR).symm, F.sub (sc rfl (sc rfl sn)), hB⟩
  replace hR := ifF hb20 hR
  have F := F.eq (t := 9) rfl (congrArg Value.bool hb20)
  refine o_move F rfl rfl (fun a F => ?_)
  refine o_lenStr Tryd.underlying9 F rfl rfl (fun a F => ?_)
  refine o_gtr F rfl rfl rfl (fun a F => ?_)
  refine o_pickf F rfl rfl rfl (fun a F => ?_)
  refine o_move F rfl rfl (fun a F => ?_)
  rcases bcases (decide (9 < (x0.size : Int))) with hb21 | hb21
  ·
   replace hR := ifT hb21 hR
   have F := F.eq (t := 14) rfl (congrArg Value.bool hb21)
   refine o_no F rfl rfl (fun a F => ?_)
   refine o_no F rfl rfl (fun a F => ?_)
   refine o_no F rfl rfl (fun a F => ?_)
   refine o_no F rfl rfl (fun a F => ?_)
   refine o_no F rfl rfl (fun a F => ?_)
   refine o_no F rfl rfl (fun a F => ?_)
   refine o_no F rfl rfl (fun a F => ?_)
   refine o_no F rfl rfl (fun a F => ?_)
   refine o_pickt F rfl rfl rfl (fun a F => ?_)
   refine x_end ?_
   refine x_tn ?_
   exact ⟨true, (Option.some.inj hR).symm, F.sub (sc rfl (sc rfl sn)), hB⟩
  replace hR := ifF hb21 hR
  have F := F.eq (t := 14) rfl (congrArg Value.bool hb21)
  refine o_move F rfl rfl (fun a F => ?_)
  obtain ⟨z22, c23, hR⟩ := bnd_some hR
  refine o_six Tryd.underlying9 F rfl rfl rfl c23 (fun a F => ?_)
  refine o_eqlU (j := (48 : UInt8)) F rfl rfl rfl (fun a F => ?_)
  refine o_move F rfl rfl (fun a F => ?_)
  rcases bcases ((z22.toNat : Int) == ((48 : UInt8).toNat : Int)) with hb24 | hb24
  ·
   replace hR := ifT hb24 hR
   have F := F.eq (t := 18) rfl (congrArg Value.bool hb24)
   refine o_move F rfl rfl (fun a F => ?_)
   refine o_lenStr Tryd.underlying9 F rfl rfl (fun a F => ?_)
   refine o_gtr F rfl rfl rfl (fun a F => ?_)
   refine o_pickt F rfl rfl rfl (fun a F => ?_)
   refine o_pickf F rfl rfl rfl (fun a F => ?_)
   refine x_end ?_
   refine x_tn ?_
   exact ⟨(decide (1 < (x0.size : Int))), (Option.some.inj hR).symm, F.sub (sc rfl (sc rfl sn)), hB⟩
  replace hR := ifF hb24 hR
  have F := F.eq (t := 18) rfl (congrArg Value.bool hb24)
  refine o_no F rfl rfl (fun a F => ?_)
  refine o_no F rfl rfl (fun a F => ?_)
  refine o_no F rfl rfl (fun a F => ?_)
  refine o_pickf F rfl rfl rfl (fun a F => ?_)
  refine o_pickf F rfl rfl rfl (fun a F => ?_)
  refine x_end ?_
  refine x_tn ?_
  exact ⟨false, (Option.some.inj hR).symm, F.sub (sc rfl (sc rfl sn)), hB⟩
 intro a w ⟨s19, ho18, F, hB⟩
 subst ho18
 have hR := then_nx hk17
 refine x_tn ?_
 refine x_if F rfl (fun hb25 => ?_) (fun hb25 => ?_)
 ·
  replace hR := ifT hb25 hR
  refine x_seq ?_
  refine x_reg ?_
  refine o_assign F rfl rfl (fun a F => ?_)
  refine o_assign F rfl rfl (fun a F => ?_)
  refine x_end ?_
  refine x_tn ?_
  refine x_ret ?_
  refine x_tr ?_
  refine x_res2 F rfl (rv_t F rfl) (rv_t F rfl) ?_
  obtain rfl := Option.some.inj hR
  exact ⟨_, rfl, hB, rfl, (show I64 (0) by decide)⟩
 replace hR := ifF hb25 hR
 refine x_skip ?_
 refine x_tn ?_
 refine x_seq ?_
 refine x_reg ?_
 refine o_assign F rfl rfl (fun a F => ?_)
 refine x_end ?_
 refine x_tn ?_
 refine x_seq ?_
 refine x_seq ?_
 refine x_reg ?_
 refine o_assign F rfl rfl (fun a F => ?_)
 refine x_end ?_
 refine x_tn ?_
 obtain ⟨o45, hR, hk46⟩ := thn_some hR
 refine x_cutQ (fun a w => ∃ (s53 : Int), o45 = .nx s53 ∧ Sk a 49 [(4, .int .i64 s53)] ∧ Below w0.heap.size w0 w ∧ I64 s53) ?_ ?_
 ·
  refine x_blk ?_
  obtain ⟨fl49, hf50, hR⟩ := forI_gen hR
  refine x_loop (fun g a w => ∃ (k55 : Nat) (s51 : Int), k55 + g = (x0.size : Int).toNat ∧ forI fl49 g k55 s51 = some o45 ∧ Sk a 49 [(5, .int .i64 (k55 : Int)), (0, .string x0), (4, .int .i64 s51)] ∧ Below w0.heap.size w0 w ∧ I64 s51) (x0.size : Int).toNat ?_ ?_
  ·
   exact ⟨0, 0, (Nat.zero_add _), hR, F.sub (sc rfl (sc rfl (sc rfl sn))), hB, (show I64 (0) by decide)⟩
  intro g58 a w ⟨k55, s51, hd59, hR, F, hB, i52⟩
  cases g58 with
  | zero =>
   replace hR := forI_zero hR
   have hlk55 := dec_noI hd59
   refine x_seq ?_
   refine x_seq ?_
   refine x_reg ?_
   refine o_move F rfl rfl (fun a F => ?_)
   refine o_move F rfl rfl (fun a F => ?_)
   refine o_lenStr Tryd.underlying9 F rfl rfl (fun a F => ?_)
   refine o_lss F rfl rfl rfl (fun a F => ?_)
   refine x_end ?_
   refine x_tn ?_
   refine x_ifF F rfl hlk55 ?_
   refine x_exit ?_
   refine x_te ?_
   refine x_te ?_
   refine x_be ?_
   refine x_tn ?_
   exact ⟨s51, (Option.some.inj hR).symm, F.sub (sc rfl sn), hB, i52⟩
  | succ g58 =>
   obtain ⟨ck55, hR, hn48⟩ := forI_succ hR
   rw [hf50] at hR
   have hlk55 := dec_yesI hd59
   refine x_seq ?_
   refine x_seq ?_
   refine x_reg ?_
   refine o_move F rfl rfl (fun a F => ?_)
   refine o_move F rfl rfl (fun a F => ?_)
   refine o_lenStr Tryd.underlying9 F rfl rfl (fun a F => ?_)
   refine o_lss F rfl rfl rfl (fun a F => ?_)
   refine x_end ?_
   refine x_tn ?_
   refine x_ifT F rfl hlk55 ?_
   refine x_skip ?_
   refine x_tn ?_
   refine x_seq ?_
   have ikk55 := k64I hd59 (str64 hx0)
   have ink55 := inc64I hd59 (str64 hx0)
   refine x_blk ?_
   refine x_seq ?_
   refine x_seq ?_
   obtain ⟨o64, hR, hk65⟩ := thn_some hR
   refine x_cutQ (fun a w => ∃ (s67 : Bool), o64 = .nx s67 ∧ Sk a 49 [(0, .string x0), (4, .int .i64 s51), (5, .int .i64 (k55 : Int)), (39, .bool s67)] ∧ Below w0.heap.size w0 w) ?_ ?_
   ·
    refine x_reg ?_
    refine o_move F rfl rfl (fun a F => ?_)
    refine o_move F rfl rfl (fun a F => ?_)
    obtain ⟨z68, c69, hR⟩ := bnd_some hR
    refine o_six Tryd.underlying9 F rfl rfl rfl c69 (fun a F => ?_)
    refine o_lssU (j := (48 : UInt8)) F rfl rfl rfl (fun a F => ?_)
    refine o_move F rfl rfl (fun a F => ?_)
    rcases bcases (decide ((z68.toNat : Int) < ((48 : UInt8).toNat : Int))) with hb70 | hb70
    ·
     replace hR := ifT hb70 hR
     have F := F.eq (t := 34) rfl (congrArg Value.bool hb70)
     refine o_no F rfl rfl (fun a F => ?_)
     refine o_no F rfl rfl (fun a F => ?_)
     refine o_no F rfl rfl (fun a F => ?_)
     refine o_no F rfl rfl (fun a F => ?_)
     refine o_pickt F rfl rfl rfl (fun a F => ?_)
     refine x_end ?_
     refine x_tn ?_
     exact ⟨true, (Option.some.inj hR).symm, F.sub (sc rfl (sc rfl (sc rfl (sc rfl sn)))), hB⟩
    replace hR := ifF hb70 hR
    have F := F.eq (t := 34) rfl (congrArg Value.bool hb70)
    refine o_move F rfl rfl (fun a F => ?_)
    refine o_move F rfl rfl (fun a F => ?_)
    refine o_six Tryd.underlying9 F rfl rfl rfl c69 (fun a F => ?_)
    refine o_gtrU (j := (57 : UInt8)) F rfl rfl rfl (fun a F => ?_)
    refine o_pickf F rfl rfl rfl (fun a F => ?_)
    refine x_end ?_
    refine x_tn ?_
    exact ⟨(decide (((57 : UInt8).toNat : Int) < (z68.toNat : Int))), (Option.some.inj hR).symm, F.sub (sc rfl (sc rfl (sc rfl (sc rfl sn)))), hB⟩
   intro a w ⟨s67, ho66, F, hB⟩
   subst ho66
   have hR := then_nx hk65
   refine x_tn ?_
   refine x_if F rfl (fun hb71 => ?_) (fun hb71 => ?_)
   ·
    replace hR := ifT hb71 hR
    refine x_seq ?_
    refine x_reg ?_
    refine o_assign F rfl rfl (fun a F => ?_)
    refine o_assign F rfl rfl (fun a F => ?_)
    refine x_end ?_
    refine x_tn ?_
    refine x_ret ?_
    refine x_tr ?_
    refine x_br ?_
    refine x_tr ?_
    refine x_tr ?_
    replace hR := l_ret hR hn48
    refine x_br ?_
    refine x_tr ?_
    replace hR := j_ret hR hk46
    refine x_tr ?_
    refine x_res2 F rfl (rv_t F rfl) (rv_t F rfl) ?_
    obtain rfl := Option.some.inj hR
    exact ⟨_, rfl, hB, rfl, (show I64 (0) by decide)⟩
   replace hR := ifF hb71 hR
   refine x_skip ?_
   refine x_tn ?_
   refine x_reg ?_
   refine o_move F rfl rfl (fun a F => ?_)
   obtain ⟨z72, c73, hR⟩ := bnd_some hR
   refine o_mul F rfl rfl rfl c73 (fun a F => ?_)
   refine o_move F rfl rfl (fun a F => ?_)
   refine o_move F rfl rfl (fun a F => ?_)
   obtain ⟨z74, c75, hR⟩ := bnd_some hR
   refine o_six Tryd.underlying9 F rfl rfl rfl c75 (fun a F => ?_)
   refine o_subU (j := (48 : UInt8)) F rfl rfl rfl (fun a F => ?_)
   refine o_convI Tryd.underlying5 Tryd.underlying2 F rfl rfl (fun a F => ?_)
   obtain ⟨z76, c77, hR⟩ := bnd_some hR
   refine o_add F rfl rfl rfl c77 (fun a F => ?_)
   refine o_assign F rfl rfl (fun a F => ?_)
   refine x_end ?_
   refine x_bn ?_
   refine x_tn ?_
   refine x_reg ?_
   refine o_move F rfl rfl (fun a F => ?_)
   refine o_inc F rfl rfl rfl ink55 (fun a F => ?_)
   refine o_assign F rfl rfl (fun a F => ?_)
   refine x_end ?_
   refine x_tn ?_
   replace hR := l_go hR hn48
   exact ⟨_, Nat.lt_succ_self _, k55 + 1, z76, (by omega), hR, F.sub (sc rfl (sc rfl (sc rfl sn))), hB, (ck64 c77)⟩
 intro a w ⟨s53, ho47, F, hB, i54⟩
 subst ho47
 have hR := then_nx hk46
 refine x_tn ?_
 refine x_seq ?_
 refine x_reg ?_
 refine o_move F rfl rfl (fun a F => ?_)
 refine o_assign F rfl rfl (fun a F => ?_)
 refine o_assign F rfl rfl (fun a F => ?_)
 refine x_end ?_
 refine x_tn ?_
 refine x_ret ?_
 refine x_res2 F rfl (rv_t F rfl) (rv_t F rfl) ?_
 obtain rfl := Option.some.inj hR
 exact ⟨_, rfl, hB, rfl, i54⟩

def slices_Index_s_string_string (x0 : List ByteArray) (x1 : ByteArray) : Option Int :=
 thn (σ := Unit) (
  forL (σ := Unit) (ρ := Int) (fun (k24 : Nat) (x26 : ByteArray) (s : Unit) =>
    match s with
    | _ =>
    if (sEq x1 x26) then
     some (.ret ((k24 : Int)))
    else
     some (.go ())) x0 0 ()) fun _ =>
 some ((-1))
set_option maxHeartbeats 1000000 in
theorem slices_Index_s_string_string_c {x0 : List ByteArray} {x1 : ByteArray} (r : Int) (hR : slices_Index_s_string_string x0 x1 = some r) {v0 : Value} {b0 : List Nat} (w0 : World) (A0 : Rd (Sl 1 RStr) w0 v0 x0 b0) (hx1 : x1.size ≤ maxLen) : Calls Tryd.prog 55 #[v0, .string x1] w0 (SaysI r w0) := by
 unfold slices_Index_s_string_string at hR
 refine x_enter (L := [(0, v0), (1, .string x1)]) Tryd.func55 rfl rfl rfl (sc rfl (sc rfl sn)) (fun a F => ?_)
 have hB := Below.refl w0.heap.size w0
 refine x_seq ?_
 refine x_reg ?_
 refine o_assign F rfl rfl (fun a F => ?_)
 refine x_end ?_
 refine x_tn ?_
 refine x_seq ?_
 refine x_seq ?_
 refine x_reg ?_
 refine o_move F rfl rfl (fun a F => ?_)
 refine o_len Tryd.underlying63 F rfl rfl (A0.go hB) (fun a F => ?_)
 have i11 := ((A0.go hB)).r.len64
 refine o_move F rfl rfl (fun a F => ?_)
 refine x_end ?_
 refine x_tn ?_
 obtain ⟨o18, hR, hk19⟩ := thn_some hR
 refine x_cutQ (fun a w => o18 = .nx () ∧ Sk a 19 [] ∧ Below w0.heap.size w0 w) ?_ ?_
 ·
  refine x_blk ?_
  obtain ⟨fl22, hf23, hR⟩ := forL_gen hR
  refine x_loop (fun g a w => ∃ (k24 : Nat) (rest25 : List ByteArray), (k24 ≤ x0.length ∧ x0.drop k24 = rest25) ∧ rest25.length = g ∧ forL fl22 rest25 k24 () = some o18 ∧ Sk a 19 [(8, .int .i64 (k24 : Int)), (0, v0), (1, .string x1), (7, .int .i64 (x0.length : Int))] ∧ Below w0.heap.size w0 w) x0.length ?_ ?_
  ·
   exact ⟨0, x0, ⟨Nat.zero_le _, rfl⟩, rfl, hR, F.sub (sc rfl (sc rfl (sc rfl (sc rfl sn)))), hB⟩
  intro g27 a w ⟨k24, rest25, hd28, hg29, hR, F, hB⟩
  cases rest25 with
  | nil =>
   replace hR := forL_nil hR
   have hkk24 := drop_nil hd28.1 hd28.2
   have hlk24 := dec_no hkk24
   refine x_seq ?_
   refine x_reg ?_
   refine o_lss F rfl rfl rfl (fun a F => ?_)
   refine x_end ?_
   refine x_tn ?_
   refine x_seq ?_
   refine x_ifF F rfl hlk24 ?_
   refine x_exit ?_
   refine x_te ?_
   refine x_te ?_
   refine x_be ?_
   refine x_tn ?_
   exact ⟨(Option.some.inj hR).symm, F.sub sn, hB⟩
  | cons x26 rest25 =>
   subst hg29
   replace hd28 := drop_cons hd28.2
   have hxk24 := ix_nat hd28.2.1
   obtain ⟨ck24, hR, hn21⟩ := forL_cons hR
   rw [hf23] at hR
   have hlk24 := dec_yes hd28.1
   refine x_seq ?_
   refine x_reg ?_
   refine o_lss F rfl rfl rfl (fun a F => ?_)
   refine x_end ?_
   refine x_tn ?_
   refine x_seq ?_
   refine x_ifT F rfl hlk24 ?_
   refine x_skip ?_
   refine x_tn ?_
   refine x_seq ?_
   have ikk24 := k64 (Nat.le_of_lt hd28.1) i11
   have ink24 := inc64 hd28.1 i11
   refine x_blk ?_
   refine x_seq ?_
   refine x_reg ?_
   refine o_move F rfl rfl (fun a F => ?_)
   refine o_assign F rfl rfl (fun a F => ?_)
   refine x_end ?_
   refine x_tn ?_
   refine x_seq ?_
   refine x_reg ?_
   refine o_move F rfl rfl (fun a F => ?_)
   refine o_move F rfl rfl (fun a F => ?_)
   refine o_move F rfl rfl (fun a F => ?_)
   refine o_index Tryd.underlying63 Tryd.sizeOf9 F rfl rfl rfl (A0.go hB) hxk24 (fun a p30 b31 h32 s33 F => ?_)
   have i34 := (h32).str
   refine o_loadT Tryd.isAgg9 F rfl rfl h32 (fun a F => ?_)
   refine o_seql F rfl rfl rfl (fun a F => ?_)
   refine x_end ?_
   refine x_tn ?_
   refine x_if F rfl (fun hb35 => ?_) (fun hb35 => ?_)
   ·
    replace hR := ifT hb35 hR
    refine x_seq ?_
    refine x_reg ?_
    refine o_move F rfl rfl (fun a F => ?_)
    refine o_assign F rfl rfl (fun a F => ?_)
    refine x_end ?_
    refine x_tn ?_
    refine x_ret ?_
    refine x_br ?_
    refine x_tr ?_
    refine x_tr ?_
    replace hR := l_ret hR hn21
    refine x_br ?_
    refine x_tr ?_
    replace hR := j_ret hR hk19
    refine x_tr ?_
    refine x_res1 F rfl (rv_t F rfl) ?_
    obtain rfl := Option.some.inj hR
    exact ⟨⟨rfl, hB⟩, ikk24⟩
   replace hR := ifF hb35 hR
   refine x_skip ?_
   refine x_bn ?_
   refine x_tn ?_
   refine x_reg ?_
   refine o_inc F rfl rfl rfl ink24 (fun a F => ?_)
   refine o_move F rfl rfl (fun a F => ?_)
   refine x_end ?_
   refine x_tn ?_
   replace hR := l_go hR hn21
   exact ⟨_, Nat.lt_succ_self _, k24 + 1, rest25, ⟨hd28.1, hd28.2.2⟩, rfl, hR, F.sub (sc rfl (sc rfl (sc rfl (sc rfl sn)))), hB⟩
 intro a w ⟨ho20, F, hB⟩
 subst ho20
 have hR := then_nx hk19
 refine x_tn ?_
 refine x_seq ?_
 refine x_reg ?_
 refine o_assign F rfl rfl (fun a F => ?_)
 refine x_end ?_
 refine x_tn ?_
 refine x_ret ?_
 refine x_res1 F rfl (rv_t F rfl) ?_
 obtain rfl := Option.some.inj hR
 exact ⟨⟨rfl, hB⟩, (show I64 (-1) by decide)⟩

def spec_ReadDeed (N : Nat) (x0 : ByteArray) : Option (Deed × Int) :=
 bnd (spec_l01Split x0 (32 : UInt8)) fun z13 =>
 bnd (spec_l10Words) fun z22 =>
 thn (σ := Int × Int) (
  whl (σ := Int × Int) (ρ := Deed × Int) (fun (s : Int × Int) =>
    match s with
    | (s108, s110) =>
    if (decide (s108 < (z22.1.length : Int))) then
     bnd (ix z22.1 s108) fun z124 =>
     bnd (ix z13 0) fun z131 =>
     if (sEq z124 z131) then
      bnd (ck (s108 + 1)) fun z139 =>
      some (.go (z139, s108))
     else
      bnd (ck (s108 + 1)) fun z141 =>
      some (.go (z141, s110))
    else
     some (.brk (s108, s110))) N (1, 0)) fun (s112, s114) =>
 thn (σ := Bool) (
  if (s114 == 0) then  some (.nx true) else  bnd (ix z22.2 s114) fun z161 =>
   bnd (ck (z161 + 1)) fun z169 =>
   some (.nx ((z13.length : Int) != z169))) fun s158 =>
 if s158 then
  some ((Deed.mk 0 0 0), 5)
 else
  thn (σ := Int × Int × Int) (
   whl (σ := Int × Int × Int) (ρ := Deed × Int) (fun (s : Int × Int × Int) =>
     match s with
     | (s230, s232, s234) =>
     if (decide (s230 < (z13.length : Int))) then
      bnd (ix z13 s230) fun z250 =>
      bnd (spec_l01Number z250) fun z258 =>
      if (!z258.2) then
       some (.ret ((Deed.mk 0 0 0), 5))
      else
       if (s230 == 1) then
        bnd (ck (s230 + 1)) fun z265 =>
        some (.go (z265, z258.1, s234))
       else
        bnd (ck (s230 + 1)) fun z267 =>
        some (.go (z267, s232, z258.1))
     else
      some (.brk (s230, s232, s234))) N (1, 0, 0)) fun (s236, s238, s240) =>
  bnd (spec_l10Deed (Deed.mk s114 s238 s240)) fun z270 =>
  if (!z270) then
   some ((Deed.mk 0 0 0), 5)
  else
   some ((Deed.mk s114 s238 s240), 0)
set_option maxHeartbeats 1000000 in
theorem spec_ReadDeed_c {N : Nat} {x0 : ByteArray} (r : Deed × Int) (hR : spec_ReadDeed N x0 = some r)  (w0 : World) (hx0 : x0.size ≤ maxLen) : Calls Tryd.prog 25 #[.string x0] w0 (Gives (fun v w' => v = .tuple #[.agg #[.int .i64 r.1.kind, .int .i64 r.1.a, .int .i64 r.1.b], .int .i64 r.2] ∧ I64 r.1.kind ∧ I64 r.1.a ∧ I64 r.1.b ∧ I64 r.2) w0) := by
 unfold spec_ReadDeed at hR
 refine x_enter (L := [(0, .string x0)]) Tryd.func25 rfl rfl rfl (sc rfl sn) (fun a F => ?_)
 have hB := Below.refl w0.heap.size w0
 refine x_seq ?_
 refine x_reg ?_
 refine o_alloc Tryd.zeroValue38 F rfl rfl (fun a w b11 K12 l BK12 F => ?_)
 have CK12 := Nat.le_trans hB.size BK12
 replace hB := Below.through l hB
 refine o_assign F rfl rfl (fun a F => ?_)
 refine x_end ?_
 refine x_tn ?_
 refine x_seq ?_
 refine x_reg ?_
 refine o_move F rfl rfl (fun a F => ?_)
 obtain ⟨z13, c14, hR⟩ := bnd_some hR
 refine o_gives F rfl Tryd.call52 rfl (spec_l01Split_c z13 c14 _ hx0) (fun a vv w l ⟨v15, rb16, hv19, h18⟩ F => ?_)
 subst vv
 have d21 := Dj.new (inm1 K12) h18.ownR (Nat.le_refl _)
 replace h18 := h18.base hB.size
 replace hB := Below.through l hB
 replace K12 := K12.thru l
 refine o_assign F rfl rfl (fun a F => ?_)
 refine x_end ?_
 refine x_tn ?_
 refine x_seq ?_
 refine x_reg ?_
 obtain ⟨z22, c23, hR⟩ := bnd_some hR
 refine o_gives F rfl Tryd.call40 rfl (spec_l10Words_c z22 c23 _) (fun a vv w l ⟨v24, rb25, v28, rb29, hv32, h27, h31, dj33⟩ F => ?_)
 subst vv
 have d35 := Dj.new h18.rd.m h27.ownR (Nat.le_refl _)
 have d36 := Dj.new (inm1 K12) h27.ownR (Nat.le_refl _)
 have d37 := Dj.app' (Dj.new h18.memR h27.ownR (Nat.le_refl _)).symm (Dj.nil' _)
 replace h27 := h27.base hB.size
 have d39 := Dj.new h18.rd.m h31.ownR (Nat.le_refl _)
 have d40 := Dj.new (inm1 K12) h31.ownR (Nat.le_refl _)
 have d41 := Dj.app' (Dj.new h18.memR h31.ownR (Nat.le_refl _)).symm (Dj.nil' _)
 replace h31 := h31.base hB.size
 replace hB := Below.through l hB
 replace h18 := h18.go l
 replace K12 := K12.thru l
 refine o_move F rfl rfl (fun a F => ?_)
 refine o_extract F rfl rfl rfl (fun a F => ?_)
 refine o_extract F rfl rfl rfl (fun a F => ?_)
 refine o_assign F rfl rfl (fun a F => ?_)
 refine o_assign F rfl rfl (fun a F => ?_)
 refine x_end ?_
 refine x_tn ?_
 refine x_seq ?_
 refine x_reg ?_
 refine o_build Tryd.underlying38 Tryd.zeroValue38 (fun w => by simp [Tryd.sizeOf2]; rfl) F rfl rfl rfl rfl rfl on rfl rfl (fun a F => ?_)
 have h42 := RDeed.mk2 (w := w) (show I64 0 by decide) (show I64 0 by decide) (show I64 0 by decide)
 refine o_alloc Tryd.zeroValue38 F rfl rfl (fun a w b43 K44 l BK44 F => ?_)
 have d45 := dj1 h18.memR BK44
 have d46 := dj1 h31.memR BK44
 have d47 := dj1 h27.memR BK44
 have nb48 := Dj.bb K12 BK44
 have d49 := (dj1 h42.m BK44).symm
 have d50 := (dj1 h18.rd.m BK44).symm
 have d51 := (dj1 h31.rd.m BK44).symm
 have d52 := (dj1 h27.rd.m BK44).symm
 have CK44 := Nat.le_trans hB.size BK44
 replace hB := Below.through l hB
 replace h18 := h18.go l
 replace h31 := h31.go l
 replace h27 := h27.go l
 replace h42 := h42.go l
 replace K12 := K12.thru l
 refine o_bstoreA (vs := [.int .i64 0, .int .i64 0, .int .i64 0]) Tryd.sizeOf38 F rfl rfl rfl K44 (oc rfl (oc rfl (oc rfl on))) (Nat.le_of_ble_eq_true rfl) rfl (fun w K44 l => ?_)
 replace hB := hB.o l (fun c hc => by rw [List.mem_singleton] at hc; rw [hc]; exact CK44) hB.size
 replace h18 := h18.goO l d50
 replace h31 := h31.goO l d51
 replace h27 := h27.goO l d52
 replace K12 := K12.only l (by simpa using nb48)
 refine x_end ?_
 refine x_tn ?_
 refine x_seq ?_
 refine x_seq ?_
 refine x_reg ?_
 refine o_assign F rfl rfl (fun a F => ?_)
 refine x_end ?_
 refine x_tn ?_
 obtain ⟨o102, hR, hk103⟩ := thn_some hR
 refine x_cutQ (fun a w => ∃ (s112 : Int) (s114 : Int), o102 = .nx (s112, s114) ∧ Sk a 78 [(2, .pointer (some ⟨b11, 0, none⟩)), (4, v15), (6, v28), (7, .pointer (some ⟨b43, 0, none⟩))] ∧ Below w0.heap.size w0 w ∧ I64 s112 ∧ I64 s114 ∧ Row 1 RStr 9 w0.heap.size w v15 z13 rb16 ([]) ∧ Row 1 RInt 3 w0.heap.size w v28 z22.2 rb29 ([]) ∧ Blk w b11 #[.int .i64 0, .int .i64 0, .int .i64 0] 38 ∧ Blk w b43 #[.int .i64 s114, .int .i64 0, .int .i64 0] 38) ?_ ?_
 ·
  refine x_blk ?_
  obtain ⟨fl106, hf107, hR⟩ := whl_gen hR
  refine x_loop (fun g a w => ∃ (s108 : Int) (s110 : Int), whl fl106 g (s108, s110) = some o102 ∧ Sk a 78 [(2, .pointer (some ⟨b11, 0, none⟩)), (4, v15), (5, v24), (6, v28), (7, .pointer (some ⟨b43, 0, none⟩)), (8, .int .i64 s108)] ∧ Below w0.heap.size w0 w ∧ I64 s108 ∧ I64 s110 ∧ Row 1 RStr 9 w0.heap.size w v15 z13 rb16 ([]) ∧ Row 1 RInt 3 w0.heap.size w v28 z22.2 rb29 ([]) ∧ Row 1 RStr 9 w0.heap.size w v24 z22.1 rb25 ([]) ∧ Blk w b11 #[.int .i64 0, .int .i64 0, .int .i64 0] 38 ∧ Blk w b43 #[.int .i64 s110, .int .i64 0, .int .i64 0] 38) N ?_ ?_
  ·
   exact ⟨1, 0, hR, F.sub (sc rfl (sc rfl (sc rfl (sc rfl (sc rfl (sc rfl sn)))))), hB, (show I64 (1) by decide), (show I64 0 by decide), h18, h31, h27, K12, K44⟩
  intro g119 a w ⟨s108, s110, hR, F, hB, i109, i111, h18, h31, h27, K12, K44⟩
  obtain ⟨ck116, rest117, hg121, hR, hn105⟩ := whl_round hR
  rw [hf107] at hR
  refine x_seq ?_
  refine x_seq ?_
  refine x_reg ?_
  refine o_move F rfl rfl (fun a F => ?_)
  refine o_move F rfl rfl (fun a F => ?_)
  refine o_len Tryd.underlying63 F rfl rfl h27.rd (fun a F => ?_)
  have i122 := (h27.rd).r.len64
  refine o_lss F rfl rfl rfl (fun a F => ?_)
  refine x_end ?_
  refine x_tn ?_
  refine x_if F rfl (fun hb123 => ?_) (fun hb123 => ?_)
  ·
   replace hR := ifT hb123 hR
   refine x_skip ?_
   refine x_tn ?_
   refine x_seq ?_
   refine x_blk ?_
   refine x_seq ?_
   refine x_draw (by kernel_rfl) (by kernel_rfl) ?_
   refine q_val F rfl (fun w l => r_move F rfl) (fun a F => ?_)
   refine q_val F rfl (fun w l => r_move F rfl) (fun a F => ?_)
   obtain ⟨z124, c125, hR⟩ := bnd_some hR
   refine q_index Tryd.underlying63 Tryd.sizeOf9 F rfl rfl rfl h27.rd c125 (fun a p126 b127 h128 s129 F => ?_)
   have i130 := (h128).str
   refine q_val F rfl (fun w l => r_loadT Tryd.isAgg9 F rfl ((h128).go l)) (fun a F => ?_)
   refine q_val F rfl (fun w l => r_move F rfl) (fun a F => ?_)
   obtain ⟨z131, c132, hR⟩ := bnd_some hR
   refine q_index Tryd.underlying63 Tryd.sizeOf9 F rfl rfl rfl h18.rd c132 (fun a p133 b134 h135 s136 F => ?_)
   have i137 := (h135).str
   refine q_val F rfl (fun w l => r_loadT Tryd.isAgg9 F rfl ((h135).go l)) (fun a F => ?_)
   refine q_val F rfl (fun w l => r_seql F rfl rfl) (fun a F => ?_)
   refine q_end (fun w l => ?_)
   replace hB := Below.through l hB
   replace h18 := h18.go l
   replace h31 := h31.go l
   replace h27 := h27.go l
   replace K12 := K12.thru l
   replace K44 := K44.thru l
   refine x_tn ?_
   refine x_if F rfl (fun hb138 => ?_) (fun hb138 => ?_)
   ·
    replace hR := ifT hb138 hR
    refine x_reg ?_
    refine o_move F rfl rfl (fun a F => ?_)
    refine o_bfield fa38_0 F rfl rfl rfl (fun a F => ?_)
    refine o_bstore Tryd.sizeOf2 F rfl rfl rfl K44 rfl (by first | simp | decide) rfl (fun w K44 l => ?_)
    replace hB := hB.o l (fun c hc => by rw [List.mem_singleton] at hc; rw [hc]; exact CK44) hB.size
    replace h18 := h18.goO l d50
    replace h31 := h31.goO l d51
    replace h27 := h27.goO l d52
    replace K12 := K12.only l (by simpa using nb48)
    refine x_end ?_
    refine x_bn ?_
    refine x_tn ?_
    refine x_reg ?_
    refine o_move F rfl rfl (fun a F => ?_)
    obtain ⟨z139, c140, hR⟩ := bnd_some hR
    refine o_add F rfl rfl rfl c140 (fun a F => ?_)
    refine o_assign F rfl rfl (fun a F => ?_)
    refine x_end ?_
    refine x_tn ?_
    replace hR := l_go hR hn105
    exact ⟨rest117, (by omega), z139, s108, hR, F.sub (sc rfl (sc rfl (sc rfl (sc rfl (sc rfl (sc rfl sn)))))), hB, (ck64 c140), i109, h18, h31, h27, K12, K44⟩
   replace hR := ifF hb138 hR
   refine x_skip ?_
   refine x_bn ?_
   refine x_tn ?_
   refine x_reg ?_
   refine o_move F rfl rfl (fun a F => ?_)
   obtain ⟨z141, c142, hR⟩ := bnd_some hR
   refine o_add F rfl rfl rfl c142 (fun a F => ?_)
   refine o_assign F rfl rfl (fun a F => ?_)
   refine x_end ?_
   refine x_tn ?_
   replace hR := l_go hR hn105
   exact ⟨rest117, (by omega), z141, s110, hR, F.sub (sc rfl (sc rfl (sc rfl (sc rfl (sc rfl (sc rfl sn)))))), hB, (ck64 c142), i111, h18, h31, h27, K12, K44⟩
  replace hR := ifF hb123 hR
  refine x_exit ?_
  refine x_te ?_
  refine x_te ?_
  replace hR := l_brk hR hn105
  refine x_be ?_
  refine x_tn ?_
  exact ⟨s108, s110, (Option.some.inj hR).symm, F.sub (sc rfl (sc rfl (sc rfl (sc rfl sn)))), hB, i109, i111, h18, h31, K12, K44⟩
 intro a w ⟨s112, s114, ho104, F, hB, i113, i115, h18, h31, K12, K44⟩
 subst ho104
 have hR := then_nx hk103
 refine x_tn ?_
 refine x_seq ?_
 refine x_seq ?_
 obtain ⟨o155, hR, hk156⟩ := thn_some hR
 refine x_cutQ (fun a w => ∃ (s158 : Bool), o155 = .nx s158 ∧ Sk a 78 [(2, .pointer (some ⟨b11, 0, none⟩)), (4, v15), (7, .pointer (some ⟨b43, 0, none⟩)), (48, .bool s158)] ∧ Below w0.heap.size w0 w ∧ Row 1 RStr 9 w0.heap.size w v15 z13 rb16 ([]) ∧ Blk w b11 #[.int .i64 0, .int .i64 0, .int .i64 0] 38 ∧ Blk w b43 #[.int .i64 s114, .int .i64 0, .int .i64 0] 38) ?_ ?_
 ·
  refine x_reg ?_
  refine o_bfield fa38_0 F rfl rfl rfl (fun a F => ?_)
  refine o_bload Tryd.isAgg2 F rfl rfl K44 rfl (fun a F => ?_)
  refine o_eql F rfl rfl rfl (fun a F => ?_)
  refine o_move F rfl rfl (fun a F => ?_)
  rcases bcases (s114 == 0) with hb159 | hb159
  ·
   replace hR := ifT hb159 hR
   have F := F.eq (t := 38) rfl (congrArg Value.bool hb159)
   refine o_no F rfl rfl (fun a F => ?_)
   refine o_no F rfl rfl (fun a F => ?_)
   refine o_no F rfl rfl (fun a F => ?_)
   refine o_no F rfl rfl (fun a F => ?_)
   refine o_no F rfl rfl (fun a F => ?_)
   refine o_no F rfl rfl (fun a F => ?_)
   refine o_no F rfl rfl (fun a F => ?_)
   refine o_no F rfl rfl (fun a F => ?_)
   refine o_no F rfl rfl (fun a F => ?_)
   refine o_pickt F rfl rfl rfl (fun a F => ?_)
   refine x_end ?_
   refine x_tn ?_
   exact ⟨true, (Option.some.inj hR).symm, F.sub (sc rfl (sc rfl (sc rfl (sc rfl sn)))), hB, h18, K12, K44⟩
  replace hR := ifF hb159 hR
  have F := F.eq (t := 38) rfl (congrArg Value.bool hb159)
  refine o_move F rfl rfl (fun a F => ?_)
  refine o_len Tryd.underlying63 F rfl rfl h18.rd (fun a F => ?_)
  have i160 := (h18.rd).r.len64
  refine o_move F rfl rfl (fun a F => ?_)
  refine o_bfield fa38_0 F rfl rfl rfl (fun a F => ?_)
  refine o_bload Tryd.isAgg2 F rfl rfl K44 rfl (fun a F => ?_)
  obtain ⟨z161, c162, hR⟩ := bnd_some hR
  refine o_rindex Tryd.underlying78 Tryd.sizeOf3 F rfl rfl rfl h31 c162 (fun a p163 b164 h165 s166 rp167 F => ?_)
  have i168 := (h165).i64
  refine o_loadI Tryd.isAgg3 F rfl rfl h165 (fun a F => ?_)
  obtain ⟨z169, c170, hR⟩ := bnd_some hR
  refine o_add F rfl rfl rfl c170 (fun a F => ?_)
  refine o_neq F rfl rfl rfl (fun a F => ?_)
  refine o_pickf F rfl rfl rfl (fun a F => ?_)
  refine x_end ?_
  refine x_tn ?_
  exact ⟨((z13.length : Int) != z169), (Option.some.inj hR).symm, F.sub (sc rfl (sc rfl (sc rfl (sc rfl sn)))), hB, h18, K12, K44⟩
 intro a w ⟨s158, ho157, F, hB, h18, K12, K44⟩
 subst ho157
 have hR := then_nx hk156
 refine x_tn ?_
 refine x_if F rfl (fun hb171 => ?_) (fun hb171 => ?_)
 ·
  replace hR := ifT hb171 hR
  refine x_seq ?_
  refine x_reg ?_
  refine o_build Tryd.underlying38 Tryd.zeroValue38 (fun w => by simp [Tryd.sizeOf2]; rfl) F rfl rfl rfl rfl rfl on rfl rfl (fun a F => ?_)
  have h172 := RDeed.mk2 (w := w) (show I64 0 by decide) (show I64 0 by decide) (show I64 0 by decide)
  refine o_bstoreA (vs := [.int .i64 0, .int .i64 0, .int .i64 0]) Tryd.sizeOf38 F rfl rfl rfl K12 (oc rfl (oc rfl (oc rfl on))) (Nat.le_of_ble_eq_true rfl) rfl (fun w K12 l => ?_)
  replace hB := hB.o l (fun c hc => by rw [List.mem_singleton] at hc; rw [hc]; exact CK12) hB.size
  refine o_assign F rfl rfl (fun a F => ?_)
  refine x_end ?_
  refine x_tn ?_
  refine x_ret ?_
  refine x_tr ?_
  refine x_res2 F rfl (rv_cA (arr := #[.int .i64 0, .int .i64 0, .int .i64 0]) F Tryd.isAgg38 Tryd.sizeOf38 rfl K12) (rv_t F rfl) ?_
  obtain rfl := Option.some.inj hR
  exact ⟨_, rfl, hB, rfl, (show I64 0 by decide), (show I64 0 by decide), (show I64 0 by decide), (show I64 (5) by decide)⟩
 replace hR := ifF hb171 hR
 refine x_skip ?_
 refine x_tn ?_
 refine x_seq ?_
 refine x_seq ?_
 refine x_reg ?_
 refine o_assign F rfl rfl (fun a F => ?_)
 refine x_end ?_
 refine x_tn ?_
 obtain ⟨o224, hR, hk225⟩ := thn_some hR
 refine x_cutQ (fun a w => ∃ (s236 : Int) (s238 : Int) (s240 : Int), o224 = .nx (s236, s238, s240) ∧ Sk a 78 [(2, .pointer (some ⟨b11, 0, none⟩)), (7, .pointer (some ⟨b43, 0, none⟩))] ∧ Below w0.heap.size w0 w ∧ I64 s236 ∧ I64 s238 ∧ I64 s240 ∧ Blk w b11 #[.int .i64 0, .int .i64 0, .int .i64 0] 38 ∧ Blk w b43 #[.int .i64 s114, .int .i64 s238, .int .i64 s240] 38) ?_ ?_
 ·
  refine x_blk ?_
  obtain ⟨fl228, hf229, hR⟩ := whl_gen hR
  refine x_loop (fun g a w => ∃ (s230 : Int) (s232 : Int) (s234 : Int), whl fl228 g (s230, s232, s234) = some o224 ∧ Sk a 78 [(2, .pointer (some ⟨b11, 0, none⟩)), (4, v15), (7, .pointer (some ⟨b43, 0, none⟩)), (9, .int .i64 s230)] ∧ Below w0.heap.size w0 w ∧ I64 s230 ∧ I64 s232 ∧ I64 s234 ∧ Row 1 RStr 9 w0.heap.size w v15 z13 rb16 ([]) ∧ Blk w b11 #[.int .i64 0, .int .i64 0, .int .i64 0] 38 ∧ Blk w b43 #[.int .i64 s114, .int .i64 s232, .int .i64 s234] 38) N ?_ ?_
  ·
   exact ⟨1, 0, 0, hR, F.sub (sc rfl (sc rfl (sc rfl (sc rfl sn)))), hB, (show I64 (1) by decide), (show I64 0 by decide), (show I64 0 by decide), h18, K12, K44⟩
  intro g245 a w ⟨s230, s232, s234, hR, F, hB, i231, i233, i235, h18, K12, K44⟩
  obtain ⟨ck242, rest243, hg247, hR, hn227⟩ := whl_round hR
  rw [hf229] at hR
  refine x_seq ?_
  refine x_seq ?_
  refine x_reg ?_
  refine o_move F rfl rfl (fun a F => ?_)
  refine o_move F rfl rfl (fun a F => ?_)
  refine o_len Tryd.underlying63 F rfl rfl h18.rd (fun a F => ?_)
  have i248 := (h18.rd).r.len64
  refine o_lss F rfl rfl rfl (fun a F => ?_)
  refine x_end ?_
  refine x_tn ?_
  refine x_if F rfl (fun hb249 => ?_) (fun hb249 => ?_)
  ·
   replace hR := ifT hb249 hR
   refine x_skip ?_
   refine x_tn ?_
   refine x_seq ?_
   refine x_blk ?_
   refine x_seq ?_
   refine x_reg ?_
   refine o_move F rfl rfl (fun a F => ?_)
   refine o_move F rfl rfl (fun a F => ?_)
   obtain ⟨z250, c251, hR⟩ := bnd_some hR
   refine o_rindex Tryd.underlying63 Tryd.sizeOf9 F rfl rfl rfl h18 c251 (fun a p252 b253 h254 s255 rp256 F => ?_)
   have i257 := (h254).str
   refine o_loadT Tryd.isAgg9 F rfl rfl h254 (fun a F => ?_)
   obtain ⟨z258, c259, hR⟩ := bnd_some hR
   refine o_gives F rfl Tryd.call53 rfl (spec_l01Number_c z258 c259 _ i257) (fun a vv w l ⟨hv261, i260⟩ F => ?_)
   subst vv
   replace hB := Below.through l hB
   replace h18 := h18.go l
   replace K12 := K12.thru l
   replace K44 := K44.thru l
   refine o_move F rfl rfl (fun a F => ?_)
   refine o_extract F rfl rfl rfl (fun a F => ?_)
   refine o_extract F rfl rfl rfl (fun a F => ?_)
   refine o_assign F rfl rfl (fun a F => ?_)
   refine o_assign F rfl rfl (fun a F => ?_)
   refine x_end ?_
   refine x_tn ?_
   refine x_seq ?_
   refine x_seq ?_
   refine x_reg ?_
   refine o_move F rfl rfl (fun a F => ?_)
   refine o_not F rfl rfl (fun a F => ?_)
   refine x_end ?_
   refine x_tn ?_
   refine x_if F rfl (fun hb262 => ?_) (fun hb262 => ?_)
   ·
    replace hR := ifT hb262 hR
    refine x_seq ?_
    refine x_reg ?_
    refine o_build Tryd.underlying38 Tryd.zeroValue38 (fun w => by simp [Tryd.sizeOf2]; rfl) F rfl rfl rfl rfl rfl on rfl rfl (fun a F => ?_)
    have h263 := RDeed.mk2 (w := w) (show I64 0 by decide) (show I64 0 by decide) (show I64 0 by decide)
    refine o_bstoreA (vs := [.int .i64 0, .int .i64 0, .int .i64 0]) Tryd.sizeOf38 F rfl rfl rfl K12 (oc rfl (oc rfl (oc rfl on))) (Nat.le_of_ble_eq_true rfl) rfl (fun w K12 l => ?_)
    replace hB := hB.o l (fun c hc => by rw [List.mem_singleton] at hc; rw [hc]; exact CK12) hB.size
    refine o_assign F rfl rfl (fun a F => ?_)
    refine x_end ?_
    refine x_tn ?_
    refine x_ret ?_
    refine x_tr ?_
    refine x_br ?_
    refine x_tr ?_
    refine x_tr ?_
    replace hR := l_ret hR hn227
    refine x_br ?_
    refine x_tr ?_
    replace hR := j_ret hR hk225
    refine x_tr ?_
    refine x_res2 F rfl (rv_cA (arr := #[.int .i64 0, .int .i64 0, .int .i64 0]) F Tryd.isAgg38 Tryd.sizeOf38 rfl K12) (rv_t F rfl) ?_
    obtain rfl := Option.some.inj hR
    exact ⟨_, rfl, hB, rfl, (show I64 0 by decide), (show I64 0 by decide), (show I64 0 by decide), (show I64 (5) by decide)⟩
   replace hR := ifF hb262 hR
   refine x_skip ?_
   refine x_tn ?_
   refine x_seq ?_
   refine x_reg ?_
   refine o_move F rfl rfl (fun a F => ?_)
   refine o_eql F rfl rfl rfl (fun a F => ?_)
   refine x_end ?_
   refine x_tn ?_
   refine x_if F rfl (fun hb264 => ?_) (fun hb264 => ?_)
   ·
    replace hR := ifT hb264 hR
    refine x_reg ?_
    refine o_move F rfl rfl (fun a F => ?_)
    refine o_bfield fa38_1 F rfl rfl rfl (fun a F => ?_)
    refine o_bstore Tryd.sizeOf2 F rfl rfl rfl K44 rfl (by first | simp | decide) rfl (fun w K44 l => ?_)
    replace hB := hB.o l (fun c hc => by rw [List.mem_singleton] at hc; rw [hc]; exact CK44) hB.size
    replace h18 := h18.goO l d50
    replace K12 := K12.only l (by simpa using nb48)
    refine x_end ?_
    refine x_bn ?_
    refine x_tn ?_
    refine x_reg ?_
    refine o_move F rfl rfl (fun a F => ?_)
    obtain ⟨z265, c266, hR⟩ := bnd_some hR
    refine o_add F rfl rfl rfl c266 (fun a F => ?_)
    refine o_assign F rfl rfl (fun a F => ?_)
    refine x_end ?_
    refine x_tn ?_
    replace hR := l_go hR hn227
    exact ⟨rest243, (by omega), z265, z258.1, s234, hR, F.sub (sc rfl (sc rfl (sc rfl (sc rfl sn)))), hB, (ck64 c266), i260, i235, h18, K12, K44⟩
   replace hR := ifF hb264 hR
   refine x_reg ?_
   refine o_move F rfl rfl (fun a F => ?_)
   refine o_bfield fa38_2 F rfl rfl rfl (fun a F => ?_)
   refine o_bstore Tryd.sizeOf2 F rfl rfl rfl K44 rfl (by first | simp | decide) rfl (fun w K44 l => ?_)
   replace hB := hB.o l (fun c hc => by rw [List.mem_singleton] at hc; rw [hc]; exact CK44) hB.size
   replace h18 := h18.goO l d50
   replace K12 := K12.only l (by simpa using nb48)
   refine x_end ?_
   refine x_bn ?_
   refine x_tn ?_
   refine x_reg ?_
   refine o_move F rfl rfl (fun a F => ?_)
   obtain ⟨z267, c268, hR⟩ := bnd_some hR
   refine o_add F rfl rfl rfl c268 (fun a F => ?_)
   refine o_assign F rfl rfl (fun a F => ?_)
   refine x_end ?_
   refine x_tn ?_
   replace hR := l_go hR hn227
   exact ⟨rest243, (by omega), z267, s232, z258.1, hR, F.sub (sc rfl (sc rfl (sc rfl (sc rfl sn)))), hB, (ck64 c268), i233, i260, h18, K12, K44⟩
  replace hR := ifF hb249 hR
  refine x_exit ?_
  refine x_te ?_
  refine x_te ?_
  replace hR := l_brk hR hn227
  refine x_be ?_
  refine x_tn ?_
  exact ⟨s230, s232, s234, (Option.some.inj hR).symm, F.sub (sc rfl (sc rfl sn)), hB, i231, i233, i235, K12, K44⟩
 intro a w ⟨s236, s238, s240, ho226, F, hB, i237, i239, i241, K12, K44⟩
 subst ho226
 have hR := then_nx hk225
 refine x_tn ?_
 refine x_seq ?_
 refine x_seq ?_
 refine x_reg ?_
 refine o_bloadA (cs := [.int .i64 s114, .int .i64 s238, .int .i64 s240]) Tryd.isAgg38 Tryd.sizeOf38 F rfl rfl K44 rfl (fun j hj => by match j, hj with | 0, _ => rfl | 1, _ => rfl | 2, _ => rfl) (fun a F => ?_)
 have h269 := RDeed.mk2 (w := w) i115 i239 i241
 obtain ⟨z270, c271, hR⟩ := bnd_some hR
 refine o_says F rfl Tryd.call39 rfl (spec_l10Deed_c z270 c271 _ h269) (fun a w l F => ?_)
 replace hB := Below.through l hB
 replace K12 := K12.thru l
 replace K44 := K44.thru l
 refine o_not F rfl rfl (fun a F => ?_)
 refine x_end ?_
 refine x_tn ?_
 refine x_if F rfl (fun hb272 => ?_) (fun hb272 => ?_)
 ·
  replace hR := ifT hb272 hR
  refine x_seq ?_
  refine x_reg ?_
  refine o_build Tryd.underlying38 Tryd.zeroValue38 (fun w => by simp [Tryd.sizeOf2]; rfl) F rfl rfl rfl rfl rfl on rfl rfl (fun a F => ?_)
  have h273 := RDeed.mk2 (w := w) (show I64 0 by decide) (show I64 0 by decide) (show I64 0 by decide)
  refine o_bstoreA (vs := [.int .i64 0, .int .i64 0, .int .i64 0]) Tryd.sizeOf38 F rfl rfl rfl K12 (oc rfl (oc rfl (oc rfl on))) (Nat.le_of_ble_eq_true rfl) rfl (fun w K12 l => ?_)
  replace hB := hB.o l (fun c hc => by rw [List.mem_singleton] at hc; rw [hc]; exact CK12) hB.size
  refine o_assign F rfl rfl (fun a F => ?_)
  refine x_end ?_
  refine x_tn ?_
  refine x_ret ?_
  refine x_tr ?_
  refine x_res2 F rfl (rv_cA (arr := #[.int .i64 0, .int .i64 0, .int .i64 0]) F Tryd.isAgg38 Tryd.sizeOf38 rfl K12) (rv_t F rfl) ?_
  obtain rfl := Option.some.inj hR
  exact ⟨_, rfl, hB, rfl, (show I64 0 by decide), (show I64 0 by decide), (show I64 0 by decide), (show I64 (5) by decide)⟩
 replace hR := ifF hb272 hR
 refine x_skip ?_
 refine x_tn ?_
 refine x_seq ?_
 refine x_reg ?_
 refine o_bloadA (cs := [.int .i64 s114, .int .i64 s238, .int .i64 s240]) Tryd.isAgg38 Tryd.sizeOf38 F rfl rfl K44 rfl (fun j hj => by match j, hj with | 0, _ => rfl | 1, _ => rfl | 2, _ => rfl) (fun a F => ?_)
 have h274 := RDeed.mk2 (w := w) i115 i239 i241
 refine o_bstoreA (vs := [.int .i64 s114, .int .i64 s238, .int .i64 s240]) Tryd.sizeOf38 F rfl rfl rfl K12 (oc rfl (oc rfl (oc rfl on))) (Nat.le_of_ble_eq_true rfl) rfl (fun w K12 l => ?_)
 replace hB := hB.o l (fun c hc => by rw [List.mem_singleton] at hc; rw [hc]; exact CK12) hB.size
 refine o_assign F rfl rfl (fun a F => ?_)
 refine x_end ?_
 refine x_tn ?_
 refine x_ret ?_
 refine x_res2 F rfl (rv_cA (arr := #[.int .i64 s114, .int .i64 s238, .int .i64 s240]) F Tryd.isAgg38 Tryd.sizeOf38 rfl K12) (rv_t F rfl) ?_
 obtain rfl := Option.some.inj hR
 exact ⟨_, rfl, hB, rfl, i115, i239, i241, (show I64 (0) by decide)⟩

def impl_ReadDeed (x0 : ByteArray) : Option (Deed × Int) :=
 bnd (strings_Split x0 (bstr [32])) fun z13 =>
 bnd (ix z13 0) fun z22 =>
 bnd (impl_deedWords) fun z29 =>
 bnd (slices_Index_s_string_string z29 z22) fun z40 =>
 bnd (ck (z40 + 1)) fun z42 =>
 thn (σ := Int) (
  if (decide (1 < (z13.length : Int))) then
   bnd (ix z13 1) fun z161 =>
   bnd (impl_readNumber z161) fun z169 =>
   some (.nx z169)
  else
   some (.nx 0)) fun s157 =>
 thn (σ := Int) (
  if (decide (2 < (z13.length : Int))) then
   bnd (ix z13 2) fun z190 =>
   bnd (impl_readNumber z190) fun z198 =>
   some (.nx z198)
  else
   some (.nx 0)) fun s186 =>
 bnd (impl_DeedText (Deed.mk z42 s157 s186)) fun z201 =>
 thn (σ := Bool) (
  if (sEq z201 (bstr [])) then  some (.nx true) else  some (.nx (!sEq z201 x0))) fun s209 =>
 if s209 then
  some ((Deed.mk 0 0 0), 5)
 else
  some ((Deed.mk z42 s157 s186), 0)
set_option maxHeartbeats 1000000 in
theorem impl_ReadDeed_c {x0 : ByteArray} (r : Deed × Int) (hR : impl_ReadDeed x0 = some r)  (w0 : World) (hG : GloE w0) (hx0 : x0.size ≤ maxLen) : Calls Tryd.prog 26 #[.string x0] w0 (Gives (fun v w' => v = .tuple #[.agg #[.int .i64 r.1.kind, .int .i64 r.1.a, .int .i64 r.1.b], .int .i64 r.2] ∧ I64 r.1.kind ∧ I64 r.1.a ∧ I64 r.1.b ∧ I64 r.2) w0) := by
 unfold impl_ReadDeed at hR
 refine x_enter (L := [(0, .string x0)]) Tryd.func26 rfl rfl rfl (sc rfl sn) (fun a F => ?_)
 have hB := Below.refl w0.heap.size w0
 refine x_seq ?_
 refine x_reg ?_
 refine o_alloc Tryd.zeroValue38 F rfl rfl (fun a w b11 K12 l BK12 F => ?_)
 have CK12 := Nat.le_trans hB.size BK12
 replace hB := Below.through l hB
 refine o_assign F rfl rfl (fun a F => ?_)
 refine x_end ?_
 refine x_tn ?_
 refine x_seq ?_
 refine x_reg ?_
 refine o_move F rfl rfl (fun a F => ?_)
 obtain ⟨z13, c14, hR⟩ := bnd_some hR
 refine o_gives F rfl Tryd.call54 rfl (strings_Split_c z13 c14 _ (hG.go hB).toGlo hx0 (by decide)) (fun a vv w l ⟨v15, rb16, hv19, h18⟩ F => ?_)
 subst vv
 have d21 := Dj.new (inm1 K12) h18.ownR (Nat.le_refl _)
 replace h18 := h18.base hB.size
 replace hB := Below.through l hB
 replace K12 := K12.thru l
 refine o_assign F rfl rfl (fun a F => ?_)
 refine x_end ?_
 refine x_tn ?_
 refine x_seq ?_
 obtain ⟨z22, c23, hR⟩ := bnd_some hR
 obtain ⟨z29, c30, hR⟩ := bnd_some hR
 obtain ⟨z40, c41, hR⟩ := bnd_some hR
 obtain ⟨z42, c43, hR⟩ := bnd_some hR
 refine x_drawn (by kernel_rfl) (fun w l => ?_)
 replace hB := Below.through l hB
 replace h18 := h18.go l
 replace K12 := K12.thru l
 refine dp (fun G => ∀ (b120 : Nat) (a : Act) (w : World), Sk a 52 [(0, .string x0), (2, .pointer (some ⟨b11, 0, none⟩)), (4, v15), (5, .pointer (some ⟨b120, 0, none⟩)), (17, (.agg #[.int .i64 z42, .int .i64 0, .int .i64 0]))] → Below w0.heap.size w0 w → Row 1 RStr 9 w0.heap.size w v15 z13 rb16 ([]) → I64 0 → I64 0 → I64 0 → w0.heap.size ≤ b120 → I64 0 → I64 0 → I64 0 → I64 z42 → I64 0 → I64 0 → Blk w b11 #[.int .i64 0, .int .i64 0, .int .i64 0] 38 → Blk w b120 #[.int .i64 0, .int .i64 0, .int .i64 0] 38 → Dj [b120] rb16 → Dj (rb16 ++ []) ([b120]) → b11 ≠ b120 → ∀ ls, ls = #[true, true, true, true, true, true, true, true, false] → G 1 ls a w) ?_ (fun H132 => ?_)
 ·
  intro b120 a w F hB h18 i117 i118 i119 CK121 i122 i123 i124 i125 i126 i127 K12 K121 d128 d129 nb130 ls hls
  subst hls
  have h131 := RDeed.mk2 (w := w) i125 i126 i127
  refine b_e 8 rfl (by kernel_rfl) ?_
  refine o_bstoreA (vs := [.int .i64 z42, .int .i64 0, .int .i64 0]) Tryd.sizeOf38 F rfl rfl rfl K121 (oc rfl (oc rfl (oc rfl on))) (Nat.le_of_ble_eq_true rfl) rfl (fun w K121 l => ?_)
  replace hB := hB.o l (fun c hc => by rw [List.mem_singleton] at hc; rw [hc]; exact CK121) hB.size
  replace h18 := h18.goO l d129
  replace K12 := K12.only l (by simpa using nb130)
  refine x_end ?_
  refine x_tn ?_
  refine ⟨.inr (by kernel_rfl), ?_⟩
  refine b_end (by kernel_rfl) ?_
  refine x_tn ?_
  refine x_seq ?_
  refine x_seq ?_
  refine x_reg ?_
  refine o_bfield fa38_1 F rfl rfl rfl (fun a F => ?_)
  refine o_bfield fa38_2 F rfl rfl rfl (fun a F => ?_)
  refine o_litB (xs := [.tmp 18, .tmp 19]) (l := [.pointer (some ⟨b120, 1, none⟩), .pointer (some ⟨b120, 2, none⟩)]) Tryd.underlying98 Tryd.sizeOf97 Tryd.zeroValue97 rfl F rfl rfl rfl (by simp) (by simp) rfl (by simp only [List.forall_mem_cons, List.not_mem_nil, false_implies, implies_true, and_true]; exact ⟨rfl, rfl⟩) (fun a w b136 K137 l BK137 F => ?_)
  have d138 := dj1 h18.memR BK137
  have nb139 := Dj.bb K12 BK137
  have nb140 := Dj.bb K121 BK137
  have d141 := (dj1 h18.rd.m BK137).symm
  have CK137 := Nat.le_trans hB.size BK137
  replace hB := Below.through l hB
  replace h18 := h18.go l
  replace K12 := K12.thru l
  replace K121 := K121.thru l
  refine o_lenB Tryd.underlying98 F rfl rfl (fun a F => ?_)
  refine o_move F rfl rfl (fun a F => ?_)
  refine x_end ?_
  refine x_tn ?_
  refine x_blk ?_
  refine x_rounds 3 ?_
  refine x_rd ?_
  refine x_seq ?_
  refine x_reg ?_
  refine o_lss F rfl rfl rfl (fun a F => ?_)
  replace F := F.cast (show Value.bool (decide ((0 : Int) < 2)) = .bool true from rfl)
  refine x_end ?_
  refine x_tn ?_
  refine x_seq ?_
  refine x_ift F rfl ?_
  refine x_skip ?_
  refine x_tn ?_
  refine x_seq ?_
  obtain ⟨o154, hR, hk155⟩ := thn_some hR
  refine x_cutQ (fun a w => ∃ (s157 : Int), o154 = .nx s157 ∧ Sk a 52 [(0, .string x0), (2, .pointer (some ⟨b11, 0, none⟩)), (4, v15), (5, .pointer (some ⟨b120, 0, none⟩)), (20, .slice (some ⟨b136, 0, none⟩) 2 2), (21, .int .i64 2), (22, .int .i64 0)] ∧ Below w0.heap.size w0 w ∧ I64 s157 ∧ Row 1 RStr 9 w0.heap.size w v15 z13 rb16 ([]) ∧ Blk w b11 #[.int .i64 0, .int .i64 0, .int .i64 0] 38 ∧ Blk w b120 #[.int .i64 z42, .int .i64 s157, .int .i64 0] 38 ∧ Blk w b136 #[.pointer (some ⟨b120, 1, none⟩), .pointer (some ⟨b120, 2, none⟩)] 97) ?_ ?_
  ·
   refine x_blk ?_
   refine x_seq ?_
   refine x_reg ?_
   refine o_move F rfl rfl (fun a F => ?_)
   refine o_bidx (i := 0) Tryd.underlying98 Tryd.sizeOf97 F rfl rfl rfl (by decide) (fun a F => ?_)
   refine o_bload Tryd.isAgg97 F rfl rfl K137 rfl (fun a F => ?_)
   refine o_assign F rfl rfl (fun a F => ?_)
   refine o_assign F rfl rfl (fun a F => ?_)
   refine x_end ?_
   refine x_tn ?_
   refine x_seq ?_
   refine x_reg ?_
   refine o_move F rfl rfl (fun a F => ?_)
   refine o_add F rfl rfl rfl (show ck ((0 : Int) + 1) = some 1 from rfl) (fun a F => ?_)
   refine o_move F rfl rfl (fun a F => ?_)
   refine o_len Tryd.underlying63 F rfl rfl h18.rd (fun a F => ?_)
   have i159 := (h18.rd).r.len64
   refine o_lss F rfl rfl rfl (fun a F => ?_)
   refine x_end ?_
   refine x_tn ?_
   refine x_if F rfl (fun hb160 => ?_) (fun hb160 => ?_)
   ·
    replace hR := ifT hb160 hR
    refine x_reg ?_
    refine o_move F rfl rfl (fun a F => ?_)
    refine o_move F rfl rfl (fun a F => ?_)
    refine o_move F rfl rfl (fun a F => ?_)
    refine o_add F rfl rfl rfl (show ck ((0 : Int) + 1) = some 1 from rfl) (fun a F => ?_)
    obtain ⟨z161, c162, hR⟩ := bnd_some hR
    refine o_rindex Tryd.underlying63 Tryd.sizeOf9 F rfl rfl rfl h18 c162 (fun a p163 b164 h165 s166 rp167 F => ?_)
    have i168 := (h165).str
    refine o_loadT Tryd.isAgg9 F rfl rfl h165 (fun a F => ?_)
    obtain ⟨z169, c170, hR⟩ := bnd_some hR
    refine o_saysI F rfl Tryd.call56 rfl (impl_readNumber_c z169 c170 _ (hG.go hB) i168) (fun a w l iz169 F => ?_)
    replace hB := Below.through l hB
    replace h18 := h18.go l
    replace K12 := K12.thru l
    replace K121 := K121.thru l
    replace K137 := K137.thru l
    refine o_nilCheck F rfl rfl (fun a F => ?_)
    refine o_bstore Tryd.sizeOf2 F rfl rfl rfl K121 rfl (by first | simp | decide) rfl (fun w K121 l => ?_)
    replace hB := hB.o l (fun c hc => by rw [List.mem_singleton] at hc; rw [hc]; exact CK121) hB.size
    replace h18 := h18.goO l d129
    replace K12 := K12.only l (by simpa using nb130)
    replace K137 := K137.only l (by simpa using nb140.symm)
    refine x_end ?_
    refine x_bn ?_
    refine x_tn ?_
    exact ⟨z169, (Option.some.inj hR).symm, F.sub (sc rfl (sc rfl (sc rfl (sc rfl (sc rfl (sc rfl (sc rfl sn))))))), hB, iz169, h18, K12, K121, K137⟩
   replace hR := ifF hb160 hR
   refine x_skip ?_
   refine x_bn ?_
   refine x_tn ?_
   exact ⟨0, (Option.some.inj hR).symm, F.sub (sc rfl (sc rfl (sc rfl (sc rfl (sc rfl (sc rfl (sc rfl sn))))))), hB, i126, h18, K12, K121, K137⟩
  intro a w ⟨s157, ho156, F, hB, i158, h18, K12, K121, K137⟩
  subst ho156
  have hR := then_nx hk155
  refine x_tn ?_
  refine x_reg ?_
  refine o_add F rfl rfl rfl (show ck ((0 : Int) + 1) = some 1 from rfl) (fun a F => ?_)
  refine o_move F rfl rfl (fun a F => ?_)
  refine x_end ?_
  refine x_tn ?_
  refine x_rd ?_
  refine x_seq ?_
  refine x_reg ?_
  refine o_lss F rfl rfl rfl (fun a F => ?_)
  replace F := F.cast (show Value.bool (decide ((1 : Int) < 2)) = .bool true from rfl)
  refine x_end ?_
  refine x_tn ?_
  refine x_seq ?_
  refine x_ift F rfl ?_
  refine x_skip ?_
  refine x_tn ?_
  refine x_seq ?_
  obtain ⟨o183, hR, hk184⟩ := thn_some hR
  refine x_cutQ (fun a w => ∃ (s186 : Int), o183 = .nx s186 ∧ Sk a 52 [(0, .string x0), (2, .pointer (some ⟨b11, 0, none⟩)), (4, v15), (5, .pointer (some ⟨b120, 0, none⟩)), (20, .slice (some ⟨b136, 0, none⟩) 2 2), (21, .int .i64 2), (22, .int .i64 1)] ∧ Below w0.heap.size w0 w ∧ I64 s186 ∧ Row 1 RStr 9 w0.heap.size w v15 z13 rb16 ([]) ∧ Blk w b11 #[.int .i64 0, .int .i64 0, .int .i64 0] 38 ∧ Blk w b120 #[.int .i64 z42, .int .i64 s157, .int .i64 s186] 38 ∧ Blk w b136 #[.pointer (some ⟨b120, 1, none⟩), .pointer (some ⟨b120, 2, none⟩)] 97) ?_ ?_
  ·
   refine x_blk ?_
   refine x_seq ?_
   refine x_reg ?_
   refine o_move F rfl rfl (fun a F => ?_)
   refine o_bidx (i := 1) Tryd.underlying98 Tryd.sizeOf97 F rfl rfl rfl (by decide) (fun a F => ?_)
   refine o_bload Tryd.isAgg97 F rfl rfl K137 rfl (fun a F => ?_)
   refine o_assign F rfl rfl (fun a F => ?_)
   refine o_assign F rfl rfl (fun a F => ?_)
   refine x_end ?_
   refine x_tn ?_
   refine x_seq ?_
   refine x_reg ?_
   refine o_move F rfl rfl (fun a F => ?_)
   refine o_add F rfl rfl rfl (show ck ((1 : Int) + 1) = some 2 from rfl) (fun a F => ?_)
   refine o_move F rfl rfl (fun a F => ?_)
   refine o_len Tryd.underlying63 F rfl rfl h18.rd (fun a F => ?_)
   have i188 := (h18.rd).r.len64
   refine o_lss F rfl rfl rfl (fun a F => ?_)
   refine x_end ?_
   refine x_tn ?_
   refine x_if F rfl (fun hb189 => ?_) (fun hb189 => ?_)
   ·
    replace hR := ifT hb189 hR
    refine x_reg ?_
    refine o_move F rfl rfl (fun a F => ?_)
    refine o_move F rfl rfl (fun a F => ?_)
    refine o_move F rfl rfl (fun a F => ?_)
    refine o_add F rfl rfl rfl (show ck ((1 : Int) + 1) = some 2 from rfl) (fun a F => ?_)
    obtain ⟨z190, c191, hR⟩ := bnd_some hR
    refine o_rindex Tryd.underlying63 Tryd.sizeOf9 F rfl rfl rfl h18 c191 (fun a p192 b193 h194 s195 rp196 F => ?_)
    have i197 := (h194).str
    refine o_loadT Tryd.isAgg9 F rfl rfl h194 (fun a F => ?_)
    obtain ⟨z198, c199, hR⟩ := bnd_some hR
    refine o_saysI F rfl Tryd.call56 rfl (impl_readNumber_c z198 c199 _ (hG.go hB) i197) (fun a w l iz198 F => ?_)
    replace hB := Below.through l hB
    replace h18 := h18.go l
    replace K12 := K12.thru l
    replace K121 := K121.thru l
    replace K137 := K137.thru l
    refine o_nilCheck F rfl rfl (fun a F => ?_)
    refine o_bstore Tryd.sizeOf2 F rfl rfl rfl K121 rfl (by first | simp | decide) rfl (fun w K121 l => ?_)
    replace hB := hB.o l (fun c hc => by rw [List.mem_singleton] at hc; rw [hc]; exact CK121) hB.size
    replace h18 := h18.goO l d129
    replace K12 := K12.only l (by simpa using nb130)
    replace K137 := K137.only l (by simpa using nb140.symm)
    refine x_end ?_
    refine x_bn ?_
    refine x_tn ?_
    exact ⟨z198, (Option.some.inj hR).symm, F.sub (sc rfl (sc rfl (sc rfl (sc rfl (sc rfl (sc rfl (sc rfl sn))))))), hB, iz198, h18, K12, K121, K137⟩
   replace hR := ifF hb189 hR
   refine x_skip ?_
   refine x_bn ?_
   refine x_tn ?_
   exact ⟨0, (Option.some.inj hR).symm, F.sub (sc rfl (sc rfl (sc rfl (sc rfl (sc rfl (sc rfl (sc rfl sn))))))), hB, i127, h18, K12, K121, K137⟩
  intro a w ⟨s186, ho185, F, hB, i187, h18, K12, K121, K137⟩
  subst ho185
  have hR := then_nx hk184
  refine x_tn ?_
  refine x_reg ?_
  refine o_add F rfl rfl rfl (show ck ((1 : Int) + 1) = some 2 from rfl) (fun a F => ?_)
  refine o_move F rfl rfl (fun a F => ?_)
  refine x_end ?_
  refine x_tn ?_
  refine x_rd ?_
  refine x_seq ?_
  refine x_reg ?_
  refine o_lss F rfl rfl rfl (fun a F => ?_)
  replace F := F.cast (show Value.bool (decide ((2 : Int) < 2)) = .bool false from rfl)
  refine x_end ?_
  refine x_tn ?_
  refine x_seq ?_
  refine x_iff F rfl ?_
  refine x_exit ?_
  refine x_te ?_
  refine x_te ?_
  refine x_be ?_
  refine x_tn ?_
  refine x_seq ?_
  refine x_seq ?_
  refine x_reg ?_
  refine o_bloadA (cs := [.int .i64 z42, .int .i64 s157, .int .i64 s186]) Tryd.isAgg38 Tryd.sizeOf38 F rfl rfl K121 rfl (fun j hj => by match j, hj with | 0, _ => rfl | 1, _ => rfl | 2, _ => rfl) (fun a F => ?_)
  have h200 := RDeed.mk2 (w := w) i125 i158 i187
  obtain ⟨z201, c202, hR⟩ := bnd_some hR
  refine o_gives F rfl Tryd.call19 rfl (impl_DeedText_c z201 c202 _ (hG.go hB).toGlo h200) (fun a vv w l ⟨hv204, i203⟩ F => ?_)
  subst vv
  replace hB := Below.through l hB
  replace K12 := K12.thru l
  replace K121 := K121.thru l
  refine o_assign F rfl rfl (fun a F => ?_)
  refine x_end ?_
  refine x_tn ?_
  refine x_seq ?_
  obtain ⟨o206, hR, hk207⟩ := thn_some hR
  refine x_cutQ (fun a w => ∃ (s209 : Bool), o206 = .nx s209 ∧ Sk a 52 [(2, .pointer (some ⟨b11, 0, none⟩)), (5, .pointer (some ⟨b120, 0, none⟩)), (49, .bool s209)] ∧ Below w0.heap.size w0 w ∧ Blk w b11 #[.int .i64 0, .int .i64 0, .int .i64 0] 38 ∧ Blk w b120 #[.int .i64 z42, .int .i64 s157, .int .i64 s186] 38) ?_ ?_
  ·
   refine x_reg ?_
   refine o_move F rfl rfl (fun a F => ?_)
   refine o_seql F rfl rfl rfl (fun a F => ?_)
   refine o_move F rfl rfl (fun a F => ?_)
   rcases bcases (sEq z201 (bstr [])) with hb210 | hb210
   ·
    replace hR := ifT hb210 hR
    have F := F.eq (t := 45) rfl (congrArg Value.bool hb210)
    refine o_no F rfl rfl (fun a F => ?_)
    refine o_no F rfl rfl (fun a F => ?_)
    refine o_no F rfl rfl (fun a F => ?_)
    refine o_pickt F rfl rfl rfl (fun a F => ?_)
    refine x_end ?_
    refine x_tn ?_
    exact ⟨true, (Option.some.inj hR).symm, F.sub (sc rfl (sc rfl (sc rfl sn))), hB, K12, K121⟩
   replace hR := ifF hb210 hR
   have F := F.eq (t := 45) rfl (congrArg Value.bool hb210)
   refine o_move F rfl rfl (fun a F => ?_)
   refine o_move F rfl rfl (fun a F => ?_)
   refine o_sneq F rfl rfl rfl (fun a F => ?_)
   refine o_pickf F rfl rfl rfl (fun a F => ?_)
   refine x_end ?_
   refine x_tn ?_
   exact ⟨(!sEq z201 x0), (Option.some.inj hR).symm, F.sub (sc rfl (sc rfl (sc rfl sn))), hB, K12, K121⟩
  intro a w ⟨s209, ho208, F, hB, K12, K121⟩
  subst ho208
  have hR := then_nx hk207
  refine x_tn ?_
  refine x_if F rfl (fun hb211 => ?_) (fun hb211 => ?_)
  ·
   replace hR := ifT hb211 hR
   refine x_seq ?_
   refine x_reg ?_
   refine o_build Tryd.underlying38 Tryd.zeroValue38 (fun w => by simp [Tryd.sizeOf2]; rfl) F rfl rfl rfl rfl rfl on rfl rfl (fun a F => ?_)
   have h212 := RDeed.mk2 (w := w) (show I64 0 by decide) (show I64 0 by decide) (show I64 0 by decide)
   refine o_bstoreA (vs := [.int .i64 0, .int .i64 0, .int .i64 0]) Tryd.sizeOf38 F rfl rfl rfl K12 (oc rfl (oc rfl (oc rfl on))) (Nat.le_of_ble_eq_true rfl) rfl (fun w K12 l => ?_)
   replace hB := hB.o l (fun c hc => by rw [List.mem_singleton] at hc; rw [hc]; exact CK12) hB.size
   refine o_assign F rfl rfl (fun a F => ?_)
   refine x_end ?_
   refine x_tn ?_
   refine x_ret ?_
   refine x_tr ?_
   refine x_res2 F rfl (rv_cA (arr := #[.int .i64 0, .int .i64 0, .int .i64 0]) F Tryd.isAgg38 Tryd.sizeOf38 rfl K12) (rv_t F rfl) ?_
   obtain rfl := Option.some.inj hR
   exact ⟨_, rfl, hB, rfl, (show I64 0 by decide), (show I64 0 by decide), (show I64 0 by decide), (show I64 (5) by decide)⟩
  replace hR := ifF hb211 hR
  refine x_skip ?_
  refine x_tn ?_
  refine x_seq ?_
  refine x_reg ?_
  refine o_bloadA (cs := [.int .i64 z42, .int .i64 s157, .int .i64 s186]) Tryd.isAgg38 Tryd.sizeOf38 F rfl rfl K121 rfl (fun j hj => by match j, hj with | 0, _ => rfl | 1, _ => rfl | 2, _ => rfl) (fun a F => ?_)
  have h213 := RDeed.mk2 (w := w) i125 i158 i187
  refine o_bstoreA (vs := [.int .i64 z42, .int .i64 s157, .int .i64 s186]) Tryd.sizeOf38 F rfl rfl rfl K12 (oc rfl (oc rfl (oc rfl on))) (Nat.le_of_ble_eq_true rfl) rfl (fun w K12 l => ?_)
  replace hB := hB.o l (fun c hc => by rw [List.mem_singleton] at hc; rw [hc]; exact CK12) hB.size
  refine o_assign F rfl rfl (fun a F => ?_)
  refine x_end ?_
  refine x_tn ?_
  refine x_ret ?_
  refine x_res2 F rfl (rv_cA (arr := #[.int .i64 z42, .int .i64 s157, .int .i64 s186]) F Tryd.isAgg38 Tryd.sizeOf38 rfl K12) (rv_t F rfl) ?_
  obtain rfl := Option.some.inj hR
  exact ⟨_, rfl, hB, rfl, i125, i158, i187, (show I64 (0) by decide)⟩
 refine dp (fun G => ∀ (b98 : Nat) (v103 : Value) (rb104 : List Nat) (a : Act) (w : World), Sk a 52 [(0, .string x0), (2, .pointer (some ⟨b11, 0, none⟩)), (4, v15), (5, .pointer (some ⟨b98, 0, none⟩)), (11, v103), (14, .string z22)] → Below w0.heap.size w0 w → Row 1 RStr 9 w0.heap.size w v15 z13 rb16 ([]) → I64 0 → I64 0 → I64 0 → w0.heap.size ≤ b98 → I64 0 → I64 0 → I64 0 → Row 1 RStr 9 w0.heap.size w v103 z29 rb104 ([]) → z22.size ≤ maxLen → Blk w b11 #[.int .i64 0, .int .i64 0, .int .i64 0] 38 → Blk w b98 #[.int .i64 0, .int .i64 0, .int .i64 0] 38 → Dj (rb16 ++ []) rb104 → Dj [b11] rb104 → Dj (rb104 ++ []) rb16 → Dj [b98] rb16 → Dj [b98] rb104 → Dj (rb16 ++ []) ([b98]) → b11 ≠ b98 → ∀ ls, ls = #[true, true, true, true, false, false, false, true, false] → G 4 ls a w) ?_ (fun H115 => ?_)
 ·
  intro b98 v103 rb104 a w F hB h18 i95 i96 i97 CK99 i100 i101 i102 h105 i107 K12 K99 d108 d109 d110 d111 d112 d113 nb114 ls hls
  subst hls
  refine b_e 4 rfl (by kernel_rfl) ?_
  refine o_saysI F rfl Tryd.call55 rfl (slices_Index_s_string_string_c z40 c41 _ h105.rd i107) (fun a w l iz40 F => ?_)
  replace hB := Below.through l hB
  replace h18 := h18.go l
  replace K12 := K12.thru l
  replace K99 := K99.thru l
  refine x_end ?_
  refine x_tn ?_
  refine ⟨.inl l, ?_⟩
  refine b_q0 5 rfl (by kernel_rfl) (by kernel_rfl) (by kernel_rfl) ?_
  refine v_val F rfl (fun w l => r_add F rfl rfl c43) (fun a F => ?_)
  refine b_q 6 (by kernel_rfl) rfl (by kernel_rfl) (by kernel_rfl) (by kernel_rfl) (by kernel_rfl) ?_
  refine v_val F rfl (fun w l => r_build Tryd.underlying38 Tryd.zeroValue38 (fun w => by simp [Tryd.sizeOf2]; rfl) F rfl rfl rfl rfl (oc rfl on) rfl rfl) (fun a F => ?_)
  have h116 := RDeed.mk2 (w := w) (ck64 c43) (show I64 0 by decide) (show I64 0 by decide)
  exact H132 b98 _ _ (F.sub (sc rfl (sc rfl (sc rfl (sc rfl (sc rfl sn)))))) hB h18 i95 i96 i97 CK99 i100 i101 i102 (ck64 c43) (show I64 0 by decide) (show I64 0 by decide) K12 K99 d111 d113 nb114 _ (by kernel_rfl)
 refine b_q0 1 rfl (by kernel_rfl) (by kernel_rfl) (by kernel_rfl) ?_
 refine v_val F rfl (fun w l => r_move F rfl) (fun a F => ?_)
 refine b_q 2 (by kernel_rfl) rfl (by kernel_rfl) (by kernel_rfl) (by kernel_rfl) (by kernel_rfl) ?_
 refine v_index Tryd.underlying63 Tryd.sizeOf9 F rfl rfl rfl h18.rd c23 (fun a p51 b52 h53 s54 F => ?_)
 refine b_q 3 (by kernel_rfl) rfl (by kernel_rfl) (by kernel_rfl) (by kernel_rfl) (by kernel_rfl) ?_
 have i55 := (h53).str
 refine v_val F rfl (fun w l => r_loadT Tryd.isAgg9 F rfl ((h53).go l)) (fun a F => ?_)
 refine b_es [0, 7] (by kernel_rfl) (by simp) ⟨⟨_, rfl, ?_⟩, ⟨_, rfl, ?_⟩, trivial⟩
 ·
  refine o_gives F rfl Tryd.call43 rfl (impl_deedWords_c z29 c30 _ (hG.go hB).toGlo) (fun a vv w l ⟨v56, rb57, hv60, h59⟩ F => ?_)
  subst vv
  have d62 := Dj.new h18.rd.m h59.ownR (Nat.le_refl _)
  have d63 := Dj.new (inm1 K12) h59.ownR (Nat.le_refl _)
  have d64 := Dj.app' (Dj.new h18.memR h59.ownR (Nat.le_refl _)).symm (Dj.nil' _)
  replace h59 := h59.base hB.size
  replace hB := Below.through l hB
  replace h18 := h18.go l
  replace K12 := K12.thru l
  refine x_end ?_
  refine x_tn ?_
  refine ⟨.inl l, ?_⟩
  refine b_es [4, 7] (by kernel_rfl) (by simp) ⟨⟨_, rfl, ?_⟩, ⟨_, rfl, ?_⟩, trivial⟩
  ·
   refine o_saysI F rfl Tryd.call55 rfl (slices_Index_s_string_string_c z40 c41 _ h59.rd i55) (fun a w l iz40 F => ?_)
   replace hB := Below.through l hB
   replace h18 := h18.go l
   replace K12 := K12.thru l
   refine x_end ?_
   refine x_tn ?_
   refine ⟨.inl l, ?_⟩
   refine b_q0 5 rfl (by kernel_rfl) (by kernel_rfl) (by kernel_rfl) ?_
   refine v_val F rfl (fun w l => r_add F rfl rfl c43) (fun a F => ?_)
   refine b_q 6 (by kernel_rfl) rfl (by kernel_rfl) (by kernel_rfl) (by kernel_rfl) (by kernel_rfl) ?_
   refine v_val F rfl (fun w l => r_build Tryd.underlying38 Tryd.zeroValue38 (fun w => by simp [Tryd.sizeOf2]; rfl) F rfl rfl rfl rfl (oc rfl on) rfl rfl) (fun a F => ?_)
   have h65 := RDeed.mk2 (w := w) (ck64 c43) (show I64 0 by decide) (show I64 0 by decide)
   refine b_e 7 rfl (by kernel_rfl) ?_
   refine o_alloc Tryd.zeroValue38 F rfl rfl (fun a w b66 K67 l BK67 F => ?_)
   have d68 := dj1 h18.memR BK67
   have nb69 := Dj.bb K12 BK67
   have d70 := (dj1 h65.m BK67).symm
   have d71 := (dj1 h18.rd.m BK67).symm
   have CK67 := Nat.le_trans hB.size BK67
   replace hB := Below.through l hB
   replace h18 := h18.go l
   replace h65 := h65.go l
   replace K12 := K12.thru l
   refine x_end ?_
   refine x_tn ?_
   refine ⟨.inl l, ?_⟩
   exact H132 b66 _ _ (F.sub (sc rfl (sc rfl (sc rfl (sc rfl (sc rfl sn)))))) hB h18 (show I64 0 by decide) (show I64 0 by decide) (show I64 0 by decide) CK67 (show I64 0 by decide) (show I64 0 by decide) (show I64 0 by decide) (ck64 c43) (show I64 0 by decide) (show I64 0 by decide) K12 K67 d68 d71 nb69 _ (by kernel_rfl)
  refine o_alloc Tryd.zeroValue38 F rfl rfl (fun a w b72 K73 l BK73 F => ?_)
  have d74 := dj1 h18.memR BK73
  have d75 := dj1 h59.memR BK73
  have nb76 := Dj.bb K12 BK73
  have d77 := (dj1 h18.rd.m BK73).symm
  have d78 := (dj1 h59.rd.m BK73).symm
  have CK73 := Nat.le_trans hB.size BK73
  replace hB := Below.through l hB
  replace h18 := h18.go l
  replace h59 := h59.go l
  replace K12 := K12.thru l
  refine x_end ?_
  refine x_tn ?_
  refine ⟨.inl l, ?_⟩
  exact H115 b72 v56 rb57 _ _ (F.sub (sc rfl (sc rfl (sc rfl (sc rfl (sc rfl (sc rfl sn))))))) hB h18 (show I64 0 by decide) (show I64 0 by decide) (show I64 0 by decide) CK73 (show I64 0 by decide) (show I64 0 by decide) (show I64 0 by decide) h59 i55 K12 K73 d62 d63 d64 d74 d75 d77 nb76 _ (by kernel_rfl)
 refine o_alloc Tryd.zeroValue38 F rfl rfl (fun a w b79 K80 l BK80 F => ?_)
 have d81 := dj1 h18.memR BK80
 have nb82 := Dj.bb K12 BK80
 have d83 := (dj1 h53.m BK80).symm
 have d84 := (dj1 h18.rd.m BK80).symm
 have CK80 := Nat.le_trans hB.size BK80
 replace hB := Below.through l hB
 replace h18 := h18.go l
 replace K12 := K12.thru l
 refine x_end ?_
 refine x_tn ?_
 refine ⟨.inl l, ?_⟩
 refine b_e 0 rfl (by kernel_rfl) ?_
 refine o_gives F rfl Tryd.call43 rfl (impl_deedWords_c z29 c30 _ (hG.go hB).toGlo) (fun a vv w l ⟨v85, rb86, hv89, h88⟩ F => ?_)
 subst vv
 have d91 := Dj.new h18.rd.m h88.ownR (Nat.le_refl _)
 have d92 := Dj.new (inm1 K12) h88.ownR (Nat.le_refl _)
 have d93 := Dj.new (inm1 K80) h88.ownR (Nat.le_refl _)
 have d94 := Dj.app' (Dj.new h18.memR h88.ownR (Nat.le_refl _)).symm (Dj.nil' _)
 replace h88 := h88.base hB.size
 replace hB := Below.through l hB
 replace h18 := h18.go l
 replace K12 := K12.thru l
 replace K80 := K80.thru l
 refine x_end ?_
 refine x_tn ?_
 refine ⟨.inl l, ?_⟩
 exact H115 b79 v85 rb86 _ _ (F.sub (sc rfl (sc rfl (sc rfl (sc rfl (sc rfl (sc rfl sn))))))) hB h18 (show I64 0 by decide) (show I64 0 by decide) (show I64 0 by decide) CK80 (show I64 0 by decide) (show I64 0 by decide) (show I64 0 by decide) h88 i55 K12 K80 d91 d92 d94 d81 d93 d84 nb82 _ (by kernel_rfl)
end Go.Proofs.YtjjdbdlbjdoebaaDoor
