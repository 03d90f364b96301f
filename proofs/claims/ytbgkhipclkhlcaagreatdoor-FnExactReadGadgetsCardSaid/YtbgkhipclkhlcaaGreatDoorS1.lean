/-
  Functions of the program as plain functions, and that they compute them. Printed by sg.py.
-/
import Derived.Test.YtbgkhipclkhlcaaGreatDoorZ
import Derived.Test.YtbgkhipclkhlcaaGreatDoorGC
namespace Go.Proofs.YtbgkhipclkhlcaaGreatDoor
set_option linter.unusedVariables false
set_option linter.unusedSimpArgs false
set_option maxRecDepth 100000
open Go.RowKit
def spec_l01Split (x0 : ByteArray) (x1 : UInt8) : Option (List ByteArray) :=
 thn (σ := (List ByteArray) × Int) (
  forI (σ := (List ByteArray) × Int) (ρ := (List ByteArray)) (fun (k47 : Nat) (s : (List ByteArray) × Int) =>
    match s with
    | (s37, s40) =>
    bnd (six x0 (k47 : Int)) fun z53 =>
    if ((z53.toNat : Int) == (x1.toNat : Int)) then
     bnd (ssl x0 s40 (k47 : Int)) fun z56 =>
     bnd (ap s37 ([z56])) fun z60 =>
     bnd (ck ((k47 : Int) + 1)) fun z64 =>
     some (.go (z60, z64))
    else
     some (.go (s37, s40))) (x0.size : Int).toNat 0 ([], 0)) fun (s42, s45) =>
 bnd (ssl x0 s45 (x0.size : Int)) fun z66 =>
 bnd (ap s42 ([z66])) fun z70 =>
 some z70
set_option maxHeartbeats 1000000 in
theorem spec_l01Split_c {B : Nat → Prop} {x0 : ByteArray} {x1 : UInt8} (r : (List ByteArray)) (hR : spec_l01Split x0 x1 = some r)  (w0 : World) (hN : ∀ c, B c → c < w0.heap.size) (hx0 : x0.size ≤ maxLen) : Calls Tryz.prog 9 #[.string x0, .int .u8 (x1).toNat] w0 (Gv (fun v w' => ∃ (v1' : Value), v = v1' ∧ Sep [] B w0 w' [rl 1 RStr 9 v1' r])) := by
 unfold spec_l01Split at hR
 refine x_enter (L := [(0, .string x0), (1, .int .u8 (x1).toNat)]) Tryz.func9 rfl rfl rfl (sc rfl (sc rfl sn)) (fun a F => ?_)
 have H := Sep.start hN
 refine x_seq ?_
 refine x_reg ?_
 refine o_assign F rfl rfl (fun a F => ?_)
 refine x_end ?_
 refine x_tn ?_
 refine x_seq ?_
 refine x_reg ?_
 refine oR0 (R := RStr) Tryz.underlying30 Tryz.sizeOf9 F rfl H (fun a w v11 H F => ?_)
 refine o_assign F rfl rfl (fun a F => ?_)
 refine x_end ?_
 refine x_tn ?_
 refine x_seq ?_
 refine x_reg ?_
 refine o_assign F rfl rfl (fun a F => ?_)
 refine x_end ?_
 refine x_tn ?_
 refine x_seq ?_
 refine x_seq ?_
 refine x_reg ?_
 refine o_assign F rfl rfl (fun a F => ?_)
 refine x_end ?_
 refine x_tn ?_
 obtain ⟨o31, hR, hk32⟩ := thn_some hR
 refine x_cutQ (fun a w => ∃ (s42 : List ByteArray) (v44 : Value) (s45 : Int), o31 = .nx (s42, s45) ∧ Sk a 35 [(0, .string x0), (5, v44), (6, .int .i64 s45)] ∧ Sep [] B w0 w [rl 1 RStr 9 v44 s42] ∧ I64 s45) ?_ ?_
 ·
  refine x_blk ?_
  obtain ⟨fl35, hf36, hR⟩ := forI_gen hR
  refine x_loop (fun g a w => ∃ (k47 : Nat) (s37 : List ByteArray) (v39 : Value) (s40 : Int), k47 + g = (x0.size : Int).toNat ∧ forI fl35 g k47 (s37, s40) = some o31 ∧ Sk a 35 [(7, .int .i64 (k47 : Int)), (0, .string x0), (1, .int .u8 (x1).toNat), (5, v39), (6, .int .i64 s40)] ∧ Sep [] B w0 w [rl 1 RStr 9 v39 s37] ∧ I64 s40) (x0.size : Int).toNat ?_ ?_
  ·
   exact ⟨0, [], v11, 0, (Nat.zero_add _), hR, F.sub (sc rfl (sc rfl (sc rfl (sc rfl (sc rfl sn))))), H, (show I64 (0) by decide)⟩
  intro g50 a w ⟨k47, s37, v39, s40, hd51, hR, F, H, i41⟩
  cases g50 with
  | zero =>
   replace hR := forI_zero hR
   have hlk47 := dec_noI hd51
   refine x_seq ?_
   refine x_seq ?_
   refine x_reg ?_
   refine o_move F rfl rfl (fun a F => ?_)
   refine o_move F rfl rfl (fun a F => ?_)
   refine o_lenStr Tryz.underlying9 F rfl rfl (fun a F => ?_)
   refine o_lss F rfl rfl rfl (fun a F => ?_)
   refine x_end ?_
   refine x_tn ?_
   refine x_ifF F rfl hlk47 ?_
   refine x_exit ?_
   refine x_te ?_
   refine x_te ?_
   refine x_be ?_
   refine x_tn ?_
   exact ⟨s37, v39, s40, (Option.some.inj hR).symm, F.sub (sc rfl (sc rfl (sc rfl sn))), H, i41⟩
  | succ g50 =>
   obtain ⟨ck47, hR, hn34⟩ := forI_succ hR
   rw [hf36] at hR
   have hlk47 := dec_yesI hd51
   refine x_seq ?_
   refine x_seq ?_
   refine x_reg ?_
   refine o_move F rfl rfl (fun a F => ?_)
   refine o_move F rfl rfl (fun a F => ?_)
   refine o_lenStr Tryz.underlying9 F rfl rfl (fun a F => ?_)
   refine o_lss F rfl rfl rfl (fun a F => ?_)
   refine x_end ?_
   refine x_tn ?_
   refine x_ifT F rfl hlk47 ?_
   refine x_skip ?_
   refine x_tn ?_
   refine x_seq ?_
   have ikk47 := k64I hd51 (str64 hx0)
   have ink47 := inc64I hd51 (str64 hx0)
   refine x_blk ?_
   refine x_seq ?_
   refine x_reg ?_
   refine o_move F rfl rfl (fun a F => ?_)
   refine o_move F rfl rfl (fun a F => ?_)
   obtain ⟨z53, c54, hR⟩ := bnd_some hR
   refine o_six Tryz.underlying9 F rfl rfl rfl c54 (fun a F => ?_)
   refine o_move F rfl rfl (fun a F => ?_)
   refine o_eqlU F rfl rfl rfl (fun a F => ?_)
   refine x_end ?_
   refine x_tn ?_
   refine x_if F rfl (fun hb55 => ?_) (fun hb55 => ?_)
   ·
    replace hR := ifT hb55 hR
    refine x_seq ?_
    refine x_reg ?_
    refine o_move F rfl rfl (fun a F => ?_)
    refine o_move F rfl rfl (fun a F => ?_)
    refine o_move F rfl rfl (fun a F => ?_)
    refine o_move F rfl rfl (fun a F => ?_)
    obtain ⟨z56, c57, hR⟩ := bnd_some hR
    refine o_ssllh Tryz.underlying9 F rfl rfl rfl rfl c57 (fun a F => ?_)
    refine oR1z (R := RStr) (y := z56) Tryz.underlying30 Tryz.sizeOf9 Tryz.zeroValue9 rfl rfl F rfl rfl H (Eo.str (ssl_sz c57 hx0)) (fun a w v58 H F => ?_)
    obtain ⟨z60, c61, hR⟩ := bnd_some hR
    refine oPL (sz := 1) (R := RStr) (z := (.string ByteArray.empty)) (bytes := 16) Tryz.underlying30 (by kernel_rfl) rfl rfl F rfl rfl rfl (H.s [1, 0] rfl rfl) c61 (fun a w v62 H F => ?_)
    refine o_assign F rfl rfl (fun a F => ?_)
    refine x_end ?_
    refine x_tn ?_
    refine x_reg ?_
    refine o_move F rfl rfl (fun a F => ?_)
    obtain ⟨z64, c65, hR⟩ := bnd_some hR
    refine o_add F rfl rfl rfl c65 (fun a F => ?_)
    refine o_assign F rfl rfl (fun a F => ?_)
    refine x_end ?_
    refine x_bn ?_
    refine x_tn ?_
    refine x_reg ?_
    refine o_move F rfl rfl (fun a F => ?_)
    refine o_inc F rfl rfl rfl ink47 (fun a F => ?_)
    refine o_assign F rfl rfl (fun a F => ?_)
    refine x_end ?_
    refine x_tn ?_
    replace hR := l_go hR hn34
    exact ⟨_, Nat.lt_succ_self _, k47 + 1, z60, v62, z64, (by omega), hR, F.sub (sc rfl (sc rfl (sc rfl (sc rfl (sc rfl sn))))), H, (ck64 c65)⟩
   replace hR := ifF hb55 hR
   refine x_skip ?_
   refine x_bn ?_
   refine x_tn ?_
   refine x_reg ?_
   refine o_move F rfl rfl (fun a F => ?_)
   refine o_inc F rfl rfl rfl ink47 (fun a F => ?_)
   refine o_assign F rfl rfl (fun a F => ?_)
   refine x_end ?_
   refine x_tn ?_
   replace hR := l_go hR hn34
   exact ⟨_, Nat.lt_succ_self _, k47 + 1, s37, v39, s40, (by omega), hR, F.sub (sc rfl (sc rfl (sc rfl (sc rfl (sc rfl sn))))), H, i41⟩
 intro a w ⟨s42, v44, s45, ho33, F, H, i46⟩
 subst ho33
 have hR := then_nx hk32
 refine x_tn ?_
 refine x_seq ?_
 refine x_reg ?_
 refine o_move F rfl rfl (fun a F => ?_)
 refine o_move F rfl rfl (fun a F => ?_)
 refine o_move F rfl rfl (fun a F => ?_)
 obtain ⟨z66, c67, hR⟩ := bnd_some hR
 refine o_ssll Tryz.underlying9 F rfl rfl rfl c67 (fun a F => ?_)
 refine oR1z (R := RStr) (y := z66) Tryz.underlying30 Tryz.sizeOf9 Tryz.zeroValue9 rfl rfl F rfl rfl H (Eo.str (ssl_sz c67 hx0)) (fun a w v68 H F => ?_)
 obtain ⟨z70, c71, hR⟩ := bnd_some hR
 refine oPL (sz := 1) (R := RStr) (z := (.string ByteArray.empty)) (bytes := 16) Tryz.underlying30 (by kernel_rfl) rfl rfl F rfl rfl rfl (H.s [1, 0] rfl rfl) c71 (fun a w v72 H F => ?_)
 refine o_assign F rfl rfl (fun a F => ?_)
 refine x_end ?_
 refine x_tn ?_
 refine x_ret ?_
 refine x_res1 F rfl (rv_t F rfl) ?_
 obtain rfl := Option.some.inj hR
 exact ⟨_, rfl, v72, rfl, H⟩

def spec_l01Number (x0 : ByteArray) : Option (Int × Bool) :=
 thn (σ := Bool) (
  if (decide ((x0.size : Int) < 1)) then  some (.nx true) else  if (decide (9 < (x0.size : Int))) then  some (.nx true) else  bnd (six x0 0) fun z22 =>
    if ((z22.toNat : Int) == ((48 : UInt8).toNat : Int)) then  some (.nx (decide (1 < (x0.size : Int)))) else  some (.nx false)) fun s19 =>
 if s19 then
  some (0, false)
 else
  thn (σ := Int) (
   forI (σ := Int) (ρ := Int × Bool) (fun (k55 : Nat) (s51 : Int) =>
    thn (σ := Bool) (
     bnd (six x0 (k55 : Int)) fun z68 =>
     if (decide ((z68.toNat : Int) < ((48 : UInt8).toNat : Int))) then  some (.nx true) else  some (.nx (decide (((57 : UInt8).toNat : Int) < (z68.toNat : Int))))) fun s67 =>
    if s67 then
     some (.ret (0, false))
    else
     bnd (ck (s51 * 10)) fun z72 =>
     bnd (six x0 (k55 : Int)) fun z74 =>
     bnd (ck (z72 + ((u8w ((z74.toNat : Int) - ((48 : UInt8).toNat : Int))).toNat : Int))) fun z76 =>
     some (.go z76)) (x0.size : Int).toNat 0 0) fun s53 =>
  some (s53, true)
set_option maxHeartbeats 1000000 in
theorem spec_l01Number_c {B : Nat → Prop} {x0 : ByteArray} (r : Int × Bool) (hR : spec_l01Number x0 = some r)  (w0 : World) (hN : ∀ c, B c → c < w0.heap.size) (hx0 : x0.size ≤ maxLen) : Calls Tryz.prog 18 #[.string x0] w0 (Gv (fun v w' => v = .tuple #[.int .i64 r.1, .bool r.2] ∧ Sep [] B w0 w' [] ∧ I64 r.1)) := by
 unfold spec_l01Number at hR
 refine x_enter (L := [(0, .string x0)]) Tryz.func18 rfl rfl rfl (sc rfl sn) (fun a F => ?_)
 have H := Sep.start hN
 refine x_seq ?_
 refine x_reg ?_
 refine o_assign F rfl rfl (fun a F => ?_)
 refine o_assign F rfl rfl (fun a F => ?_)
 refine x_end ?_
 refine x_tn ?_
 refine x_seq ?_
 refine x_seq ?_
 obtain ⟨o16, hR, hk17⟩ := thn_some hR
 refine x_cutQ (fun a w => ∃ (s19 : Bool), o16 = .nx s19 ∧ Sk a 49 [(0, .string x0), (23, .bool s19)] ∧ Sep [] B w0 w []) ?_ ?_
 ·
  refine x_reg ?_
  refine o_move F rfl rfl (fun a F => ?_)
  refine o_lenStr Tryz.underlying9 F rfl rfl (fun a F => ?_)
  refine o_lss F rfl rfl rfl (fun a F => ?_)
  refine o_move F rfl rfl (fun a F => ?_)
  rcases bcases (decide ((x0.size : Int) < 1)) with hb20 | hb20
  ·
   replace hR := ifT hb20 hR
   have F := F.eq (t := 9) rfl (congrArg Value.bool hb20)
   refine o_no F rfl rfl (fun a F => ?_)
   refine o_no F rfl rfl (fun a F => ?_)
   refine o_no F rfl rfl (fun a F => ?_)
   refine o_pickt F rfl rfl rfl (fun a F => ?_)
   refine o_move F rfl rfl (fun a F => ?_)
   refine o_no F rfl rfl (fun a F => ?_)
   refine o_no F rfl rfl (fun a F => ?_)
   refine o_no F rfl rfl (fun a F => ?_)
   refine o_no F rfl rfl (fun a F => ?_)
   refine o_no F rfl rfl (fun a F => ?_)
   refine o_no F rfl rfl (fun a F => ?_)
   refine o_no F rfl rfl (fun a F => ?_)
   refine o_no F rfl rfl (fun a F => ?_)
   refine o_pickt F rfl rfl rfl (fun a F => ?_)
   refine x_end ?_
   refine x_tn ?_
   exact ⟨true, (Option.some.inj hR).symm, F.sub (sc rfl (sc rfl sn)), H⟩
  replace hR := ifF hb20 hR
  have F := F.eq (t := 9) rfl (congrArg Value.bool hb20)
  refine o_move F rfl rfl (fun a F => ?_)
  refine o_lenStr Tryz.underlying9 F rfl rfl (fun a F => ?_)
  refine o_gtr F rfl rfl rfl (fun a F => ?_)
  refine o_pickf F rfl rfl rfl (fun a F => ?_)
  refine o_move F rfl rfl (fun a F => ?_)
  rcases bcases (decide (9 < (x0.size : Int))) with hb21 | hb21
  ·
   replace hR := ifT hb21 hR
   have F := F.eq (t := 14) rfl (congrArg Value.bool hb21)
   refine o_no F rfl rfl (fun a F => ?_)
   refine o_no F rfl rfl (fun a F => ?_)
   refine o_no F rfl rfl (fun a F => ?_)
   refine o_no F rfl rfl (fun a F => ?_)
   refine o_no F rfl rfl (fun a F => ?_)
   refine o_no F rfl rfl (fun a F => ?_)
   refine o_no F rfl rfl (fun a F => ?_)
   refine o_no F rfl rfl (fun a F => ?_)
   refine o_pickt F rfl rfl rfl (fun a F => ?_)
   refine x_end ?_
   refine x_tn ?_
   exact ⟨true, (Option.some.inj hR).symm, F.sub (sc rfl (sc rfl sn)), H⟩
  replace hR := ifF hb21 hR
  have F := F.eq (t := 14) rfl (congrArg Value.bool hb21)
  refine o_move F rfl rfl (fun a F => ?_)
  obtain ⟨z22, c23, hR⟩ := bnd_some hR
  refine o_six Tryz.underlying9 F rfl rfl rfl c23 (fun a F => ?_)
  refine o_eqlU (j := (48 : UInt8)) F rfl rfl rfl (fun a F => ?_)
  refine o_move F rfl rfl (fun a F => ?_)
  rcases bcases ((z22.toNat : Int) == ((48 : UInt8).toNat : Int)) with hb24 | hb24
  ·
   replace hR := ifT hb24 hR
   have F := F.eq (t := 18) rfl (congrArg Value.bool hb24)
   refine o_move F rfl rfl (fun a F => ?_)
   refine o_lenStr Tryz.underlying9 F rfl rfl (fun a F => ?_)
   refine o_gtr F rfl rfl rfl (fun a F => ?_)
   refine o_pickt F rfl rfl rfl (fun a F => ?_)
   refine o_pickf F rfl rfl rfl (fun a F => ?_)
   refine x_end ?_
   refine x_tn ?_
   exact ⟨(decide (1 < (x0.size : Int))), (Option.some.inj hR).symm, F.sub (sc rfl (sc rfl sn)), H⟩
  replace hR := ifF hb24 hR
  have F := F.eq (t := 18) rfl (congrArg Value.bool hb24)
  refine o_no F rfl rfl (fun a F => ?_)
  refine o_no F rfl rfl (fun a F => ?_)
  refine o_no F rfl rfl (fun a F => ?_)
  refine o_pickf F rfl rfl rfl (fun a F => ?_)
  refine o_pickf F rfl rfl rfl (fun a F => ?_)
  refine x_end ?_
  refine x_tn ?_
  exact ⟨false, (Option.some.inj hR).symm, F.sub (sc rfl (sc rfl sn)), H⟩
 intro a w ⟨s19, ho18, F, H⟩
 subst ho18
 have hR := then_nx hk17
 refine x_tn ?_
 refine x_if F rfl (fun hb25 => ?_) (fun hb25 => ?_)
 ·
  replace hR := ifT hb25 hR
  refine x_seq ?_
  refine x_reg ?_
  refine o_assign F rfl rfl (fun a F => ?_)
  refine o_assign F rfl rfl (fun a F => ?_)
  refine x_end ?_
  refine x_tn ?_
  refine x_ret ?_
  refine x_tr ?_
  refine x_res2 F rfl (rv_t F rfl) (rv_t F rfl) ?_
  obtain rfl := Option.some.inj hR
  exact ⟨_, rfl, rfl, H, (show I64 (0) by decide)⟩
 replace hR := ifF hb25 hR
 refine x_skip ?_
 refine x_tn ?_
 refine x_seq ?_
 refine x_reg ?_
 refine o_assign F rfl rfl (fun a F => ?_)
 refine x_end ?_
 refine x_tn ?_
 refine x_seq ?_
 refine x_seq ?_
 refine x_reg ?_
 refine o_assign F rfl rfl (fun a F => ?_)
 refine x_end ?_
 refine x_tn ?_
 obtain ⟨o45, hR, hk46⟩ := thn_some hR
 refine x_cutQ (fun a w => ∃ (s53 : Int), o45 = .nx s53 ∧ Sk a 49 [(4, .int .i64 s53)] ∧ Sep [] B w0 w [] ∧ I64 s53) ?_ ?_
 ·
  refine x_blk ?_
  obtain ⟨fl49, hf50, hR⟩ := forI_gen hR
  refine x_loop (fun g a w => ∃ (k55 : Nat) (s51 : Int), k55 + g = (x0.size : Int).toNat ∧ forI fl49 g k55 s51 = some o45 ∧ Sk a 49 [(5, .int .i64 (k55 : Int)), (0, .string x0), (4, .int .i64 s51)] ∧ Sep [] B w0 w [] ∧ I64 s51) (x0.size : Int).toNat ?_ ?_
  ·
   exact ⟨0, 0, (Nat.zero_add _), hR, F.sub (sc rfl (sc rfl (sc rfl sn))), H, (show I64 (0) by decide)⟩
  intro g58 a w ⟨k55, s51, hd59, hR, F, H, i52⟩
  cases g58 with
  | zero =>
   replace hR := forI_zero hR
   have hlk55 := dec_noI hd59
   refine x_seq ?_
   refine x_seq ?_
   refine x_reg ?_
   refine o_move F rfl rfl (fun a F => ?_)
   refine o_move F rfl rfl (fun a F => ?_)
   refine o_lenStr Tryz.underlying9 F rfl rfl (fun a F => ?_)
   refine o_lss F rfl rfl rfl (fun a F => ?_)
   refine x_end ?_
   refine x_tn ?_
   refine x_ifF F rfl hlk55 ?_
   refine x_exit ?_
   refine x_te ?_
   refine x_te ?_
   refine x_be ?_
   refine x_tn ?_
   exact ⟨s51, (Option.some.inj hR).symm, F.sub (sc rfl sn), H, i52⟩
  | succ g58 =>
   obtain ⟨ck55, hR, hn48⟩ := forI_succ hR
   rw [hf50] at hR
   have hlk55 := dec_yesI hd59
   refine x_seq ?_
   refine x_seq ?_
   refine x_reg ?_
   refine o_move F rfl rfl (fun a F => ?_)
   refine o_move F rfl rfl (fun a F => ?_)
   refine o_lenStr Tryz.underlying9 F rfl rfl (fun a F => ?_)
   refine o_lss F rfl rfl rfl (fun a F => ?_)
   refine x_end ?_
   refine x_tn ?_
   refine x_ifT F rfl hlk55 ?_
   refine x_skip ?_
   refine x_tn ?_
   refine x_seq ?_
   have ikk55 := k64I hd59 (str64 hx0)
   have ink55 := inc64I hd59 (str64 hx0)
   refine x_blk ?_
   refine x_seq ?_
   refine x_seq ?_
   obtain ⟨o64, hR, hk65⟩ := thn_some hR
   refine x_cutQ (fun a w => ∃ (s67 : Bool), o64 = .nx s67 ∧ Sk a 49 [(0, .string x0), (4, .int .i64 s51), (5, .int .i64 (k55 : Int)), (39, .bool s67)] ∧ Sep [] B w0 w []) ?_ ?_
   ·
    refine x_reg ?_
    refine o_move F rfl rfl (fun a F => ?_)
    refine o_move F rfl rfl (fun a F => ?_)
    obtain ⟨z68, c69, hR⟩ := bnd_some hR
    refine o_six Tryz.underlying9 F rfl rfl rfl c69 (fun a F => ?_)
    refine o_lssU (j := (48 : UInt8)) F rfl rfl rfl (fun a F => ?_)
    refine o_move F rfl rfl (fun a F => ?_)
    rcases bcases (decide ((z68.toNat : Int) < ((48 : UInt8).toNat : Int))) with hb70 | hb70
    ·
     replace hR := ifT hb70 hR
     have F := F.eq (t := 34) rfl (congrArg Value.bool hb70)
     refine o_no F rfl rfl (fun a F => ?_)
     refine o_no F rfl rfl (fun a F => ?_)
     refine o_no F rfl rfl (fun a F => ?_)
     refine o_no F rfl rfl (fun a F => ?_)
     refine o_pickt F rfl rfl rfl (fun a F => ?_)
     refine x_end ?_
     refine x_tn ?_
     exact ⟨true, (Option.some.inj hR).symm, F.sub (sc rfl (sc rfl (sc rfl (sc rfl sn)))), H⟩
    replace hR := ifF hb70 hR
    have F := F.eq (t := 34) rfl (congrArg Value.bool hb70)
    refine o_move F rfl rfl (fun a F => ?_)
    refine o_move F rfl rfl (fun a F => ?_)
    refine o_six Tryz.underlying9 F rfl rfl rfl c69 (fun a F => ?_)
    refine o_gtrU (j := (57 : UInt8)) F rfl rfl rfl (fun a F => ?_)
    refine o_pickf F rfl rfl rfl (fun a F => ?_)
    refine x_end ?_
    refine x_tn ?_
    exact ⟨(decide (((57 : UInt8).toNat : Int) < (z68.toNat : Int))), (Option.some.inj hR).symm, F.sub (sc rfl (sc rfl (sc rfl (sc rfl sn)))), H⟩
   intro a w ⟨s67, ho66, F, H⟩
   subst ho66
   have hR := then_nx hk65
   refine x_tn ?_
   refine x_if F rfl (fun hb71 => ?_) (fun hb71 => ?_)
   ·
    replace hR := ifT hb71 hR
    refine x_seq ?_
    refine x_reg ?_
    refine o_assign F rfl rfl (fun a F => ?_)
    refine o_assign F rfl rfl (fun a F => ?_)
    refine x_end ?_
    refine x_tn ?_
    refine x_ret ?_
    refine x_tr ?_
    refine x_br ?_
    refine x_tr ?_
    refine x_tr ?_
    replace hR := l_ret hR hn48
    refine x_br ?_
    refine x_tr ?_
    replace hR := j_ret hR hk46
    refine x_tr ?_
    refine x_res2 F rfl (rv_t F rfl) (rv_t F rfl) ?_
    obtain rfl := Option.some.inj hR
    exact ⟨_, rfl, rfl, H, (show I64 (0) by decide)⟩
   replace hR := ifF hb71 hR
   refine x_skip ?_
   refine x_tn ?_
   refine x_reg ?_
   refine o_move F rfl rfl (fun a F => ?_)
   obtain ⟨z72, c73, hR⟩ := bnd_some hR
   refine o_mul F rfl rfl rfl c73 (fun a F => ?_)
   refine o_move F rfl rfl (fun a F => ?_)
   refine o_move F rfl rfl (fun a F => ?_)
   obtain ⟨z74, c75, hR⟩ := bnd_some hR
   refine o_six Tryz.underlying9 F rfl rfl rfl c75 (fun a F => ?_)
   refine o_subU (j := (48 : UInt8)) F rfl rfl rfl (fun a F => ?_)
   refine o_convI Tryz.underlying5 Tryz.underlying2 F rfl rfl (fun a F => ?_)
   obtain ⟨z76, c77, hR⟩ := bnd_some hR
   refine o_add F rfl rfl rfl c77 (fun a F => ?_)
   refine o_assign F rfl rfl (fun a F => ?_)
   refine x_end ?_
   refine x_bn ?_
   refine x_tn ?_
   refine x_reg ?_
   refine o_move F rfl rfl (fun a F => ?_)
   refine o_inc F rfl rfl rfl ink55 (fun a F => ?_)
   refine o_assign F rfl rfl (fun a F => ?_)
   refine x_end ?_
   refine x_tn ?_
   replace hR := l_go hR hn48
   exact ⟨_, Nat.lt_succ_self _, k55 + 1, z76, (by omega), hR, F.sub (sc rfl (sc rfl (sc rfl sn))), H, (ck64 c77)⟩
 intro a w ⟨s53, ho47, F, H, i54⟩
 subst ho47
 have hR := then_nx hk46
 refine x_tn ?_
 refine x_seq ?_
 refine x_reg ?_
 refine o_move F rfl rfl (fun a F => ?_)
 refine o_assign F rfl rfl (fun a F => ?_)
 refine o_assign F rfl rfl (fun a F => ?_)
 refine x_end ?_
 refine x_tn ?_
 refine x_ret ?_
 refine x_res2 F rfl (rv_t F rfl) (rv_t F rfl) ?_
 obtain rfl := Option.some.inj hR
 exact ⟨_, rfl, rfl, H, i54⟩

def spec_l00In (x0 : Int) (x1 : Int) (x2 : Int) : Option Bool :=
 thn (σ := Bool) (
  if (decide (x1 ≤ x0)) then  some (.nx (decide (x0 ≤ x2))) else  some (.nx false)) fun s15 =>
 some s15
set_option maxHeartbeats 1000000 in
theorem spec_l00In_c {B : Nat → Prop} {x0 : Int} {x1 : Int} {x2 : Int} (r : Bool) (hR : spec_l00In x0 x1 x2 = some r)  (w0 : World) (hN : ∀ c, B c → c < w0.heap.size) (hx0 : I64 x0) (hx1 : I64 x1) (hx2 : I64 x2) : Calls Tryz.prog 30 #[.int .i64 x0, .int .i64 x1, .int .i64 x2] w0 (Says (.bool r) w0) := by
 unfold spec_l00In at hR
 refine x_enter (L := [(0, .int .i64 x0), (1, .int .i64 x1), (2, .int .i64 x2)]) Tryz.func30 rfl rfl rfl (sc rfl (sc rfl (sc rfl sn))) (fun a F => ?_)
 have H := Sep.start hN
 refine x_seq ?_
 refine x_reg ?_
 refine o_assign F rfl rfl (fun a F => ?_)
 refine x_end ?_
 refine x_tn ?_
 refine x_seq ?_
 obtain ⟨o12, hR, hk13⟩ := thn_some hR
 refine x_cutQ (fun a w => ∃ (s15 : Bool), o12 = .nx s15 ∧ Sk a 15 [(6, .bool s15)] ∧ Sep [] B w0 w []) ?_ ?_
 ·
  refine x_reg ?_
  refine o_move F rfl rfl (fun a F => ?_)
  refine o_move F rfl rfl (fun a F => ?_)
  refine o_geq F rfl rfl rfl (fun a F => ?_)
  refine o_move F rfl rfl (fun a F => ?_)
  rcases bcases (decide (x1 ≤ x0)) with hb16 | hb16
  ·
   replace hR := ifT hb16 hR
   have F := F.eq (t := 10) rfl (congrArg Value.bool hb16)
   refine o_move F rfl rfl (fun a F => ?_)
   refine o_move F rfl rfl (fun a F => ?_)
   refine o_leq F rfl rfl rfl (fun a F => ?_)
   refine o_pickt F rfl rfl rfl (fun a F => ?_)
   refine o_assign F rfl rfl (fun a F => ?_)
   refine x_end ?_
   refine x_tn ?_
   exact ⟨(decide (x0 ≤ x2)), (Option.some.inj hR).symm, F.sub (sc rfl sn), H⟩
  replace hR := ifF hb16 hR
  have F := F.eq (t := 10) rfl (congrArg Value.bool hb16)
  refine o_no F rfl rfl (fun a F => ?_)
  refine o_no F rfl rfl (fun a F => ?_)
  refine o_no F rfl rfl (fun a F => ?_)
  refine o_pickf F rfl rfl rfl (fun a F => ?_)
  refine o_assign F rfl rfl (fun a F => ?_)
  refine x_end ?_
  refine x_tn ?_
  exact ⟨false, (Option.some.inj hR).symm, F.sub (sc rfl sn), H⟩
 intro a w ⟨s15, ho14, F, H⟩
 subst ho14
 have hR := then_nx hk13
 refine x_tn ?_
 refine x_ret ?_
 refine x_res1 F rfl (rv_t F rfl) ?_
 obtain rfl := Option.some.inj hR
 exact ⟨rfl, H.bl⟩

def spec_l01Arity (x0 : Int) : Option Bool :=
 bnd (spec_l00In x0 1 4) fun z11 =>
 some z11
set_option maxHeartbeats 1000000 in
theorem spec_l01Arity_c {B : Nat → Prop} {x0 : Int} (r : Bool) (hR : spec_l01Arity x0 = some r)  (w0 : World) (hN : ∀ c, B c → c < w0.heap.size) (hx0 : I64 x0) : Calls Tryz.prog 31 #[.int .i64 x0] w0 (Says (.bool r) w0) := by
 unfold spec_l01Arity at hR
 refine x_enter (L := [(0, .int .i64 x0)]) Tryz.func31 rfl rfl rfl (sc rfl sn) (fun a F => ?_)
 have H := Sep.start hN
 refine x_seq ?_
 refine x_reg ?_
 refine o_assign F rfl rfl (fun a F => ?_)
 refine x_end ?_
 refine x_tn ?_
 refine x_seq ?_
 refine x_reg ?_
 refine o_move F rfl rfl (fun a F => ?_)
 obtain ⟨z11, c12, hR⟩ := bnd_some hR
 refine oK F rfl Tryz.call30 rfl H (spec_l00In_c z11 c12 _ aA hx0 (show I64 (1) by decide) (show I64 (4) by decide)) (fun a w H F => ?_)
 refine o_assign F rfl rfl (fun a F => ?_)
 refine x_end ?_
 refine x_tn ?_
 refine x_ret ?_
 refine x_res1 F rfl (rv_t F rfl) ?_
 obtain rfl := Option.some.inj hR
 exact ⟨rfl, H.bl⟩

def spec_l03Counts (x0 : Formula) : Option Bool :=
 thn (σ := Bool) (
  bnd (spec_l01Arity x0.free) fun z38 =>
  if z38 then  bnd (spec_l00In x0.vars x0.free 8) fun z47 =>
   if z47 then  some (.nx (decide ((x0.atoms.length : Int) ≤ 16))) else  some (.nx false) else  some (.nx false)) fun s34 =>
 some s34
set_option maxHeartbeats 1000000 in
theorem spec_l03Counts_c {B : Nat → Prop} {x0 : Formula} (r : Bool) (hR : spec_l03Counts x0 = some r) {v0 : Value} (w0 : World) (hN : ∀ c, B c → c < w0.heap.size) (A0 : Bo B w0 (Pt 3 RFormula) v0 x0) : Calls Tryz.prog 29 #[v0] w0 (Says (.bool r) w0) := by
 unfold spec_l03Counts at hR
 refine x_enter (L := [(0, v0)]) Tryz.func29 rfl rfl rfl (sc rfl sn) (fun a F => ?_)
 have H := Sep.start hN
 refine x_seq ?_
 refine x_reg ?_
 refine o_assign F rfl rfl (fun a F => ?_)
 refine x_end ?_
 refine x_tn ?_
 refine x_seq ?_
 obtain ⟨o31, hR, hk32⟩ := thn_some hR
 refine x_cutQ (fun a w => ∃ (s34 : Bool), o31 = .nx s34 ∧ Sk a 27 [(2, .bool s34)] ∧ Sep [] B w0 w []) ?_ ?_
 ·
  refine xQ H (by kernel_rfl) (by kernel_rfl) ?_
  refine q_val F rfl (fun w l => r_move F rfl) (fun a F => ?_)
  refine qN F rfl rfl A0 (fun a F => ?_)
  refine qF (s' := 1) fa34_0 F rfl rfl A0 RFormula.f0 (fun a p35 h36 F => ?_)
  refine qlI Tryz.isAgg2 F rfl rfl H.q h36 (fun a i37 F => ?_)
  obtain ⟨z38, c39, hR⟩ := bnd_some hR
  refine q_says F rfl Tryz.call31 rfl (fun w w' h l => l.through h) (fun w l => spec_l01Arity_c z38 c39 w aA i37) (fun a F => ?_)
  refine q_val F rfl (fun w l => r_move F rfl) (fun a F => ?_)
  rcases bcases z38 with hb40 | hb40
  ·
   replace hR := ifT hb40 hR
   have F := F.eq (t := 8) rfl (congrArg Value.bool hb40)
   refine q_val F rfl (fun w l => r_move F rfl) (fun a F => ?_)
   refine qN F rfl rfl A0 (fun a F => ?_)
   refine qF (s' := 1) fa34_1 F rfl rfl A0 RFormula.f1 (fun a p41 h42 F => ?_)
   refine qlI Tryz.isAgg2 F rfl rfl H.q h42 (fun a i43 F => ?_)
   refine q_val F rfl (fun w l => r_move F rfl) (fun a F => ?_)
   refine qN F rfl rfl A0 (fun a F => ?_)
   refine qF (s' := 1) fa34_0 F rfl rfl A0 RFormula.f0 (fun a p44 h45 F => ?_)
   refine qlI Tryz.isAgg2 F rfl rfl H.q h45 (fun a i46 F => ?_)
   obtain ⟨z47, c48, hR⟩ := bnd_some hR
   refine q_says F rfl Tryz.call30 rfl (fun w w' h l => l.through h) (fun w l => spec_l00In_c z47 c48 w aA i43 i46 (show I64 (8) by decide)) (fun a F => ?_)
   refine q_val F rfl (fun w l => r_pickt F rfl rfl) (fun a F => ?_)
   refine q_val F rfl (fun w l => r_move F rfl) (fun a F => ?_)
   rcases bcases z47 with hb49 | hb49
   ·
    replace hR := ifT hb49 hR
    have F := F.eq (t := 19) rfl (congrArg Value.bool hb49)
    refine q_val F rfl (fun w l => r_move F rfl) (fun a F => ?_)
    refine qN F rfl rfl A0 (fun a F => ?_)
    refine qF (s' := 1) fa34_2 F rfl rfl A0 RFormula.f2 (fun a p50 h51 F => ?_)
    refine qlS Tryz.isAgg32 F rfl rfl H.q h51 (fun a v52 h53 F => ?_)
    refine qL Tryz.underlying32 F rfl rfl h53 (fun a i54 F => ?_)
    refine q_val F rfl (fun w l => r_leq F rfl rfl) (fun a F => ?_)
    refine q_val F rfl (fun w l => r_pickt F rfl rfl) (fun a F => ?_)
    refine q_val F rfl (fun w l => r_assign F rfl) (fun a F => ?_)
    refine q_end (fun w H => ?_)
    refine x_tn ?_
    exact ⟨(decide ((x0.atoms.length : Int) ≤ 16)), (Option.some.inj hR).symm, F.sub (sc rfl sn), H⟩
   replace hR := ifF hb49 hR
   have F := F.eq (t := 19) rfl (congrArg Value.bool hb49)
   refine q_no F rfl rfl (fun a F => ?_)
   refine q_no F rfl rfl (fun a F => ?_)
   refine q_no F rfl rfl (fun a F => ?_)
   refine q_no F rfl rfl (fun a F => ?_)
   refine q_no F rfl rfl (fun a F => ?_)
   refine q_no F rfl rfl (fun a F => ?_)
   refine q_val F rfl (fun w l => r_pickf F rfl rfl) (fun a F => ?_)
   refine q_val F rfl (fun w l => r_assign F rfl) (fun a F => ?_)
   refine q_end (fun w H => ?_)
   refine x_tn ?_
   exact ⟨false, (Option.some.inj hR).symm, F.sub (sc rfl sn), H⟩
  replace hR := ifF hb40 hR
  have F := F.eq (t := 8) rfl (congrArg Value.bool hb40)
  refine q_no F rfl rfl (fun a F => ?_)
  refine q_no F rfl rfl (fun a F => ?_)
  refine q_no F rfl rfl (fun a F => ?_)
  refine q_no F rfl rfl (fun a F => ?_)
  refine q_no F rfl rfl (fun a F => ?_)
  refine q_no F rfl rfl (fun a F => ?_)
  refine q_no F rfl rfl (fun a F => ?_)
  refine q_no F rfl rfl (fun a F => ?_)
  refine q_no F rfl rfl (fun a F => ?_)
  refine q_val F rfl (fun w l => r_pickf F rfl rfl) (fun a F => ?_)
  refine q_val F rfl (fun w l => r_move F rfl) (fun a F => ?_)
  refine q_no F rfl rfl (fun a F => ?_)
  refine q_no F rfl rfl (fun a F => ?_)
  refine q_no F rfl rfl (fun a F => ?_)
  refine q_no F rfl rfl (fun a F => ?_)
  refine q_no F rfl rfl (fun a F => ?_)
  refine q_no F rfl rfl (fun a F => ?_)
  refine q_val F rfl (fun w l => r_pickf F rfl rfl) (fun a F => ?_)
  refine q_val F rfl (fun w l => r_assign F rfl) (fun a F => ?_)
  refine q_end (fun w H => ?_)
  refine x_tn ?_
  exact ⟨false, (Option.some.inj hR).symm, F.sub (sc rfl sn), H⟩
 intro a w ⟨s34, ho33, F, H⟩
 subst ho33
 have hR := then_nx hk32
 refine x_tn ?_
 refine x_ret ?_
 refine x_res1 F rfl (rv_t F rfl) ?_
 obtain rfl := Option.some.inj hR
 exact ⟨rfl, H.bl⟩

def spec_l01Places (x0 : List Int) (x1 : Int) : Option Bool :=
 thn (σ := Unit) (
  forL (σ := Unit) (ρ := Bool) (fun (k27 : Nat) (x29 : Int) (s : Unit) =>
    match s with
    | _ =>
    bnd (ck (x1 - 1)) fun z37 =>
    bnd (spec_l00In x29 0 z37) fun z39 =>
    if (!z39) then
     some (.ret false)
    else
     some (.go ())) x0 0 ()) fun _ =>
 some true
set_option maxHeartbeats 1000000 in
theorem spec_l01Places_c {B : Nat → Prop} {x0 : List Int} {x1 : Int} (r : Bool) (hR : spec_l01Places x0 x1 = some r) {v0 : Value} (w0 : World) (hN : ∀ c, B c → c < w0.heap.size) (A0 : Bo B w0 (Sl 1 RInt) v0 x0) (hx1 : I64 x1) : Calls Tryz.prog 32 #[v0, .int .i64 x1] w0 (Says (.bool r) w0) := by
 unfold spec_l01Places at hR
 refine x_enter (L := [(0, v0), (1, .int .i64 x1)]) Tryz.func32 rfl rfl rfl (sc rfl (sc rfl sn)) (fun a F => ?_)
 have H := Sep.start hN
 refine x_seq ?_
 refine x_reg ?_
 refine o_assign F rfl rfl (fun a F => ?_)
 refine x_end ?_
 refine x_tn ?_
 refine x_seq ?_
 refine x_seq ?_
 refine x_reg ?_
 refine o_assign F rfl rfl (fun a F => ?_)
 refine x_end ?_
 refine x_tn ?_
 obtain ⟨o21, hR, hk22⟩ := thn_some hR
 refine x_cutQ (fun a w => o21 = .nx () ∧ Sk a 20 [] ∧ Sep [] B w0 w []) ?_ ?_
 ·
  refine x_blk ?_
  obtain ⟨fl25, hf26, hR⟩ := forL_gen hR
  refine x_loop (fun g a w => ∃ (k27 : Nat) (rest28 : List Int), (k27 ≤ x0.length ∧ x0.drop k27 = rest28) ∧ rest28.length = g ∧ forL fl25 rest28 k27 () = some o21 ∧ Sk a 20 [(5, .int .i64 (k27 : Int)), (0, v0), (1, .int .i64 x1)] ∧ Sep [] B w0 w []) x0.length ?_ ?_
  ·
   exact ⟨0, x0, ⟨Nat.zero_le _, rfl⟩, rfl, hR, F.sub (sc rfl (sc rfl (sc rfl sn))), H⟩
  intro g30 a w ⟨k27, rest28, hd31, hg32, hR, F, H⟩
  cases rest28 with
  | nil =>
   replace hR := forL_nil hR
   have hkk27 := drop_nil hd31.1 hd31.2
   have hlk27 := dec_no hkk27
   refine x_seq ?_
   refine x_seq ?_
   refine x_reg ?_
   refine o_move F rfl rfl (fun a F => ?_)
   refine o_move F rfl rfl (fun a F => ?_)
   refine oL Tryz.underlying44 F rfl rfl A0 (fun a i42 F => ?_)
   refine o_lss F rfl rfl rfl (fun a F => ?_)
   refine x_end ?_
   refine x_tn ?_
   refine x_ifF F rfl hlk27 ?_
   refine x_exit ?_
   refine x_te ?_
   refine x_te ?_
   refine x_be ?_
   refine x_tn ?_
   exact ⟨(Option.some.inj hR).symm, F.sub sn, H⟩
  | cons x29 rest28 =>
   subst hg32
   replace hd31 := drop_cons hd31.2
   have hxk27 := ix_nat hd31.2.1
   obtain ⟨ck27, hR, hn24⟩ := forL_cons hR
   rw [hf26] at hR
   have hlk27 := dec_yes hd31.1
   refine x_seq ?_
   refine x_seq ?_
   refine x_reg ?_
   refine o_move F rfl rfl (fun a F => ?_)
   refine o_move F rfl rfl (fun a F => ?_)
   refine oL Tryz.underlying44 F rfl rfl A0 (fun a i33 F => ?_)
   refine o_lss F rfl rfl rfl (fun a F => ?_)
   refine x_end ?_
   refine x_tn ?_
   refine x_ifT F rfl hlk27 ?_
   refine x_skip ?_
   refine x_tn ?_
   refine x_seq ?_
   have ikk27 := k64 (Nat.le_of_lt hd31.1) i33
   have ink27 := inc64 hd31.1 i33
   refine x_blk ?_
   refine x_seq ?_
   refine x_reg ?_
   refine o_move F rfl rfl (fun a F => ?_)
   refine o_move F rfl rfl (fun a F => ?_)
   refine oI Tryz.underlying44 Tryz.sizeOf2 F rfl rfl rfl A0 hxk27 (fun a p34 h35 F => ?_)
   refine olI Tryz.isAgg2 F rfl rfl H.sm h35 (fun a i36 F => ?_)
   refine o_move F rfl rfl (fun a F => ?_)
   obtain ⟨z37, c38, hR⟩ := bnd_some hR
   refine o_sub F rfl rfl rfl c38 (fun a F => ?_)
   obtain ⟨z39, c40, hR⟩ := bnd_some hR
   refine oK F rfl Tryz.call30 rfl H (spec_l00In_c z39 c40 _ aA i36 (show I64 (0) by decide) (ck64 c38)) (fun a w H F => ?_)
   refine o_not F rfl rfl (fun a F => ?_)
   refine x_end ?_
   refine x_tn ?_
   refine x_if F rfl (fun hb41 => ?_) (fun hb41 => ?_)
   ·
    replace hR := ifT hb41 hR
    refine x_seq ?_
    refine x_reg ?_
    refine o_assign F rfl rfl (fun a F => ?_)
    refine x_end ?_
    refine x_tn ?_
    refine x_ret ?_
    refine x_br ?_
    refine x_tr ?_
    refine x_tr ?_
    replace hR := l_ret hR hn24
    refine x_br ?_
    refine x_tr ?_
    replace hR := j_ret hR hk22
    refine x_tr ?_
    refine x_res1 F rfl (rv_t F rfl) ?_
    obtain rfl := Option.some.inj hR
    exact ⟨rfl, H.bl⟩
   replace hR := ifF hb41 hR
   refine x_skip ?_
   refine x_bn ?_
   refine x_tn ?_
   refine x_reg ?_
   refine o_move F rfl rfl (fun a F => ?_)
   refine o_inc F rfl rfl rfl ink27 (fun a F => ?_)
   refine o_assign F rfl rfl (fun a F => ?_)
   refine x_end ?_
   refine x_tn ?_
   replace hR := l_go hR hn24
   exact ⟨_, Nat.lt_succ_self _, k27 + 1, rest28, ⟨hd31.1, hd31.2.2⟩, rfl, hR, F.sub (sc rfl (sc rfl (sc rfl sn))), H⟩
 intro a w ⟨ho23, F, H⟩
 subst ho23
 have hR := then_nx hk22
 refine x_tn ?_
 refine x_seq ?_
 refine x_reg ?_
 refine o_assign F rfl rfl (fun a F => ?_)
 refine x_end ?_
 refine x_tn ?_
 refine x_ret ?_
 refine x_res1 F rfl (rv_t F rfl) ?_
 obtain rfl := Option.some.inj hR
 exact ⟨rfl, H.bl⟩

def spec_l03Shown (x0 : Formula) : Option Bool :=
 bnd (spec_l03Counts x0) fun z11 =>
 if (!z11) then
  some false
 else
  thn (σ := Unit) (
   forL (σ := Unit) (ρ := Bool) (fun (k87 : Nat) (x89 : Atom) (s : Unit) =>
     match s with
     | _ =>
     thn (σ := Bool) (
      bnd (spec_l00In x89.rel (-1) 5) fun z134 =>
      if (!z134) then  some (.nx true) else  bnd (spec_l01Arity (x89.args.length : Int)) fun z142 =>
       if (!z142) then  some (.nx true) else  bnd (spec_l01Places x89.args x0.vars) fun z152 =>
        some (.nx (!z152))) fun s130 =>
     if s130 then
      some (.ret false)
     else
      some (.go ())) x0.atoms 0 ()) fun _ =>
  some true
set_option maxHeartbeats 1000000 in
theorem spec_l03Shown_c {B : Nat → Prop} {x0 : Formula} (r : Bool) (hR : spec_l03Shown x0 = some r) {v0 : Value} (w0 : World) (hN : ∀ c, B c → c < w0.heap.size) (A0 : Bo B w0 (Pt 3 RFormula) v0 x0) : Calls Tryz.prog 19 #[v0] w0 (Says (.bool r) w0) := by
 unfold spec_l03Shown at hR
 refine x_enter (L := [(0, v0)]) Tryz.func19 rfl rfl rfl (sc rfl sn) (fun a F => ?_)
 have H := Sep.start hN
 refine x_seq ?_
 refine x_reg ?_
 refine o_assign F rfl rfl (fun a F => ?_)
 refine x_end ?_
 refine x_tn ?_
 refine x_seq ?_
 refine x_seq ?_
 refine x_reg ?_
 refine o_move F rfl rfl (fun a F => ?_)
 obtain ⟨z11, c12, hR⟩ := bnd_some hR
 refine oK F rfl Tryz.call29 rfl H (spec_l03Counts_c z11 c12 _ aA (H.a A0)) (fun a w H F => ?_)
 refine o_not F rfl rfl (fun a F => ?_)
 refine x_end ?_
 refine x_tn ?_
 refine x_if F rfl (fun hb13 => ?_) (fun hb13 => ?_)
 ·
  replace hR := ifT hb13 hR
  refine x_seq ?_
  refine x_reg ?_
  refine o_assign F rfl rfl (fun a F => ?_)
  refine x_end ?_
  refine x_tn ?_
  refine x_ret ?_
  refine x_tr ?_
  refine x_res1 F rfl (rv_t F rfl) ?_
  obtain rfl := Option.some.inj hR
  exact ⟨rfl, H.bl⟩
 replace hR := ifF hb13 hR
 refine x_skip ?_
 refine x_tn ?_
 refine x_seq ?_
 refine x_seq ?_
 refine x_reg ?_
 refine o_assign F rfl rfl (fun a F => ?_)
 refine x_end ?_
 refine x_tn ?_
 obtain ⟨o81, hR, hk82⟩ := thn_some hR
 refine x_cutQ (fun a w => o81 = .nx () ∧ Sk a 50 [] ∧ Sep [] B w0 w []) ?_ ?_
 ·
  refine x_blk ?_
  obtain ⟨fl85, hf86, hR⟩ := forL_gen hR
  refine x_loop (fun g a w => ∃ (k87 : Nat) (rest88 : List Atom), (k87 ≤ x0.atoms.length ∧ x0.atoms.drop k87 = rest88) ∧ rest88.length = g ∧ forL fl85 rest88 k87 () = some o81 ∧ Sk a 50 [(3, .int .i64 (k87 : Int)), (0, v0)] ∧ Sep [] B w0 w []) x0.atoms.length ?_ ?_
  ·
   exact ⟨0, x0.atoms, ⟨Nat.zero_le _, rfl⟩, rfl, hR, F.sub (sc rfl (sc rfl sn)), H⟩
  intro g90 a w ⟨k87, rest88, hd91, hg92, hR, F, H⟩
  cases rest88 with
  | nil =>
   replace hR := forL_nil hR
   have hkk87 := drop_nil hd91.1 hd91.2
   have hlk87 := dec_no hkk87
   refine x_seq ?_
   refine x_seq ?_
   refine x_reg ?_
   refine o_move F rfl rfl (fun a F => ?_)
   refine o_move F rfl rfl (fun a F => ?_)
   refine oN F rfl rfl A0 (fun a F => ?_)
   refine oF (s' := 1) fa34_2 F rfl rfl A0 RFormula.f2 (fun a p155 h156 F => ?_)
   refine olS Tryz.isAgg32 F rfl rfl H.sm h156 (fun a v157 h158 F => ?_)
   refine oL Tryz.underlying32 F rfl rfl h158 (fun a i159 F => ?_)
   refine o_lss F rfl rfl rfl (fun a F => ?_)
   refine x_end ?_
   refine x_tn ?_
   refine x_ifF F rfl hlk87 ?_
   refine x_exit ?_
   refine x_te ?_
   refine x_te ?_
   refine x_be ?_
   refine x_tn ?_
   exact ⟨(Option.some.inj hR).symm, F.sub sn, H⟩
  | cons x89 rest88 =>
   subst hg92
   replace hd91 := drop_cons hd91.2
   have hxk87 := ix_nat hd91.2.1
   obtain ⟨ck87, hR, hn84⟩ := forL_cons hR
   rw [hf86] at hR
   have hlk87 := dec_yes hd91.1
   refine x_seq ?_
   refine x_seq ?_
   refine x_reg ?_
   refine o_move F rfl rfl (fun a F => ?_)
   refine o_move F rfl rfl (fun a F => ?_)
   refine oN F rfl rfl A0 (fun a F => ?_)
   refine oF (s' := 1) fa34_2 F rfl rfl A0 RFormula.f2 (fun a p93 h94 F => ?_)
   refine olS Tryz.isAgg32 F rfl rfl H.sm h94 (fun a v95 h96 F => ?_)
   refine oL Tryz.underlying32 F rfl rfl h96 (fun a i97 F => ?_)
   refine o_lss F rfl rfl rfl (fun a F => ?_)
   refine x_end ?_
   refine x_tn ?_
   refine x_ifT F rfl hlk87 ?_
   refine x_skip ?_
   refine x_tn ?_
   refine x_seq ?_
   have ikk87 := k64 (Nat.le_of_lt hd91.1) i97
   have ink87 := inc64 hd91.1 i97
   refine x_blk ?_
   refine x_seq ?_
   refine x_reg ?_
   refine o_move F rfl rfl (fun a F => ?_)
   refine oN F rfl rfl A0 (fun a F => ?_)
   refine oF (s' := 1) fa34_2 F rfl rfl A0 RFormula.f2 (fun a p98 h99 F => ?_)
   refine olS Tryz.isAgg32 F rfl rfl H.sm h99 (fun a v100 h101 F => ?_)
   refine o_move F rfl rfl (fun a F => ?_)
   refine oI Tryz.underlying32 Tryz.sizeOf46 F rfl rfl rfl h101 hxk87 (fun a p102 h103 F => ?_)
   refine o_assign F rfl rfl (fun a F => ?_)
   refine x_end ?_
   refine x_tn ?_
   refine x_seq ?_
   obtain ⟨o127, hR, hk128⟩ := thn_some hR
   refine x_cutQ (fun a w => ∃ (s130 : Bool), o127 = .nx s130 ∧ Sk a 50 [(0, v0), (3, .int .i64 (k87 : Int)), (49, .bool s130)] ∧ Sep [] B w0 w []) ?_ ?_
   ·
    refine xQ H (by kernel_rfl) (by kernel_rfl) ?_
    refine q_val F rfl (fun w l => r_move F rfl) (fun a F => ?_)
    refine qN F rfl rfl h103 (fun a F => ?_)
    refine qF (s' := 1) fa46_0 F rfl rfl h103 RAtom.f0 (fun a p131 h132 F => ?_)
    refine qlI Tryz.isAgg2 F rfl rfl H.q h132 (fun a i133 F => ?_)
    obtain ⟨z134, c135, hR⟩ := bnd_some hR
    refine q_says F rfl Tryz.call30 rfl (fun w w' h l => l.through h) (fun w l => spec_l00In_c z134 c135 w aA i133 (show I64 (-1) by decide) (show I64 (5) by decide)) (fun a F => ?_)
    refine q_val F rfl (fun w l => r_not F rfl) (fun a F => ?_)
    refine q_val F rfl (fun w l => r_move F rfl) (fun a F => ?_)
    rcases bcases (!z134) with hb136 | hb136
    ·
     replace hR := ifT hb136 hR
     have F := F.eq (t := 29) rfl (congrArg Value.bool hb136)
     refine q_no F rfl rfl (fun a F => ?_)
     refine q_no F rfl rfl (fun a F => ?_)
     refine q_no F rfl rfl (fun a F => ?_)
     refine q_no F rfl rfl (fun a F => ?_)
     refine q_no F rfl rfl (fun a F => ?_)
     refine q_no F rfl rfl (fun a F => ?_)
     refine q_no F rfl rfl (fun a F => ?_)
     refine q_val F rfl (fun w l => r_pickt F rfl rfl) (fun a F => ?_)
     refine q_val F rfl (fun w l => r_move F rfl) (fun a F => ?_)
     refine q_no F rfl rfl (fun a F => ?_)
     refine q_no F rfl rfl (fun a F => ?_)
     refine q_no F rfl rfl (fun a F => ?_)
     refine q_no F rfl rfl (fun a F => ?_)
     refine q_no F rfl rfl (fun a F => ?_)
     refine q_no F rfl rfl (fun a F => ?_)
     refine q_no F rfl rfl (fun a F => ?_)
     refine q_no F rfl rfl (fun a F => ?_)
     refine q_no F rfl rfl (fun a F => ?_)
     refine q_no F rfl rfl (fun a F => ?_)
     refine q_val F rfl (fun w l => r_pickt F rfl rfl) (fun a F => ?_)
     refine q_end (fun w H => ?_)
     refine x_tn ?_
     exact ⟨true, (Option.some.inj hR).symm, F.sub (sc rfl (sc rfl (sc rfl sn))), H⟩
    replace hR := ifF hb136 hR
    have F := F.eq (t := 29) rfl (congrArg Value.bool hb136)
    refine q_val F rfl (fun w l => r_move F rfl) (fun a F => ?_)
    refine qN F rfl rfl h103 (fun a F => ?_)
    refine qF (s' := 1) fa46_1 F rfl rfl h103 RAtom.f1 (fun a p137 h138 F => ?_)
    refine qlS Tryz.isAgg44 F rfl rfl H.q h138 (fun a v139 h140 F => ?_)
    refine qL Tryz.underlying44 F rfl rfl h140 (fun a i141 F => ?_)
    obtain ⟨z142, c143, hR⟩ := bnd_some hR
    refine q_says F rfl Tryz.call31 rfl (fun w w' h l => l.through h) (fun w l => spec_l01Arity_c z142 c143 w aA i141) (fun a F => ?_)
    refine q_val F rfl (fun w l => r_not F rfl) (fun a F => ?_)
    refine q_val F rfl (fun w l => r_pickf F rfl rfl) (fun a F => ?_)
    refine q_val F rfl (fun w l => r_move F rfl) (fun a F => ?_)
    rcases bcases (!z142) with hb144 | hb144
    ·
     replace hR := ifT hb144 hR
     have F := F.eq (t := 38) rfl (congrArg Value.bool hb144)
     refine q_no F rfl rfl (fun a F => ?_)
     refine q_no F rfl rfl (fun a F => ?_)
     refine q_no F rfl rfl (fun a F => ?_)
     refine q_no F rfl rfl (fun a F => ?_)
     refine q_no F rfl rfl (fun a F => ?_)
     refine q_no F rfl rfl (fun a F => ?_)
     refine q_no F rfl rfl (fun a F => ?_)
     refine q_no F rfl rfl (fun a F => ?_)
     refine q_no F rfl rfl (fun a F => ?_)
     refine q_no F rfl rfl (fun a F => ?_)
     refine q_val F rfl (fun w l => r_pickt F rfl rfl) (fun a F => ?_)
     refine q_end (fun w H => ?_)
     refine x_tn ?_
     exact ⟨true, (Option.some.inj hR).symm, F.sub (sc rfl (sc rfl (sc rfl sn))), H⟩
    replace hR := ifF hb144 hR
    have F := F.eq (t := 38) rfl (congrArg Value.bool hb144)
    refine q_val F rfl (fun w l => r_move F rfl) (fun a F => ?_)
    refine qN F rfl rfl h103 (fun a F => ?_)
    refine qF (s' := 1) fa46_1 F rfl rfl h103 RAtom.f1 (fun a p145 h146 F => ?_)
    refine qlS Tryz.isAgg44 F rfl rfl H.q h146 (fun a v147 h148 F => ?_)
    refine q_val F rfl (fun w l => r_move F rfl) (fun a F => ?_)
    refine qN F rfl rfl A0 (fun a F => ?_)
    refine qF (s' := 1) fa34_1 F rfl rfl A0 RFormula.f1 (fun a p149 h150 F => ?_)
    refine qlI Tryz.isAgg2 F rfl rfl H.q h150 (fun a i151 F => ?_)
    obtain ⟨z152, c153, hR⟩ := bnd_some hR
    refine q_says F rfl Tryz.call32 rfl (fun w w' h l => l.through h) (fun w l => spec_l01Places_c z152 c153 w aA ((H.go l).a h148) i151) (fun a F => ?_)
    refine q_val F rfl (fun w l => r_not F rfl) (fun a F => ?_)
    refine q_val F rfl (fun w l => r_pickf F rfl rfl) (fun a F => ?_)
    refine q_end (fun w H => ?_)
    refine x_tn ?_
    exact ⟨(!z152), (Option.some.inj hR).symm, F.sub (sc rfl (sc rfl (sc rfl sn))), H⟩
   intro a w ⟨s130, ho129, F, H⟩
   subst ho129
   have hR := then_nx hk128
   refine x_tn ?_
   refine x_if F rfl (fun hb154 => ?_) (fun hb154 => ?_)
   ·
    replace hR := ifT hb154 hR
    refine x_seq ?_
    refine x_reg ?_
    refine o_assign F rfl rfl (fun a F => ?_)
    refine x_end ?_
    refine x_tn ?_
    refine x_ret ?_
    refine x_br ?_
    refine x_tr ?_
    refine x_tr ?_
    replace hR := l_ret hR hn84
    refine x_br ?_
    refine x_tr ?_
    replace hR := j_ret hR hk82
    refine x_tr ?_
    refine x_res1 F rfl (rv_t F rfl) ?_
    obtain rfl := Option.some.inj hR
    exact ⟨rfl, H.bl⟩
   replace hR := ifF hb154 hR
   refine x_skip ?_
   refine x_bn ?_
   refine x_tn ?_
   refine x_reg ?_
   refine o_move F rfl rfl (fun a F => ?_)
   refine o_inc F rfl rfl rfl ink87 (fun a F => ?_)
   refine o_assign F rfl rfl (fun a F => ?_)
   refine x_end ?_
   refine x_tn ?_
   replace hR := l_go hR hn84
   exact ⟨_, Nat.lt_succ_self _, k87 + 1, rest88, ⟨hd91.1, hd91.2.2⟩, rfl, hR, F.sub (sc rfl (sc rfl sn)), H⟩
 intro a w ⟨ho83, F, H⟩
 subst ho83
 have hR := then_nx hk82
 refine x_tn ?_
 refine x_seq ?_
 refine x_reg ?_
 refine o_assign F rfl rfl (fun a F => ?_)
 refine x_end ?_
 refine x_tn ?_
 refine x_ret ?_
 refine x_res1 F rfl (rv_t F rfl) ?_
 obtain rfl := Option.some.inj hR
 exact ⟨rfl, H.bl⟩

def spec_Decimal : Nat → Int → Option ByteArray
  | 0, _ => none
  | N + 1, x0 =>
  if (decide (10 ≤ x0)) then
   bnd (dv x0 10) fun z12 =>
   bnd (rm x0 10) fun z14 =>
   bnd (ck (48 + z14)) fun z16 =>
   bnd (spec_Decimal N z12) fun z18 =>
   bnd (scat z18 (bstr ([(u8w z16)]))) fun z25 =>
   some z25
  else
   bnd (ck (48 + x0)) fun z46 =>
   some ((bstr ([(u8w z46)])))
set_option maxHeartbeats 1000000 in
theorem spec_Decimal_cA : ∀ (N : Nat) {B : Nat → Prop} {x0 : Int} (r : ByteArray) (hR : spec_Decimal N x0 = some r)  (w0 : World) (hN : ∀ c, B c → c < w0.heap.size) (hx0 : I64 x0), Calls Tryz.prog 33 #[.int .i64 x0] w0 (Gv (fun v w' => v = .string r ∧ Sep [] B w0 w' [] ∧ r.size ≤ maxLen)) := by
  intro N
  induction N with
  | zero => intro B x0 r hR; unfold spec_Decimal at hR; cases hR
  | succ N ih =>
  intro B x0 r hR  w0 hN hx0
  rw [spec_Decimal] at hR
  refine x_enter (L := [(0, .int .i64 x0)]) Tryz.func33 rfl rfl rfl (sc rfl sn) (fun a F => ?_)
  have H := Sep.start hN
  refine x_seq ?_
  refine x_reg ?_
  refine o_assign F rfl rfl (fun a F => ?_)
  refine x_end ?_
  refine x_tn ?_
  refine x_seq ?_
  refine x_seq ?_
  refine x_reg ?_
  refine o_move F rfl rfl (fun a F => ?_)
  refine o_geq F rfl rfl rfl (fun a F => ?_)
  refine x_end ?_
  refine x_tn ?_
  refine x_if F rfl (fun hb11 => ?_) (fun hb11 => ?_)
  ·
   replace hR := ifT hb11 hR
   refine x_seq ?_
   obtain ⟨z12, c13, hR⟩ := bnd_some hR
   obtain ⟨z14, c15, hR⟩ := bnd_some hR
   obtain ⟨z16, c17, hR⟩ := bnd_some hR
   obtain ⟨z18, c19, hR⟩ := bnd_some hR
   obtain ⟨z25, c26, hR⟩ := bnd_some hR
   refine xD H (by kernel_rfl) (fun w H => ?_)
   refine dp (fun G => ∀ (a : Act) (w : World), Sk a 20 [(2, .string (bstr [])), (7, .string z18), (13, .string (bstr ([(u8w z16)])))] → Sep [] B w0 w [] → z18.size ≤ maxLen → (bstr ([(u8w z16)])).size ≤ maxLen → ∀ ls, ls = #[true, true, true, true, true, true, true, true, true, false, false] → G 2 ls a w) ?_ (fun H45 => ?_)
   ·
    intro a w F H i43 i44 ls hls
    subst hls
    refine b_q0 9 rfl (by kernel_rfl) (by kernel_rfl) (by kernel_rfl) ?_
    refine v_val F rfl (fun w l => r_scat F rfl rfl c26) (fun a F => ?_)
    refine b_q0 10 rfl (by kernel_rfl) (by kernel_rfl) (by kernel_rfl) ?_
    refine v_val F rfl (fun w l => r_assign F rfl) (fun a F => ?_)
    refine b_end (by kernel_rfl) ?_
    refine x_tn ?_
    refine x_ret ?_
    refine x_tr ?_
    refine x_res1 F rfl (rv_t F rfl) ?_
    obtain rfl := Option.some.inj hR
    exact ⟨_, rfl, rfl, H, (scat_sz c26)⟩
   refine dp (fun G => ∀ (v39 : Value) (a : Act) (w : World), Sk a 20 [(2, .string (bstr [])), (7, .string z18), (12, v39)] → Sep [] B w0 w [rl 1 RByte 5 v39 ([(u8w z16)])] → z18.size ≤ maxLen → ∀ ls, ls = #[true, true, true, true, true, true, true, true, false, false, false] → G 3 ls a w) ?_ (fun H41 => ?_)
   ·
    intro v39 a w F H i38 ls hls
    subst hls
    refine xE H 8 rfl (by kernel_rfl) ?_
    refine oBS Tryz.underlying78 Tryz.underlying5 Tryz.underlying9 F rfl rfl (Sm.refl _ _) (H.l 0 rfl) (fun a i42 F => ?_)
    refine x_end ?_
    refine x_tn ?_
    refine ⟨⟨_, H⟩, ?_⟩
    exact H45 _ _ (F.sub (sc rfl (sc rfl (sc rfl sn)))) (H.s [] rfl rfl) i38 i42 _ (by kernel_rfl)
   refine b_q0 0 rfl (by kernel_rfl) (by kernel_rfl) (by kernel_rfl) ?_
   refine v_val F rfl (fun w l => r_move F rfl) (fun a F => ?_)
   refine b_q0 1 rfl (by kernel_rfl) (by kernel_rfl) (by kernel_rfl) ?_
   refine v_val F rfl (fun w l => r_quo F rfl rfl c13) (fun a F => ?_)
   refine b_q0 3 rfl (by kernel_rfl) (by kernel_rfl) (by kernel_rfl) ?_
   refine v_val F rfl (fun w l => r_move F rfl) (fun a F => ?_)
   refine b_q0 4 rfl (by kernel_rfl) (by kernel_rfl) (by kernel_rfl) ?_
   refine v_val F rfl (fun w l => r_rem F rfl rfl c15) (fun a F => ?_)
   refine b_q0 5 rfl (by kernel_rfl) (by kernel_rfl) (by kernel_rfl) ?_
   refine v_val F rfl (fun w l => r_add F rfl rfl c17) (fun a F => ?_)
   refine b_q 6 (by kernel_rfl) rfl (by kernel_rfl) (by kernel_rfl) (by kernel_rfl) (by kernel_rfl) ?_
   refine v_val F rfl (fun w l => r_convU (k0 := .u8) Tryz.underlying2 Tryz.underlying5 F rfl) (fun a F => ?_)
   refine b_es [2, 7] (by kernel_rfl) (by simp) ⟨⟨_, rfl, ?_⟩, ⟨_, rfl, ?_⟩, trivial⟩
   ·
    refine xEs H ?_
    refine oG F rfl Tryz.call33 rfl (ih z18 c19 _ aA (dv64 c13)) (fun a vv w ⟨hv28, S, i27⟩ F => ?_)
    subst vv
    have H := H.r0 S
    refine x_end ?_
    refine x_tn ?_
    refine ⟨⟨_, H⟩, ?_⟩
    refine xE H 7 rfl (by kernel_rfl) ?_
    refine oR1z (R := RByte) (y := (u8w z16)) Tryz.underlying78 Tryz.sizeOf5 Tryz.zeroValue5 rfl rfl F rfl rfl H Eo.u8 (fun a w v29 H F => ?_)
    refine x_end ?_
    refine x_tn ?_
    refine ⟨⟨_, H⟩, ?_⟩
    exact H41 v29 _ _ (F.sub (sc rfl (sc rfl (sc rfl sn)))) H i27 _ (by kernel_rfl)
   refine xEs H ?_
   refine oR1z (R := RByte) (y := (u8w z16)) Tryz.underlying78 Tryz.sizeOf5 Tryz.zeroValue5 rfl rfl F rfl rfl H Eo.u8 (fun a w v31 H F => ?_)
   refine x_end ?_
   refine x_tn ?_
   refine ⟨⟨_, H⟩, ?_⟩
   refine b_es [2, 8] (by kernel_rfl) (by simp) ⟨⟨_, rfl, ?_⟩, ⟨_, rfl, ?_⟩, trivial⟩
   ·
    refine xEs H ?_
    refine oG F rfl Tryz.call33 rfl (ih z18 c19 _ aA (dv64 c13)) (fun a vv w ⟨hv34, S, i33⟩ F => ?_)
    subst vv
    have H := H.r0 S
    refine x_end ?_
    refine x_tn ?_
    refine ⟨⟨_, H⟩, ?_⟩
    exact H41 v31 _ _ (F.sub (sc rfl (sc rfl (sc rfl sn)))) H i33 _ (by kernel_rfl)
   refine xEs H ?_
   refine oBS Tryz.underlying78 Tryz.underlying5 Tryz.underlying9 F rfl rfl (Sm.refl _ _) (H.l 0 rfl) (fun a i35 F => ?_)
   refine x_end ?_
   refine x_tn ?_
   refine ⟨⟨_, H⟩, ?_⟩
   refine xE H 2 rfl (by kernel_rfl) ?_
   refine oG F rfl Tryz.call33 rfl (ih z18 c19 _ aA (dv64 c13)) (fun a vv w ⟨hv37, S, i36⟩ F => ?_)
   subst vv
   have H := H.r0 S
   refine x_end ?_
   refine x_tn ?_
   refine ⟨⟨_, H⟩, ?_⟩
   exact H45 _ _ (F.sub (sc rfl (sc rfl (sc rfl sn)))) (H.s [] rfl rfl) i36 i35 _ (by kernel_rfl)
  replace hR := ifF hb11 hR
  refine x_skip ?_
  refine x_tn ?_
  refine x_seq ?_
  refine x_reg ?_
  refine o_move F rfl rfl (fun a F => ?_)
  obtain ⟨z46, c47, hR⟩ := bnd_some hR
  refine o_add F rfl rfl rfl c47 (fun a F => ?_)
  refine o_convU Tryz.underlying2 Tryz.underlying5 F rfl rfl (fun a F => ?_)
  refine oR1z (R := RByte) (y := (u8w z46)) Tryz.underlying78 Tryz.sizeOf5 Tryz.zeroValue5 rfl rfl F rfl rfl H Eo.u8 (fun a w v48 H F => ?_)
  refine oBS Tryz.underlying78 Tryz.underlying5 Tryz.underlying9 F rfl rfl (Sm.refl _ _) (H.l 0 rfl) (fun a i50 F => ?_)
  refine o_assign F rfl rfl (fun a F => ?_)
  refine x_end ?_
  refine x_tn ?_
  refine x_ret ?_
  refine x_res1 F rfl (rv_t F rfl) ?_
  obtain rfl := Option.some.inj hR
  exact ⟨_, rfl, rfl, (H.s [] rfl rfl), i50⟩
theorem spec_Decimal_c {B : Nat → Prop} {N : Nat} {x0 : Int} (r : ByteArray) (hR : spec_Decimal N x0 = some r)  (w0 : World) (hN : ∀ c, B c → c < w0.heap.size) (hx0 : I64 x0) : Calls Tryz.prog 33 #[.int .i64 x0] w0 (Gv (fun v w' => v = .string r ∧ Sep [] B w0 w' [] ∧ r.size ≤ maxLen)) :=
  spec_Decimal_cA N r hR w0 hN hx0

def spec_l03Text (N : Nat) (x0 : Formula) : Option ByteArray :=
 bnd (spec_Decimal N x0.free) fun z17 =>
 bnd (scat (bstr [102, 111, 114, 109, 117, 108, 97, 32]) z17) fun z21 =>
 bnd (scat z21 (bstr [32])) fun z23 =>
 bnd (spec_Decimal N x0.vars) fun z25 =>
 bnd (scat z23 z25) fun z29 =>
 thn (σ := ByteArray) (
  forL (σ := ByteArray) (ρ := ByteArray) (fun (k221 : Nat) (x223 : Atom) (s217 : ByteArray) =>
   thn (σ := ByteArray) (
    if (x223.rel == (-1)) then
     bnd (scat s217 (bstr [32, 61, 58])) fun z269 =>
     some (.nx z269)
    else
     bnd (spec_Decimal N x223.rel) fun z280 =>
     bnd (scat (bstr [32, 82]) z280) fun z284 =>
     bnd (scat z284 (bstr [58])) fun z286 =>
     bnd (scat s217 z286) fun z288 =>
     some (.nx z288)) fun s266 =>
   thn (σ := ByteArray) (
    forL (σ := ByteArray) (ρ := (Ctl (ByteArray) ByteArray)) (fun (k343 : Nat) (x345 : Int) (s339 : ByteArray) =>
     bnd (spec_Decimal N x345) fun z373 =>
     bnd (scat s339 z373) fun z377 =>
     some (.go z377)) x223.args 0 s266) fun s341 =>
   some (.go s341)) x0.atoms 0 z29) fun s219 =>
 some s219
set_option maxHeartbeats 1000000 in
theorem spec_l03Text_c {B : Nat → Prop} {N : Nat} {x0 : Formula} (r : ByteArray) (hR : spec_l03Text N x0 = some r) {v0 : Value} (w0 : World) (hN : ∀ c, B c → c < w0.heap.size) (A0 : Bo B w0 (Pt 3 RFormula) v0 x0) : Calls Tryz.prog 20 #[v0] w0 (Gv (fun v w' => v = .string r ∧ Sep [] B w0 w' [] ∧ r.size ≤ maxLen)) := by
 unfold spec_l03Text at hR
 refine x_enter (L := [(0, v0)]) Tryz.func20 rfl rfl rfl (sc rfl sn) (fun a F => ?_)
 have H := Sep.start hN
 refine x_seq ?_
 refine x_reg ?_
 refine o_assign F rfl rfl (fun a F => ?_)
 refine x_end ?_
 refine x_tn ?_
 refine x_seq ?_
 obtain ⟨z17, c18, hR⟩ := bnd_some hR
 obtain ⟨z21, c22, hR⟩ := bnd_some hR
 obtain ⟨z23, c24, hR⟩ := bnd_some hR
 obtain ⟨z25, c26, hR⟩ := bnd_some hR
 obtain ⟨z29, c30, hR⟩ := bnd_some hR
 refine xD H (by kernel_rfl) (fun w H => ?_)
 refine b_q0 0 rfl (by kernel_rfl) (by kernel_rfl) (by kernel_rfl) ?_
 refine v_val F rfl (fun w l => r_move F rfl) (fun a F => ?_)
 refine b_q 1 (by kernel_rfl) rfl (by kernel_rfl) (by kernel_rfl) (by kernel_rfl) (by kernel_rfl) ?_
 refine vN F rfl rfl A0 (fun a F => ?_)
 refine b_q 2 (by kernel_rfl) rfl (by kernel_rfl) (by kernel_rfl) (by kernel_rfl) (by kernel_rfl) ?_
 refine vF (s' := 1) fa34_0 F rfl rfl A0 RFormula.f0 (fun a p31 h32 F => ?_)
 refine b_q 3 (by kernel_rfl) rfl (by kernel_rfl) (by kernel_rfl) (by kernel_rfl) (by kernel_rfl) ?_
 refine vlI Tryz.isAgg2 F rfl rfl H.v h32 (fun a i33 F => ?_)
 refine b_q0 7 rfl (by kernel_rfl) (by kernel_rfl) (by kernel_rfl) ?_
 refine v_val F rfl (fun w l => r_move F rfl) (fun a F => ?_)
 refine b_q 8 (by kernel_rfl) rfl (by kernel_rfl) (by kernel_rfl) (by kernel_rfl) (by kernel_rfl) ?_
 refine vN F rfl rfl A0 (fun a F => ?_)
 refine b_q 9 (by kernel_rfl) rfl (by kernel_rfl) (by kernel_rfl) (by kernel_rfl) (by kernel_rfl) ?_
 refine vF (s' := 1) fa34_1 F rfl rfl A0 RFormula.f1 (fun a p34 h35 F => ?_)
 refine b_q 10 (by kernel_rfl) rfl (by kernel_rfl) (by kernel_rfl) (by kernel_rfl) (by kernel_rfl) ?_
 refine vlI Tryz.isAgg2 F rfl rfl H.v h35 (fun a i36 F => ?_)
 refine xE H 4 rfl (by kernel_rfl) ?_
 refine oG F rfl Tryz.call33 rfl (spec_Decimal_c z17 c18 _ aA i33) (fun a vv w ⟨hv38, S, i37⟩ F => ?_)
 subst vv
 have H := H.r0 S
 refine x_end ?_
 refine x_tn ?_
 refine ⟨⟨_, H⟩, ?_⟩
 refine b_q0 5 rfl (by kernel_rfl) (by kernel_rfl) (by kernel_rfl) ?_
 refine v_val F rfl (fun w l => r_scat F rfl rfl c22) (fun a F => ?_)
 refine b_q0 6 rfl (by kernel_rfl) (by kernel_rfl) (by kernel_rfl) ?_
 refine v_val F rfl (fun w l => r_scat F rfl rfl c24) (fun a F => ?_)
 refine xE H 11 rfl (by kernel_rfl) ?_
 refine oG F rfl Tryz.call33 rfl (spec_Decimal_c z25 c26 _ aA i36) (fun a vv w ⟨hv40, S, i39⟩ F => ?_)
 subst vv
 have H := H.r0 S
 refine x_end ?_
 refine x_tn ?_
 refine ⟨⟨_, H⟩, ?_⟩
 refine b_q0 12 rfl (by kernel_rfl) (by kernel_rfl) (by kernel_rfl) ?_
 refine v_val F rfl (fun w l => r_scat F rfl rfl c30) (fun a F => ?_)
 refine b_q0 13 rfl (by kernel_rfl) (by kernel_rfl) (by kernel_rfl) ?_
 refine v_val F rfl (fun w l => r_assign F rfl) (fun a F => ?_)
 refine b_end (by kernel_rfl) ?_
 refine x_tn ?_
 refine x_seq ?_
 refine x_seq ?_
 refine x_reg ?_
 refine o_assign F rfl rfl (fun a F => ?_)
 refine x_end ?_
 refine x_tn ?_
 obtain ⟨o211, hR, hk212⟩ := thn_some hR
 refine x_cutQ (fun a w => ∃ (s219 : ByteArray), o211 = .nx s219 ∧ Sk a 80 [(3, .string s219)] ∧ Sep [] B w0 w [] ∧ s219.size ≤ maxLen) ?_ ?_
 ·
  refine x_blk ?_
  obtain ⟨fl215, hf216, hR⟩ := forL_gen hR
  refine x_loop (fun g a w => ∃ (k221 : Nat) (rest222 : List Atom) (s217 : ByteArray), (k221 ≤ x0.atoms.length ∧ x0.atoms.drop k221 = rest222) ∧ rest222.length = g ∧ forL fl215 rest222 k221 s217 = some o211 ∧ Sk a 80 [(4, .int .i64 (k221 : Int)), (0, v0), (3, .string s217)] ∧ Sep [] B w0 w [] ∧ s217.size ≤ maxLen) x0.atoms.length ?_ ?_
  ·
   exact ⟨0, x0.atoms, z29, ⟨Nat.zero_le _, rfl⟩, rfl, hR, F.sub (sc rfl (sc rfl (sc rfl sn))), H, (scat_sz c30)⟩
  intro g224 a w ⟨k221, rest222, s217, hd225, hg226, hR, F, H, i218⟩
  cases rest222 with
  | nil =>
   replace hR := forL_nil hR
   have hkk221 := drop_nil hd225.1 hd225.2
   have hlk221 := dec_no hkk221
   refine x_seq ?_
   refine x_seq ?_
   refine x_reg ?_
   refine o_move F rfl rfl (fun a F => ?_)
   refine o_move F rfl rfl (fun a F => ?_)
   refine oN F rfl rfl A0 (fun a F => ?_)
   refine oF (s' := 1) fa34_2 F rfl rfl A0 RFormula.f2 (fun a p390 h391 F => ?_)
   refine olS Tryz.isAgg32 F rfl rfl H.sm h391 (fun a v392 h393 F => ?_)
   refine oL Tryz.underlying32 F rfl rfl h393 (fun a i394 F => ?_)
   refine o_lss F rfl rfl rfl (fun a F => ?_)
   refine x_end ?_
   refine x_tn ?_
   refine x_ifF F rfl hlk221 ?_
   refine x_exit ?_
   refine x_te ?_
   refine x_te ?_
   refine x_be ?_
   refine x_tn ?_
   exact ⟨s217, (Option.some.inj hR).symm, F.sub (sc rfl sn), H, i218⟩
  | cons x223 rest222 =>
   subst hg226
   replace hd225 := drop_cons hd225.2
   have hxk221 := ix_nat hd225.2.1
   obtain ⟨ck221, hR, hn214⟩ := forL_cons hR
   rw [hf216] at hR
   have hlk221 := dec_yes hd225.1
   refine x_seq ?_
   refine x_seq ?_
   refine x_reg ?_
   refine o_move F rfl rfl (fun a F => ?_)
   refine o_move F rfl rfl (fun a F => ?_)
   refine oN F rfl rfl A0 (fun a F => ?_)
   refine oF (s' := 1) fa34_2 F rfl rfl A0 RFormula.f2 (fun a p227 h228 F => ?_)
   refine olS Tryz.isAgg32 F rfl rfl H.sm h228 (fun a v229 h230 F => ?_)
   refine oL Tryz.underlying32 F rfl rfl h230 (fun a i231 F => ?_)
   refine o_lss F rfl rfl rfl (fun a F => ?_)
   refine x_end ?_
   refine x_tn ?_
   refine x_ifT F rfl hlk221 ?_
   refine x_skip ?_
   refine x_tn ?_
   refine x_seq ?_
   have ikk221 := k64 (Nat.le_of_lt hd225.1) i231
   have ink221 := inc64 hd225.1 i231
   refine x_blk ?_
   refine x_seq ?_
   refine x_seq ?_
   refine x_reg ?_
   refine o_move F rfl rfl (fun a F => ?_)
   refine oN F rfl rfl A0 (fun a F => ?_)
   refine oF (s' := 1) fa34_2 F rfl rfl A0 RFormula.f2 (fun a p232 h233 F => ?_)
   refine olS Tryz.isAgg32 F rfl rfl H.sm h233 (fun a v234 h235 F => ?_)
   refine o_move F rfl rfl (fun a F => ?_)
   refine oI Tryz.underlying32 Tryz.sizeOf46 F rfl rfl rfl h235 hxk221 (fun a p236 h237 F => ?_)
   refine oF (s' := 1) fa46_0 F rfl rfl h237 RAtom.f0 (fun a p238 h239 F => ?_)
   refine olI Tryz.isAgg2 F rfl rfl H.sm h239 (fun a i240 F => ?_)
   refine o_eql F rfl rfl rfl (fun a F => ?_)
   refine x_end ?_
   refine x_tn ?_
   obtain ⟨o263, hR, hk264⟩ := thn_some hR
   refine x_cutQ (fun a w => ∃ (s266 : ByteArray), o263 = .nx s266 ∧ Sk a 80 [(0, v0), (3, .string s266), (4, .int .i64 (k221 : Int))] ∧ Sep [] B w0 w [] ∧ s266.size ≤ maxLen) ?_ ?_
   ·
    refine x_if F rfl (fun hb268 => ?_) (fun hb268 => ?_)
    ·
     replace hR := ifT hb268 hR
     refine x_reg ?_
     refine o_move F rfl rfl (fun a F => ?_)
     obtain ⟨z269, c270, hR⟩ := bnd_some hR
     refine o_scat F rfl rfl rfl c270 (fun a F => ?_)
     refine o_assign F rfl rfl (fun a F => ?_)
     refine x_end ?_
     refine x_tn ?_
     exact ⟨z269, (Option.some.inj hR).symm, F.sub (sc rfl (sc rfl (sc rfl sn))), H, (scat_sz c270)⟩
    replace hR := ifF hb268 hR
    refine x_reg ?_
    refine o_move F rfl rfl (fun a F => ?_)
    refine o_move F rfl rfl (fun a F => ?_)
    refine oN F rfl rfl A0 (fun a F => ?_)
    refine oF (s' := 1) fa34_2 F rfl rfl A0 RFormula.f2 (fun a p271 h272 F => ?_)
    refine olS Tryz.isAgg32 F rfl rfl H.sm h272 (fun a v273 h274 F => ?_)
    refine o_move F rfl rfl (fun a F => ?_)
    refine oI Tryz.underlying32 Tryz.sizeOf46 F rfl rfl rfl h274 hxk221 (fun a p275 h276 F => ?_)
    refine oF (s' := 1) fa46_0 F rfl rfl h276 RAtom.f0 (fun a p277 h278 F => ?_)
    refine olI Tryz.isAgg2 F rfl rfl H.sm h278 (fun a i279 F => ?_)
    obtain ⟨z280, c281, hR⟩ := bnd_some hR
    refine oG F rfl Tryz.call33 rfl (spec_Decimal_c z280 c281 _ aA i279) (fun a vv w ⟨hv283, S, i282⟩ F => ?_)
    subst vv
    have H := H.r0 S
    obtain ⟨z284, c285, hR⟩ := bnd_some hR
    refine o_scat F rfl rfl rfl c285 (fun a F => ?_)
    obtain ⟨z286, c287, hR⟩ := bnd_some hR
    refine o_scat F rfl rfl rfl c287 (fun a F => ?_)
    obtain ⟨z288, c289, hR⟩ := bnd_some hR
    refine o_scat F rfl rfl rfl c289 (fun a F => ?_)
    refine o_assign F rfl rfl (fun a F => ?_)
    refine x_end ?_
    refine x_tn ?_
    exact ⟨z288, (Option.some.inj hR).symm, F.sub (sc rfl (sc rfl (sc rfl sn))), H, (scat_sz c289)⟩
   intro a w ⟨s266, ho265, F, H, i267⟩
   subst ho265
   have hR := then_nx hk264
   refine x_tn ?_
   refine x_seq ?_
   refine x_reg ?_
   refine o_assign F rfl rfl (fun a F => ?_)
   refine x_end ?_
   refine x_tn ?_
   obtain ⟨o333, hR, hk334⟩ := thn_some hR
   refine x_cutQ (fun a w => ∃ (s341 : ByteArray), o333 = .nx s341 ∧ Sk a 80 [(0, v0), (3, .string s341), (4, .int .i64 (k221 : Int))] ∧ Sep [] B w0 w [] ∧ s341.size ≤ maxLen) ?_ ?_
   ·
    refine x_blk ?_
    obtain ⟨fl337, hf338, hR⟩ := forL_gen hR
    refine x_loop (fun g a w => ∃ (k343 : Nat) (rest344 : List Int) (s339 : ByteArray), (k343 ≤ x223.args.length ∧ x223.args.drop k343 = rest344) ∧ rest344.length = g ∧ forL fl337 rest344 k343 s339 = some o333 ∧ Sk a 80 [(5, .int .i64 (k343 : Int)), (0, v0), (3, .string s339), (4, .int .i64 (k221 : Int))] ∧ Sep [] B w0 w [] ∧ s339.size ≤ maxLen) x223.args.length ?_ ?_
    ·
     exact ⟨0, x223.args, s266, ⟨Nat.zero_le _, rfl⟩, rfl, hR, F.sub (sc rfl (sc rfl (sc rfl (sc rfl sn)))), H, i267⟩
    intro g346 a w ⟨k343, rest344, s339, hd347, hg348, hR, F, H, i340⟩
    cases rest344 with
    | nil =>
     replace hR := forL_nil hR
     have hkk343 := drop_nil hd347.1 hd347.2
     have hlk343 := dec_no hkk343
     refine x_seq ?_
     refine x_seq ?_
     refine x_reg ?_
     refine o_move F rfl rfl (fun a F => ?_)
     refine o_move F rfl rfl (fun a F => ?_)
     refine oN F rfl rfl A0 (fun a F => ?_)
     refine oF (s' := 1) fa34_2 F rfl rfl A0 RFormula.f2 (fun a p379 h380 F => ?_)
     refine olS Tryz.isAgg32 F rfl rfl H.sm h380 (fun a v381 h382 F => ?_)
     refine o_move F rfl rfl (fun a F => ?_)
     refine oI Tryz.underlying32 Tryz.sizeOf46 F rfl rfl rfl h382 hxk221 (fun a p383 h384 F => ?_)
     refine oF (s' := 1) fa46_1 F rfl rfl h384 RAtom.f1 (fun a p385 h386 F => ?_)
     refine olS Tryz.isAgg44 F rfl rfl H.sm h386 (fun a v387 h388 F => ?_)
     refine oL Tryz.underlying44 F rfl rfl h388 (fun a i389 F => ?_)
     refine o_lss F rfl rfl rfl (fun a F => ?_)
     refine x_end ?_
     refine x_tn ?_
     refine x_ifF F rfl hlk343 ?_
     refine x_exit ?_
     refine x_te ?_
     refine x_te ?_
     refine x_be ?_
     refine x_tn ?_
     exact ⟨s339, (Option.some.inj hR).symm, F.sub (sc rfl (sc rfl (sc rfl sn))), H, i340⟩
    | cons x345 rest344 =>
     subst hg348
     replace hd347 := drop_cons hd347.2
     have hxk343 := ix_nat hd347.2.1
     obtain ⟨ck343, hR, hn336⟩ := forL_cons hR
     rw [hf338] at hR
     have hlk343 := dec_yes hd347.1
     refine x_seq ?_
     refine x_seq ?_
     refine x_reg ?_
     refine o_move F rfl rfl (fun a F => ?_)
     refine o_move F rfl rfl (fun a F => ?_)
     refine oN F rfl rfl A0 (fun a F => ?_)
     refine oF (s' := 1) fa34_2 F rfl rfl A0 RFormula.f2 (fun a p349 h350 F => ?_)
     refine olS Tryz.isAgg32 F rfl rfl H.sm h350 (fun a v351 h352 F => ?_)
     refine o_move F rfl rfl (fun a F => ?_)
     refine oI Tryz.underlying32 Tryz.sizeOf46 F rfl rfl rfl h352 hxk221 (fun a p353 h354 F => ?_)
     refine oF (s' := 1) fa46_1 F rfl rfl h354 RAtom.f1 (fun a p355 h356 F => ?_)
     refine olS Tryz.isAgg44 F rfl rfl H.sm h356 (fun a v357 h358 F => ?_)
     refine oL Tryz.underlying44 F rfl rfl h358 (fun a i359 F => ?_)
     refine o_lss F rfl rfl rfl (fun a F => ?_)
     refine x_end ?_
     refine x_tn ?_
     refine x_ifT F rfl hlk343 ?_
     refine x_skip ?_
     refine x_tn ?_
     refine x_seq ?_
     have ikk343 := k64 (Nat.le_of_lt hd347.1) i359
     have ink343 := inc64 hd347.1 i359
     refine x_blk ?_
     refine x_reg ?_
     refine o_move F rfl rfl (fun a F => ?_)
     refine o_move F rfl rfl (fun a F => ?_)
     refine oN F rfl rfl A0 (fun a F => ?_)
     refine oF (s' := 1) fa34_2 F rfl rfl A0 RFormula.f2 (fun a p360 h361 F => ?_)
     refine olS Tryz.isAgg32 F rfl rfl H.sm h361 (fun a v362 h363 F => ?_)
     refine o_move F rfl rfl (fun a F => ?_)
     refine oI Tryz.underlying32 Tryz.sizeOf46 F rfl rfl rfl h363 hxk221 (fun a p364 h365 F => ?_)
     refine oF (s' := 1) fa46_1 F rfl rfl h365 RAtom.f1 (fun a p366 h367 F => ?_)
     refine olS Tryz.isAgg44 F rfl rfl H.sm h367 (fun a v368 h369 F => ?_)
     refine o_move F rfl rfl (fun a F => ?_)
     refine oI Tryz.underlying44 Tryz.sizeOf2 F rfl rfl rfl h369 hxk343 (fun a p370 h371 F => ?_)
     refine olI Tryz.isAgg2 F rfl rfl H.sm h371 (fun a i372 F => ?_)
     obtain ⟨z373, c374, hR⟩ := bnd_some hR
     refine oG F rfl Tryz.call33 rfl (spec_Decimal_c z373 c374 _ aA i372) (fun a vv w ⟨hv376, S, i375⟩ F => ?_)
     subst vv
     have H := H.r0 S
     obtain ⟨z377, c378, hR⟩ := bnd_some hR
     refine o_scat F rfl rfl rfl c378 (fun a F => ?_)
     refine o_assign F rfl rfl (fun a F => ?_)
     refine x_end ?_
     refine x_bn ?_
     refine x_tn ?_
     refine x_reg ?_
     refine o_move F rfl rfl (fun a F => ?_)
     refine o_inc F rfl rfl rfl ink343 (fun a F => ?_)
     refine o_assign F rfl rfl (fun a F => ?_)
     refine x_end ?_
     refine x_tn ?_
     replace hR := l_go hR hn336
     exact ⟨_, Nat.lt_succ_self _, k343 + 1, rest344, z377, ⟨hd347.1, hd347.2.2⟩, rfl, hR, F.sub (sc rfl (sc rfl (sc rfl (sc rfl sn)))), H, (scat_sz c378)⟩
   intro a w ⟨s341, ho335, F, H, i342⟩
   subst ho335
   have hR := then_nx hk334
   refine x_bn ?_
   refine x_tn ?_
   refine x_reg ?_
   refine o_move F rfl rfl (fun a F => ?_)
   refine o_inc F rfl rfl rfl ink221 (fun a F => ?_)
   refine o_assign F rfl rfl (fun a F => ?_)
   refine x_end ?_
   refine x_tn ?_
   replace hR := l_go hR hn214
   exact ⟨_, Nat.lt_succ_self _, k221 + 1, rest222, s341, ⟨hd225.1, hd225.2.2⟩, rfl, hR, F.sub (sc rfl (sc rfl (sc rfl sn))), H, i342⟩
 intro a w ⟨s219, ho213, F, H, i220⟩
 subst ho213
 have hR := then_nx hk212
 refine x_tn ?_
 refine x_seq ?_
 refine x_reg ?_
 refine o_move F rfl rfl (fun a F => ?_)
 refine o_assign F rfl rfl (fun a F => ?_)
 refine x_end ?_
 refine x_tn ?_
 refine x_ret ?_
 refine x_res1 F rfl (rv_t F rfl) ?_
 obtain rfl := Option.some.inj hR
 exact ⟨_, rfl, rfl, H, i220⟩

def spec_ReadFormula (N : Nat) (x0 : ByteArray) : Option (Formula × Int) :=
 if (decide (20000 < (x0.size : Int))) then
  some ((Formula.mk 0 0 ([])), 2)
 else
  bnd (spec_l01Split x0 (32 : UInt8)) fun z14 =>
  thn (σ := Bool) (
   if (decide ((z14.length : Int) < 3)) then  some (.nx true) else  bnd (ix z14 0) fun z34 =>
    if (!sEq z34 (bstr [102, 111, 114, 109, 117, 108, 97])) then  some (.nx true) else  some (.nx (decide (19 < (z14.length : Int))))) fun s31 =>
  if s31 then
   some ((Formula.mk 0 0 ([])), 5)
  else
   bnd (ix z14 1) fun z43 =>
   bnd (spec_l01Number z43) fun z48 =>
   bnd (ix z14 2) fun z52 =>
   bnd (spec_l01Number z52) fun z57 =>
   thn (σ := Bool) (
    if z48.2 then  some (.nx z57.2) else  some (.nx false)) fun s66 =>
   thn (σ := Bool × Int × (List Atom)) (
    whl (σ := Bool × Int × (List Atom)) (ρ := Formula × Int) (fun (s : Bool × Int × (List Atom)) =>
      match s with
      | (s580, s581, s583) =>
      thn (σ := Bool) (
       if (decide (s581 < (z14.length : Int))) then  some (.nx s580) else  some (.nx false)) fun s603 =>
      if s603 then
       bnd (ix z14 s581) fun z607 =>
       bnd (spec_l01Split z607 (58 : UInt8)) fun z612 =>
       thn (σ := Bool) (
        if ((z612.length : Int) == 2) then  bnd (ix z612 0) fun z630 =>
         some (.nx (decide (0 < (z630.size : Int)))) else  some (.nx false)) fun s627 =>
       if (!s627) then
        some (.brk (s627, s581, s583))
       else
        bnd (ix z612 0) fun z637 =>
        thn (σ := Bool × Int) (
         if (!sEq z637 (bstr [61])) then
          bnd (ssl z637 1 (z637.size : Int)) fun z678 =>
          bnd (spec_l01Number z678) fun z680 =>
          thn (σ := Bool) (
           if z680.2 then  bnd (six z637 0) fun z698 =>
            some (.nx ((z698.toNat : Int) == ((82 : UInt8).toNat : Int))) else  some (.nx false)) fun s693 =>
          some (.nx (s693, z680.1))
         else
          some (.nx (s627, (-1)))) fun (s671, s672) =>
        bnd (ix z612 1) fun z700 =>
        thn (σ := (List Int)) (
         forI (σ := (List Int)) (ρ := (Ctl (Bool × Int × (List Atom)) (Formula × Int))) (fun (k792 : Nat) (s786 : (List Int)) =>
          bnd (six z700 (k792 : Int)) fun z804 =>
          bnd (ck ((z804.toNat : Int) - 48)) fun z806 =>
          bnd (ap s786 ([z806])) fun z810 =>
          some (.go z810)) (z700.size : Int).toNat 0 []) fun s789 =>
        bnd (ap s583 ([(Atom.mk s672 s789)])) fun z840 =>
        bnd (ck (s581 + 1)) fun z844 =>
        some (.go (s671, z844, z840))
      else
       some (.brk (s580, s581, s583))) N (s66, 3, [])) fun (s586, s587, s589) =>
   thn (σ := Bool) (
    if (!s586) then  some (.nx true) else  bnd (spec_l03Shown (Formula.mk z48.1 z57.1 s589)) fun z860 =>
     if (!z860) then  some (.nx true) else  bnd (spec_l03Text N (Formula.mk z48.1 z57.1 s589)) fun z863 =>
      some (.nx (!sEq z863 x0))) fun s858 =>
   if s858 then
    some ((Formula.mk 0 0 ([])), 5)
   else
    some ((Formula.mk z48.1 z57.1 s589), 0)
set_option maxHeartbeats 1000000 in
theorem spec_ReadFormula_c {B : Nat → Prop} {N : Nat} {x0 : ByteArray} (r : Formula × Int) (hR : spec_ReadFormula N x0 = some r)  (w0 : World) (hN : ∀ c, B c → c < w0.heap.size) (hx0 : x0.size ≤ maxLen) : Calls Tryz.prog 10 #[.string x0] w0 (Gv (fun v w' => ∃ (v1' : Value), v = .tuple #[.agg #[.int .i64 r.1.free, .int .i64 r.1.vars, v1'], .int .i64 r.2] ∧ Sep [] B w0 w' [rl 2 RAtom 46 v1' r.1.atoms] ∧ I64 r.1.free ∧ I64 r.1.vars ∧ I64 r.2)) := by
 unfold spec_ReadFormula at hR
 refine x_enter (L := [(0, .string x0)]) Tryz.func10 rfl rfl rfl (sc rfl sn) (fun a F => ?_)
 have H := Sep.start hN
 refine x_seq ?_
 refine x_reg ?_
 refine oA Tryz.zeroValue34 F rfl rfl H (fun a w b11 H F => ?_)
 refine o_assign F rfl rfl (fun a F => ?_)
 refine x_end ?_
 refine x_tn ?_
 refine x_seq ?_
 refine x_seq ?_
 refine x_reg ?_
 refine o_move F rfl rfl (fun a F => ?_)
 refine o_lenStr Tryz.underlying9 F rfl rfl (fun a F => ?_)
 refine o_gtr F rfl rfl rfl (fun a F => ?_)
 refine x_end ?_
 refine x_tn ?_
 refine x_if F rfl (fun hb12 => ?_) (fun hb12 => ?_)
 ·
  replace hR := ifT hb12 hR
  refine x_seq ?_
  refine x_reg ?_
  refine o_build Tryz.underlying34 Tryz.zeroValue34 (fun w => by simp [Tryz.sizeOf2, Tryz.sizeOf32]; rfl) F rfl rfl rfl rfl rfl on rfl rfl (fun a F => ?_)
  refine oWA (vs := [.int .i64 0, .int .i64 0, (.slice none 0 0)]) Tryz.sizeOf34 F rfl rfl rfl H (oc rfl (oc rfl (oc rfl on))) rfl rfl (fun w H => ?_)
  refine o_assign F rfl rfl (fun a F => ?_)
  refine x_end ?_
  refine x_tn ?_
  refine x_ret ?_
  refine x_tr ?_
  refine x_res2 F rfl (rv_cA (arr := #[.int .i64 0, .int .i64 0, (.slice none 0 0)]) F Tryz.isAgg34 Tryz.sizeOf34 rfl (H.b 0 rfl)) (rv_t F rfl) ?_
  obtain rfl := Option.some.inj hR
  exact ⟨_, rfl, (.slice none 0 0), rfl, ((H.nl 2 RAtom 46).s [0] rfl rfl), (show I64 0 by decide), (show I64 0 by decide), (show I64 (2) by decide)⟩
 replace hR := ifF hb12 hR
 refine x_skip ?_
 refine x_tn ?_
 refine x_seq ?_
 refine x_reg ?_
 refine o_move F rfl rfl (fun a F => ?_)
 obtain ⟨z14, c15, hR⟩ := bnd_some hR
 refine oG F rfl Tryz.call9 rfl (spec_l01Split_c z14 c15 _ aA hx0) (fun a vv w ⟨v16, hv18, S⟩ F => ?_)
 subst vv
 have H := H.r1 S n0
 refine o_assign F rfl rfl (fun a F => ?_)
 refine x_end ?_
 refine x_tn ?_
 refine x_seq ?_
 refine x_seq ?_
 obtain ⟨o28, hR, hk29⟩ := thn_some hR
 refine x_cutQ (fun a w => ∃ (s31 : Bool), o28 = .nx s31 ∧ Sk a 147 [(0, .string x0), (2, .pointer (some ⟨b11, 0, none⟩)), (4, v16), (36, .bool s31)] ∧ Sep [] B w0 w [rl 1 RStr 9 v16 z14, bx b11 [.int .i64 0, .int .i64 0, (.slice none 0 0)] 34]) ?_ ?_
 ·
  refine x_reg ?_
  refine o_move F rfl rfl (fun a F => ?_)
  refine oL Tryz.underlying30 F rfl rfl (H.l 0 rfl) (fun a i32 F => ?_)
  refine o_lss F rfl rfl rfl (fun a F => ?_)
  refine o_move F rfl rfl (fun a F => ?_)
  rcases bcases (decide ((z14.length : Int) < 3)) with hb33 | hb33
  ·
   replace hR := ifT hb33 hR
   have F := F.eq (t := 26) rfl (congrArg Value.bool hb33)
   refine o_no F rfl rfl (fun a F => ?_)
   refine o_no F rfl rfl (fun a F => ?_)
   refine o_no F rfl rfl (fun a F => ?_)
   refine o_no F rfl rfl (fun a F => ?_)
   refine o_pickt F rfl rfl rfl (fun a F => ?_)
   refine o_move F rfl rfl (fun a F => ?_)
   refine o_no F rfl rfl (fun a F => ?_)
   refine o_no F rfl rfl (fun a F => ?_)
   refine o_no F rfl rfl (fun a F => ?_)
   refine o_pickt F rfl rfl rfl (fun a F => ?_)
   refine x_end ?_
   refine x_tn ?_
   exact ⟨true, (Option.some.inj hR).symm, F.sub (sc rfl (sc rfl (sc rfl (sc rfl sn)))), H⟩
  replace hR := ifF hb33 hR
  have F := F.eq (t := 26) rfl (congrArg Value.bool hb33)
  refine o_move F rfl rfl (fun a F => ?_)
  obtain ⟨z34, c35, hR⟩ := bnd_some hR
  refine oI Tryz.underlying30 Tryz.sizeOf9 F rfl rfl rfl (H.l 0 rfl) c35 (fun a p36 h37 F => ?_)
  refine olT Tryz.isAgg9 F rfl rfl (Sm.refl _ _) h37 (fun a i38 F => ?_)
  refine o_sneq F rfl rfl rfl (fun a F => ?_)
  refine o_pickf F rfl rfl rfl (fun a F => ?_)
  refine o_move F rfl rfl (fun a F => ?_)
  rcases bcases (!sEq z34 (bstr [102, 111, 114, 109, 117, 108, 97])) with hb39 | hb39
  ·
   replace hR := ifT hb39 hR
   have F := F.eq (t := 32) rfl (congrArg Value.bool hb39)
   refine o_no F rfl rfl (fun a F => ?_)
   refine o_no F rfl rfl (fun a F => ?_)
   refine o_no F rfl rfl (fun a F => ?_)
   refine o_pickt F rfl rfl rfl (fun a F => ?_)
   refine x_end ?_
   refine x_tn ?_
   exact ⟨true, (Option.some.inj hR).symm, F.sub (sc rfl (sc rfl (sc rfl (sc rfl sn)))), H⟩
  replace hR := ifF hb39 hR
  have F := F.eq (t := 32) rfl (congrArg Value.bool hb39)
  refine o_move F rfl rfl (fun a F => ?_)
  refine oL Tryz.underlying30 F rfl rfl (H.l 0 rfl) (fun a i40 F => ?_)
  refine o_gtr F rfl rfl rfl (fun a F => ?_)
  refine o_pickf F rfl rfl rfl (fun a F => ?_)
  refine x_end ?_
  refine x_tn ?_
  exact ⟨(decide (19 < (z14.length : Int))), (Option.some.inj hR).symm, F.sub (sc rfl (sc rfl (sc rfl (sc rfl sn)))), H⟩
 intro a w ⟨s31, ho30, F, H⟩
 subst ho30
 have hR := then_nx hk29
 refine x_tn ?_
 refine x_if F rfl (fun hb41 => ?_) (fun hb41 => ?_)
 ·
  replace hR := ifT hb41 hR
  refine x_seq ?_
  refine x_reg ?_
  refine o_build Tryz.underlying34 Tryz.zeroValue34 (fun w => by simp [Tryz.sizeOf2, Tryz.sizeOf32]; rfl) F rfl rfl rfl rfl rfl on rfl rfl (fun a F => ?_)
  refine oWA (vs := [.int .i64 0, .int .i64 0, (.slice none 0 0)]) Tryz.sizeOf34 F rfl rfl rfl (H.s [1, 0] rfl rfl) (oc rfl (oc rfl (oc rfl on))) rfl rfl (fun w H => ?_)
  refine o_assign F rfl rfl (fun a F => ?_)
  refine x_end ?_
  refine x_tn ?_
  refine x_ret ?_
  refine x_tr ?_
  refine x_res2 F rfl (rv_cA (arr := #[.int .i64 0, .int .i64 0, (.slice none 0 0)]) F Tryz.isAgg34 Tryz.sizeOf34 rfl (H.b 0 rfl)) (rv_t F rfl) ?_
  obtain rfl := Option.some.inj hR
  exact ⟨_, rfl, (.slice none 0 0), rfl, ((H.nl 2 RAtom 46).s [0] rfl rfl), (show I64 0 by decide), (show I64 0 by decide), (show I64 (5) by decide)⟩
 replace hR := ifF hb41 hR
 refine x_skip ?_
 refine x_tn ?_
 refine x_seq ?_
 refine x_reg ?_
 refine o_move F rfl rfl (fun a F => ?_)
 obtain ⟨z43, c44, hR⟩ := bnd_some hR
 refine oI Tryz.underlying30 Tryz.sizeOf9 F rfl rfl rfl (H.l 0 rfl) c44 (fun a p45 h46 F => ?_)
 refine olT Tryz.isAgg9 F rfl rfl (Sm.refl _ _) h46 (fun a i47 F => ?_)
 obtain ⟨z48, c49, hR⟩ := bnd_some hR
 refine oG F rfl Tryz.call18 rfl (spec_l01Number_c z48 c49 _ aA i47) (fun a vv w ⟨hv51, S, i50⟩ F => ?_)
 subst vv
 have H := H.r0 S
 refine o_move F rfl rfl (fun a F => ?_)
 refine o_extract F rfl rfl rfl (fun a F => ?_)
 refine o_extract F rfl rfl rfl (fun a F => ?_)
 refine o_assign F rfl rfl (fun a F => ?_)
 refine o_assign F rfl rfl (fun a F => ?_)
 refine x_end ?_
 refine x_tn ?_
 refine x_seq ?_
 refine x_reg ?_
 refine o_move F rfl rfl (fun a F => ?_)
 obtain ⟨z52, c53, hR⟩ := bnd_some hR
 refine oI Tryz.underlying30 Tryz.sizeOf9 F rfl rfl rfl (H.l 0 rfl) c53 (fun a p54 h55 F => ?_)
 refine olT Tryz.isAgg9 F rfl rfl (Sm.refl _ _) h55 (fun a i56 F => ?_)
 obtain ⟨z57, c58, hR⟩ := bnd_some hR
 refine oG F rfl Tryz.call18 rfl (spec_l01Number_c z57 c58 _ aA i56) (fun a vv w ⟨hv60, S, i59⟩ F => ?_)
 subst vv
 have H := H.r0 S
 refine o_move F rfl rfl (fun a F => ?_)
 refine o_extract F rfl rfl rfl (fun a F => ?_)
 refine o_extract F rfl rfl rfl (fun a F => ?_)
 refine o_assign F rfl rfl (fun a F => ?_)
 refine o_assign F rfl rfl (fun a F => ?_)
 refine x_end ?_
 refine x_tn ?_
 refine x_seq ?_
 refine x_reg ?_
 refine o_move F rfl rfl (fun a F => ?_)
 refine o_move F rfl rfl (fun a F => ?_)
 refine o_build Tryz.underlying34 Tryz.zeroValue34 (fun w => by simp [Tryz.sizeOf2, Tryz.sizeOf32]; rfl) F rfl rfl rfl rfl rfl (oc rfl (oc rfl on)) rfl rfl (fun a F => ?_)
 refine oA Tryz.zeroValue34 F rfl rfl H (fun a w b61 H F => ?_)
 refine oWA (vs := [.int .i64 z48.1, .int .i64 z57.1, (.slice none 0 0)]) Tryz.sizeOf34 F rfl rfl rfl H (oc rfl (oc rfl (oc rfl on))) rfl rfl (fun w H => ?_)
 refine x_end ?_
 refine x_tn ?_
 refine x_seq ?_
 obtain ⟨o63, hR, hk64⟩ := thn_some hR
 refine x_cutQ (fun a w => ∃ (s66 : Bool), o63 = .nx s66 ∧ Sk a 147 [(0, .string x0), (2, .pointer (some ⟨b11, 0, none⟩)), (4, v16), (9, .pointer (some ⟨b61, 0, none⟩)), (10, .bool s66)] ∧ Sep [] B w0 w [bx b61 [.int .i64 z48.1, .int .i64 z57.1, (.slice none 0 0)] 34, rl 1 RStr 9 v16 z14, bx b11 [.int .i64 0, .int .i64 0, (.slice none 0 0)] 34]) ?_ ?_
 ·
  refine x_reg ?_
  refine o_move F rfl rfl (fun a F => ?_)
  refine o_move F rfl rfl (fun a F => ?_)
  rcases bcases z48.2 with hb67 | hb67
  ·
   replace hR := ifT hb67 hR
   have F := F.eq (t := 56) rfl (congrArg Value.bool hb67)
   refine o_move F rfl rfl (fun a F => ?_)
   refine o_pickt F rfl rfl rfl (fun a F => ?_)
   refine o_assign F rfl rfl (fun a F => ?_)
   refine x_end ?_
   refine x_tn ?_
   exact ⟨z57.2, (Option.some.inj hR).symm, F.sub (sc rfl (sc rfl (sc rfl (sc rfl (sc rfl sn))))), H⟩
  replace hR := ifF hb67 hR
  have F := F.eq (t := 56) rfl (congrArg Value.bool hb67)
  refine o_no F rfl rfl (fun a F => ?_)
  refine o_pickf F rfl rfl rfl (fun a F => ?_)
  refine o_assign F rfl rfl (fun a F => ?_)
  refine x_end ?_
  refine x_tn ?_
  exact ⟨false, (Option.some.inj hR).symm, F.sub (sc rfl (sc rfl (sc rfl (sc rfl (sc rfl sn))))), H⟩
 intro a w ⟨s66, ho65, F, H⟩
 subst ho65
 have hR := then_nx hk64
 refine x_tn ?_
 refine x_seq ?_
 refine x_seq ?_
 refine x_reg ?_
 refine o_assign F rfl rfl (fun a F => ?_)
 refine x_end ?_
 refine x_tn ?_
 obtain ⟨o574, hR, hk575⟩ := thn_some hR
 refine x_cutQ (fun a w => ∃ (s586 : Bool) (s587 : Int) (s589 : List Atom) (v591 : Value), o574 = .nx (s586, s587, s589) ∧ Sk a 147 [(0, .string x0), (2, .pointer (some ⟨b11, 0, none⟩)), (9, .pointer (some ⟨b61, 0, none⟩)), (10, .bool s586)] ∧ Sep [] B w0 w [rl 2 RAtom 46 v591 s589, bx b61 [.int .i64 z48.1, .int .i64 z57.1, v591] 34, bx b11 [.int .i64 0, .int .i64 0, (.slice none 0 0)] 34] ∧ I64 s587) ?_ ?_
 ·
  refine x_blk ?_
  obtain ⟨fl578, hf579, hR⟩ := whl_gen hR
  refine x_loop (fun g a w => ∃ (s580 : Bool) (s581 : Int) (s583 : List Atom) (v585 : Value), whl fl578 g (s580, s581, s583) = some o574 ∧ Sk a 147 [(0, .string x0), (2, .pointer (some ⟨b11, 0, none⟩)), (4, v16), (9, .pointer (some ⟨b61, 0, none⟩)), (10, .bool s580), (11, .int .i64 s581)] ∧ Sep [] B w0 w [rl 2 RAtom 46 v585 s583, bx b61 [.int .i64 z48.1, .int .i64 z57.1, v585] 34, rl 1 RStr 9 v16 z14, bx b11 [.int .i64 0, .int .i64 0, (.slice none 0 0)] 34] ∧ I64 s581) N ?_ ?_
  ·
   exact ⟨s66, 3, [], (.slice none 0 0), hR, F.sub (sc rfl (sc rfl (sc rfl (sc rfl (sc rfl (sc rfl sn)))))), (H.nl 2 RAtom 46), (show I64 (3) by decide)⟩
  intro g595 a w ⟨s580, s581, s583, v585, hR, F, H, i582⟩
  obtain ⟨ck592, rest593, hg597, hR, hn577⟩ := whl_round hR
  rw [hf579] at hR
  refine x_seq ?_
  refine x_seq ?_
  obtain ⟨o600, hR, hk601⟩ := thn_some hR
  refine x_cutQ (fun a w => ∃ (s603 : Bool), o600 = .nx s603 ∧ Sk a 147 [(0, .string x0), (2, .pointer (some ⟨b11, 0, none⟩)), (4, v16), (9, .pointer (some ⟨b61, 0, none⟩)), (10, .bool s580), (11, .int .i64 s581), (65, .bool s603)] ∧ Sep [] B w0 w [rl 2 RAtom 46 v585 s583, bx b61 [.int .i64 z48.1, .int .i64 z57.1, v585] 34, rl 1 RStr 9 v16 z14, bx b11 [.int .i64 0, .int .i64 0, (.slice none 0 0)] 34]) ?_ ?_
  ·
   refine x_reg ?_
   refine o_move F rfl rfl (fun a F => ?_)
   refine o_move F rfl rfl (fun a F => ?_)
   refine oL Tryz.underlying30 F rfl rfl (H.l 2 rfl) (fun a i604 F => ?_)
   refine o_lss F rfl rfl rfl (fun a F => ?_)
   refine o_move F rfl rfl (fun a F => ?_)
   rcases bcases (decide (s581 < (z14.length : Int))) with hb605 | hb605
   ·
    replace hR := ifT hb605 hR
    have F := F.eq (t := 63) rfl (congrArg Value.bool hb605)
    refine o_move F rfl rfl (fun a F => ?_)
    refine o_pickt F rfl rfl rfl (fun a F => ?_)
    refine x_end ?_
    refine x_tn ?_
    exact ⟨s580, (Option.some.inj hR).symm, F.sub (sc rfl (sc rfl (sc rfl (sc rfl (sc rfl (sc rfl (sc rfl sn))))))), H⟩
   replace hR := ifF hb605 hR
   have F := F.eq (t := 63) rfl (congrArg Value.bool hb605)
   refine o_no F rfl rfl (fun a F => ?_)
   refine o_pickf F rfl rfl rfl (fun a F => ?_)
   refine x_end ?_
   refine x_tn ?_
   exact ⟨false, (Option.some.inj hR).symm, F.sub (sc rfl (sc rfl (sc rfl (sc rfl (sc rfl (sc rfl (sc rfl sn))))))), H⟩
  intro a w ⟨s603, ho602, F, H⟩
  subst ho602
  have hR := then_nx hk601
  refine x_tn ?_
  refine x_if F rfl (fun hb606 => ?_) (fun hb606 => ?_)
  ·
   replace hR := ifT hb606 hR
   refine x_skip ?_
   refine x_tn ?_
   refine x_seq ?_
   refine x_blk ?_
   refine x_seq ?_
   refine x_reg ?_
   refine o_move F rfl rfl (fun a F => ?_)
   refine o_move F rfl rfl (fun a F => ?_)
   obtain ⟨z607, c608, hR⟩ := bnd_some hR
   refine oI Tryz.underlying30 Tryz.sizeOf9 F rfl rfl rfl (H.l 2 rfl) c608 (fun a p609 h610 F => ?_)
   refine olT Tryz.isAgg9 F rfl rfl (Sm.refl _ _) h610 (fun a i611 F => ?_)
   obtain ⟨z612, c613, hR⟩ := bnd_some hR
   refine oG F rfl Tryz.call9 rfl (spec_l01Split_c z612 c613 _ aA i611) (fun a vv w ⟨v614, hv616, S⟩ F => ?_)
   subst vv
   have H := H.r1 S n0
   refine o_assign F rfl rfl (fun a F => ?_)
   refine x_end ?_
   refine x_tn ?_
   refine x_seq ?_
   obtain ⟨o624, hR, hk625⟩ := thn_some hR
   refine x_cutQ (fun a w => ∃ (s627 : Bool), o624 = .nx s627 ∧ Sk a 147 [(0, .string x0), (2, .pointer (some ⟨b11, 0, none⟩)), (4, v16), (9, .pointer (some ⟨b61, 0, none⟩)), (10, .bool s627), (11, .int .i64 s581), (12, v614)] ∧ Sep [] B w0 w [rl 1 RStr 9 v614 z612, rl 2 RAtom 46 v585 s583, bx b61 [.int .i64 z48.1, .int .i64 z57.1, v585] 34, rl 1 RStr 9 v16 z14, bx b11 [.int .i64 0, .int .i64 0, (.slice none 0 0)] 34]) ?_ ?_
   ·
    refine x_reg ?_
    refine o_move F rfl rfl (fun a F => ?_)
    refine oL Tryz.underlying30 F rfl rfl (H.l 0 rfl) (fun a i628 F => ?_)
    refine o_eql F rfl rfl rfl (fun a F => ?_)
    refine o_move F rfl rfl (fun a F => ?_)
    rcases bcases ((z612.length : Int) == 2) with hb629 | hb629
    ·
     replace hR := ifT hb629 hR
     have F := F.eq (t := 76) rfl (congrArg Value.bool hb629)
     refine o_move F rfl rfl (fun a F => ?_)
     obtain ⟨z630, c631, hR⟩ := bnd_some hR
     refine oI Tryz.underlying30 Tryz.sizeOf9 F rfl rfl rfl (H.l 0 rfl) c631 (fun a p632 h633 F => ?_)
     refine olT Tryz.isAgg9 F rfl rfl (Sm.refl _ _) h633 (fun a i634 F => ?_)
     refine o_lenStr Tryz.underlying9 F rfl rfl (fun a F => ?_)
     refine o_gtr F rfl rfl rfl (fun a F => ?_)
     refine o_pickt F rfl rfl rfl (fun a F => ?_)
     refine o_assign F rfl rfl (fun a F => ?_)
     refine x_end ?_
     refine x_tn ?_
     exact ⟨(decide (0 < (z630.size : Int))), (Option.some.inj hR).symm, F.sub (sc rfl (sc rfl (sc rfl (sc rfl (sc rfl (sc rfl (sc rfl sn))))))), H⟩
    replace hR := ifF hb629 hR
    have F := F.eq (t := 76) rfl (congrArg Value.bool hb629)
    refine o_no F rfl rfl (fun a F => ?_)
    refine o_no F rfl rfl (fun a F => ?_)
    refine o_no F rfl rfl (fun a F => ?_)
    refine o_no F rfl rfl (fun a F => ?_)
    refine o_no F rfl rfl (fun a F => ?_)
    refine o_pickf F rfl rfl rfl (fun a F => ?_)
    refine o_assign F rfl rfl (fun a F => ?_)
    refine x_end ?_
    refine x_tn ?_
    exact ⟨false, (Option.some.inj hR).symm, F.sub (sc rfl (sc rfl (sc rfl (sc rfl (sc rfl (sc rfl (sc rfl sn))))))), H⟩
   intro a w ⟨s627, ho626, F, H⟩
   subst ho626
   have hR := then_nx hk625
   refine x_tn ?_
   refine x_seq ?_
   refine x_seq ?_
   refine x_reg ?_
   refine o_move F rfl rfl (fun a F => ?_)
   refine o_not F rfl rfl (fun a F => ?_)
   refine x_end ?_
   refine x_tn ?_
   refine x_if F rfl (fun hb635 => ?_) (fun hb635 => ?_)
   ·
    replace hR := ifT hb635 hR
    refine x_exit ?_
    refine x_te ?_
    refine x_bx rfl ?_
    refine x_te ?_
    refine x_te ?_
    replace hR := l_brk hR hn577
    refine x_be ?_
    refine x_tn ?_
    exact ⟨s627, s581, s583, v585, (Option.some.inj hR).symm, F.sub (sc rfl (sc rfl (sc rfl (sc rfl sn)))), (H.s [1, 2, 4] rfl rfl), i582⟩
   replace hR := ifF hb635 hR
   refine x_skip ?_
   refine x_tn ?_
   refine x_seq ?_
   refine x_reg ?_
   refine o_build Tryz.underlying46 Tryz.zeroValue46 (fun w => by simp [Tryz.sizeOf2, Tryz.sizeOf44]; rfl) F rfl rfl rfl rfl rfl (oc rfl on) rfl rfl (fun a F => ?_)
   refine oA Tryz.zeroValue46 F rfl rfl H (fun a w b636 H F => ?_)
   refine oWA (vs := [.int .i64 (-1), (.slice none 0 0)]) Tryz.sizeOf46 F rfl rfl rfl H (oc rfl (oc rfl on)) rfl rfl (fun w H => ?_)
   refine x_end ?_
   refine x_tn ?_
   refine x_seq ?_
   refine x_seq ?_
   refine x_reg ?_
   refine o_move F rfl rfl (fun a F => ?_)
   obtain ⟨z637, c638, hR⟩ := bnd_some hR
   refine oI Tryz.underlying30 Tryz.sizeOf9 F rfl rfl rfl (H.l 1 rfl) c638 (fun a p639 h640 F => ?_)
   refine olT Tryz.isAgg9 F rfl rfl (Sm.refl _ _) h640 (fun a i641 F => ?_)
   refine o_sneq F rfl rfl rfl (fun a F => ?_)
   refine x_end ?_
   refine x_tn ?_
   obtain ⟨o668, hR, hk669⟩ := thn_some hR
   refine x_cutQ (fun a w => ∃ (s671 : Bool) (s672 : Int), o668 = .nx (s671, s672) ∧ Sk a 147 [(0, .string x0), (2, .pointer (some ⟨b11, 0, none⟩)), (4, v16), (9, .pointer (some ⟨b61, 0, none⟩)), (10, .bool s671), (11, .int .i64 s581), (12, v614), (13, .pointer (some ⟨b636, 0, none⟩))] ∧ Sep [] B w0 w [bx b636 [.int .i64 s672, (.slice none 0 0)] 46, rl 1 RStr 9 v614 z612, rl 2 RAtom 46 v585 s583, bx b61 [.int .i64 z48.1, .int .i64 z57.1, v585] 34, rl 1 RStr 9 v16 z14, bx b11 [.int .i64 0, .int .i64 0, (.slice none 0 0)] 34] ∧ I64 s672) ?_ ?_
   ·
    refine x_if F rfl (fun hb674 => ?_) (fun hb674 => ?_)
    ·
     replace hR := ifT hb674 hR
     refine x_seq ?_
     refine x_reg ?_
     refine o_move F rfl rfl (fun a F => ?_)
     refine oI Tryz.underlying30 Tryz.sizeOf9 F rfl rfl rfl (H.l 1 rfl) c638 (fun a p675 h676 F => ?_)
     refine olT Tryz.isAgg9 F rfl rfl (Sm.refl _ _) h676 (fun a i677 F => ?_)
     obtain ⟨z678, c679, hR⟩ := bnd_some hR
     refine o_ssll Tryz.underlying9 F rfl rfl rfl c679 (fun a F => ?_)
     obtain ⟨z680, c681, hR⟩ := bnd_some hR
     refine oG F rfl Tryz.call18 rfl (spec_l01Number_c z680 c681 _ aA (ssl_sz c679 i677)) (fun a vv w ⟨hv683, S, i682⟩ F => ?_)
     subst vv
     have H := H.r0 S
     refine o_move F rfl rfl (fun a F => ?_)
     refine o_extract F rfl rfl rfl (fun a F => ?_)
     refine o_extract F rfl rfl rfl (fun a F => ?_)
     refine o_assign F rfl rfl (fun a F => ?_)
     refine o_assign F rfl rfl (fun a F => ?_)
     refine x_end ?_
     refine x_tn ?_
     refine x_seq ?_
     refine x_reg ?_
     refine o_move F rfl rfl (fun a F => ?_)
     refine o_bfield fa46_0 F rfl rfl rfl (fun a F => ?_)
     refine oW Tryz.sizeOf2 F rfl rfl rfl H rfl rfl rfl (fun w H => ?_)
     refine x_end ?_
     refine x_tn ?_
     obtain ⟨o690, hR, hk691⟩ := thn_some hR
     refine x_cutQ (fun a w => ∃ (s693 : Bool), o690 = .nx s693 ∧ Sk a 147 [(0, .string x0), (2, .pointer (some ⟨b11, 0, none⟩)), (4, v16), (9, .pointer (some ⟨b61, 0, none⟩)), (10, .bool s693), (11, .int .i64 s581), (12, v614), (13, .pointer (some ⟨b636, 0, none⟩))] ∧ Sep [] B w0 w [bx b636 [.int .i64 z680.1, (.slice none 0 0)] 46, rl 1 RStr 9 v614 z612, rl 2 RAtom 46 v585 s583, bx b61 [.int .i64 z48.1, .int .i64 z57.1, v585] 34, rl 1 RStr 9 v16 z14, bx b11 [.int .i64 0, .int .i64 0, (.slice none 0 0)] 34]) ?_ ?_
     ·
      refine x_reg ?_
      refine o_move F rfl rfl (fun a F => ?_)
      refine o_move F rfl rfl (fun a F => ?_)
      rcases bcases z680.2 with hb694 | hb694
      ·
       replace hR := ifT hb694 hR
       have F := F.eq (t := 101) rfl (congrArg Value.bool hb694)
       refine o_move F rfl rfl (fun a F => ?_)
       refine oI Tryz.underlying30 Tryz.sizeOf9 F rfl rfl rfl (H.l 1 rfl) c638 (fun a p695 h696 F => ?_)
       refine olT Tryz.isAgg9 F rfl rfl (Sm.refl _ _) h696 (fun a i697 F => ?_)
       obtain ⟨z698, c699, hR⟩ := bnd_some hR
       refine o_six Tryz.underlying9 F rfl rfl rfl c699 (fun a F => ?_)
       refine o_eqlU (j := (82 : UInt8)) F rfl rfl rfl (fun a F => ?_)
       refine o_pickt F rfl rfl rfl (fun a F => ?_)
       refine o_assign F rfl rfl (fun a F => ?_)
       refine x_end ?_
       refine x_tn ?_
       exact ⟨((z698.toNat : Int) == ((82 : UInt8).toNat : Int)), (Option.some.inj hR).symm, F.sub (sc rfl (sc rfl (sc rfl (sc rfl (sc rfl (sc rfl (sc rfl (sc rfl sn)))))))), H⟩
      replace hR := ifF hb694 hR
      have F := F.eq (t := 101) rfl (congrArg Value.bool hb694)
      refine o_no F rfl rfl (fun a F => ?_)
      refine o_no F rfl rfl (fun a F => ?_)
      refine o_no F rfl rfl (fun a F => ?_)
      refine o_no F rfl rfl (fun a F => ?_)
      refine o_no F rfl rfl (fun a F => ?_)
      refine o_pickf F rfl rfl rfl (fun a F => ?_)
      refine o_assign F rfl rfl (fun a F => ?_)
      refine x_end ?_
      refine x_tn ?_
      exact ⟨false, (Option.some.inj hR).symm, F.sub (sc rfl (sc rfl (sc rfl (sc rfl (sc rfl (sc rfl (sc rfl (sc rfl sn)))))))), H⟩
     intro a w ⟨s693, ho692, F, H⟩
     subst ho692
     have hR := then_nx hk691
     refine x_tn ?_
     exact ⟨s693, z680.1, (Option.some.inj hR).symm, F.sub (sc rfl (sc rfl (sc rfl (sc rfl (sc rfl (sc rfl (sc rfl (sc rfl sn)))))))), H, i682⟩
    replace hR := ifF hb674 hR
    refine x_skip ?_
    refine x_tn ?_
    exact ⟨s627, (-1), (Option.some.inj hR).symm, F.sub (sc rfl (sc rfl (sc rfl (sc rfl (sc rfl (sc rfl (sc rfl (sc rfl sn)))))))), H, (show I64 (-1) by decide)⟩
   intro a w ⟨s671, s672, ho670, F, H, i673⟩
   subst ho670
   have hR := then_nx hk669
   refine x_tn ?_
   refine x_seq ?_
   refine x_seq ?_
   refine x_reg ?_
   refine o_assign F rfl rfl (fun a F => ?_)
   refine x_end ?_
   refine x_tn ?_
   obtain ⟨z700, c701, hR⟩ := bnd_some hR
   obtain ⟨o780, hR, hk781⟩ := thn_some hR
   refine x_cutQ (fun a w => ∃ (s789 : List Int) (v791 : Value), o780 = .nx s789 ∧ Sk a 147 [(0, .string x0), (2, .pointer (some ⟨b11, 0, none⟩)), (4, v16), (9, .pointer (some ⟨b61, 0, none⟩)), (10, .bool s671), (11, .int .i64 s581), (13, .pointer (some ⟨b636, 0, none⟩))] ∧ Sep [] B w0 w [rl 1 RInt 2 v791 s789, bx b636 [.int .i64 s672, v791] 46, rl 2 RAtom 46 v585 s583, bx b61 [.int .i64 z48.1, .int .i64 z57.1, v585] 34, rl 1 RStr 9 v16 z14, bx b11 [.int .i64 0, .int .i64 0, (.slice none 0 0)] 34]) ?_ ?_
   ·
    refine x_blk ?_
    obtain ⟨fl784, hf785, hR⟩ := forI_gen hR
    refine x_loop (fun g a w => ∃ (k792 : Nat) (s786 : List Int) (v788 : Value), k792 + g = (z700.size : Int).toNat ∧ forI fl784 g k792 s786 = some o780 ∧ Sk a 147 [(16, .int .i64 (k792 : Int)), (0, .string x0), (2, .pointer (some ⟨b11, 0, none⟩)), (4, v16), (9, .pointer (some ⟨b61, 0, none⟩)), (10, .bool s671), (11, .int .i64 s581), (12, v614), (13, .pointer (some ⟨b636, 0, none⟩))] ∧ Sep [] B w0 w [rl 1 RInt 2 v788 s786, bx b636 [.int .i64 s672, v788] 46, rl 1 RStr 9 v614 z612, rl 2 RAtom 46 v585 s583, bx b61 [.int .i64 z48.1, .int .i64 z57.1, v585] 34, rl 1 RStr 9 v16 z14, bx b11 [.int .i64 0, .int .i64 0, (.slice none 0 0)] 34]) (z700.size : Int).toNat ?_ ?_
    ·
     exact ⟨0, [], (.slice none 0 0), (Nat.zero_add _), hR, F.sub (sc rfl (sc rfl (sc rfl (sc rfl (sc rfl (sc rfl (sc rfl (sc rfl (sc rfl sn))))))))), (H.nl 1 RInt 2)⟩
    intro g795 a w ⟨k792, s786, v788, hd796, hR, F, H⟩
    cases g795 with
    | zero =>
     replace hR := forI_zero hR
     have hlk792 := dec_noI hd796
     refine x_seq ?_
     refine x_seq ?_
     refine x_reg ?_
     refine o_move F rfl rfl (fun a F => ?_)
     refine o_move F rfl rfl (fun a F => ?_)
     refine oI Tryz.underlying30 Tryz.sizeOf9 F rfl rfl rfl (H.l 2 rfl) c701 (fun a p833 h834 F => ?_)
     refine olT Tryz.isAgg9 F rfl rfl (Sm.refl _ _) h834 (fun a i835 F => ?_)
     refine o_lenStr Tryz.underlying9 F rfl rfl (fun a F => ?_)
     refine o_lss F rfl rfl rfl (fun a F => ?_)
     refine x_end ?_
     refine x_tn ?_
     refine x_ifF F rfl hlk792 ?_
     refine x_exit ?_
     refine x_te ?_
     refine x_te ?_
     refine x_be ?_
     refine x_tn ?_
     exact ⟨s786, v788, (Option.some.inj hR).symm, F.sub (sc rfl (sc rfl (sc rfl (sc rfl (sc rfl (sc rfl (sc rfl sn))))))), (H.s [0, 1, 3, 4, 5, 6] rfl rfl)⟩
    | succ g795 =>
     obtain ⟨ck792, hR, hn783⟩ := forI_succ hR
     rw [hf785] at hR
     have hlk792 := dec_yesI hd796
     refine x_seq ?_
     refine x_seq ?_
     refine x_reg ?_
     refine o_move F rfl rfl (fun a F => ?_)
     refine o_move F rfl rfl (fun a F => ?_)
     refine oI Tryz.underlying30 Tryz.sizeOf9 F rfl rfl rfl (H.l 2 rfl) c701 (fun a p798 h799 F => ?_)
     refine olT Tryz.isAgg9 F rfl rfl (Sm.refl _ _) h799 (fun a i800 F => ?_)
     refine o_lenStr Tryz.underlying9 F rfl rfl (fun a F => ?_)
     refine o_lss F rfl rfl rfl (fun a F => ?_)
     refine x_end ?_
     refine x_tn ?_
     refine x_ifT F rfl hlk792 ?_
     refine x_skip ?_
     refine x_tn ?_
     refine x_seq ?_
     have ikk792 := k64I hd796 (str64 i800)
     have ink792 := inc64I hd796 (str64 i800)
     refine x_blk ?_
     obtain ⟨z804, c805, hR⟩ := bnd_some hR
     obtain ⟨z806, c807, hR⟩ := bnd_some hR
     obtain ⟨z810, c811, hR⟩ := bnd_some hR
     obtain ⟨w819, rfl⟩ : ∃ x, x = w := ⟨_, rfl⟩
     obtain ⟨X814, N815, g816, e817, H, th818⟩ := (H.s [2, 0, 1, 3, 4, 5, 6] rfl rfl).fz
     have h820 := g816.ld
     refine xD H (by kernel_rfl) (fun w H => ?_)
     refine dp (fun G => ∀ (v828 : Value) (a : Act) (w : World), Sk a 147 [(0, .string x0), (2, .pointer (some ⟨b11, 0, none⟩)), (4, v16), (9, .pointer (some ⟨b61, 0, none⟩)), (10, .bool s671), (11, .int .i64 s581), (12, v614), (13, .pointer (some ⟨b636, 0, none⟩)), (16, .int .i64 (k792 : Int)), (117, v788), (125, v828)] → Sep X814 N815 w819 w [rl 1 RInt 2 v828 ([z806]), rl 1 RInt 2 v788 s786, bx b636 [.int .i64 s672, v788] 46, rl 2 RAtom 46 v585 s583, bx b61 [.int .i64 z48.1, .int .i64 z57.1, v585] 34, rl 1 RStr 9 v16 z14, bx b11 [.int .i64 0, .int .i64 0, (.slice none 0 0)] 34] → ∀ ls, ls = #[true, true, true, true, true, true, true, true, true, true, false, false, false] → G 3 ls a w) ?_ (fun H830 => ?_)
     ·
      intro v828 a w F H ls hls
      subst hls
      refine xE H 10 rfl (by kernel_rfl) ?_
      refine oPL (sz := 1) (R := RInt) (z := (.int .i64 0)) (bytes := 8) Tryz.underlying44 (by kernel_rfl) rfl rfl F rfl rfl rfl (H.s [1, 0, 2, 3, 4, 5, 6] rfl rfl) c811 (fun a w v831 H F => ?_)
      refine x_end ?_
      refine x_tn ?_
      refine ⟨⟨_, H⟩, ?_⟩
      refine b_q 11 (by kernel_rfl) rfl (by kernel_rfl) (by kernel_rfl) (by kernel_rfl) (by kernel_rfl) ?_
      refine v_val F rfl (fun w l => r_bfield fa46_1 F rfl rfl) (fun a F => ?_)
      refine xE H 12 rfl (by kernel_rfl) ?_
      refine oW Tryz.sizeOf44 F rfl rfl rfl (H.s [1, 0, 2, 3, 4, 5] rfl rfl) ((H.s [1, 0, 2, 3, 4, 5] rfl rfl).l 1 rfl).one rfl rfl (fun w H => ?_)
      refine x_end ?_
      refine x_tn ?_
      refine ⟨⟨_, H⟩, ?_⟩
      refine b_end (by kernel_rfl) ?_
      refine x_bn ?_
      refine x_tn ?_
      refine x_reg ?_
      refine o_move F rfl rfl (fun a F => ?_)
      refine o_inc F rfl rfl rfl ink792 (fun a F => ?_)
      refine o_assign F rfl rfl (fun a F => ?_)
      refine x_end ?_
      refine x_tn ?_
      replace hR := l_go hR hn783
      exact ⟨_, Nat.lt_succ_self _, k792 + 1, z810, v831, (by omega), hR, F.sub (sc rfl (sc rfl (sc rfl (sc rfl (sc rfl (sc rfl (sc rfl (sc rfl (sc rfl sn))))))))), ((th818 H (Ns.all ⟨n0, ⟨n0, ⟨n0, ⟨n0, ⟨n0, ⟨n0, trivial⟩⟩⟩⟩⟩⟩)).s [2, 1, 0, 3, 4, 5, 6] rfl rfl)⟩
     refine b_q 0 (by kernel_rfl) rfl (by kernel_rfl) (by kernel_rfl) (by kernel_rfl) (by kernel_rfl) ?_
     refine v_val F rfl (fun w l => r_bfield fa46_1 F rfl rfl) (fun a F => ?_)
     refine b_q0 2 rfl (by kernel_rfl) (by kernel_rfl) (by kernel_rfl) ?_
     refine v_val F rfl (fun w l => r_move F rfl) (fun a F => ?_)
     refine b_q 3 (by kernel_rfl) rfl (by kernel_rfl) (by kernel_rfl) (by kernel_rfl) (by kernel_rfl) ?_
     refine vI Tryz.underlying30 Tryz.sizeOf9 F rfl rfl rfl h820 c701 (fun a p821 h822 F => ?_)
     refine b_q 4 (by kernel_rfl) rfl (by kernel_rfl) (by kernel_rfl) (by kernel_rfl) (by kernel_rfl) ?_
     refine vlT Tryz.isAgg9 F rfl rfl H.v h822 (fun a i823 F => ?_)
     refine b_q0 5 rfl (by kernel_rfl) (by kernel_rfl) (by kernel_rfl) ?_
     refine v_val F rfl (fun w l => r_move F rfl) (fun a F => ?_)
     refine b_q 6 (by kernel_rfl) rfl (by kernel_rfl) (by kernel_rfl) (by kernel_rfl) (by kernel_rfl) ?_
     refine v_val F rfl (fun w l => r_six Tryz.underlying9 F rfl rfl c805) (fun a F => ?_)
     refine b_q 7 (by kernel_rfl) rfl (by kernel_rfl) (by kernel_rfl) (by kernel_rfl) (by kernel_rfl) ?_
     refine v_val F rfl (fun w l => r_convI Tryz.underlying5 Tryz.underlying2 F rfl) (fun a F => ?_)
     refine b_q0 8 rfl (by kernel_rfl) (by kernel_rfl) (by kernel_rfl) ?_
     refine v_val F rfl (fun w l => r_sub F rfl rfl c807) (fun a F => ?_)
     refine b_es [1, 9] (by kernel_rfl) (by simp) ⟨⟨_, rfl, ?_⟩, ⟨_, rfl, ?_⟩, trivial⟩
     ·
      refine xEs H ?_
      refine oB Tryz.isAgg44 F rfl rfl (H.b 1 rfl) rfl (fun a F => ?_)
      refine x_end ?_
      refine x_tn ?_
      refine ⟨⟨_, H⟩, ?_⟩
      refine xE H 9 rfl (by kernel_rfl) ?_
      refine oR1z (R := RInt) (y := z806) Tryz.underlying44 Tryz.sizeOf2 Tryz.zeroValue2 rfl rfl F rfl rfl H (Eo.int (ck64 c807)) (fun a w v824 H F => ?_)
      refine x_end ?_
      refine x_tn ?_
      refine ⟨⟨_, H⟩, ?_⟩
      exact H830 v824 _ _ (F.sub (sc rfl (sc rfl (sc rfl (sc rfl (sc rfl (sc rfl (sc rfl (sc rfl (sc rfl (sc rfl (sc rfl sn)))))))))))) H _ (by kernel_rfl)
     refine xEs H ?_
     refine oR1z (R := RInt) (y := z806) Tryz.underlying44 Tryz.sizeOf2 Tryz.zeroValue2 rfl rfl F rfl rfl H (Eo.int (ck64 c807)) (fun a w v826 H F => ?_)
     refine x_end ?_
     refine x_tn ?_
     refine ⟨⟨_, H⟩, ?_⟩
     refine xE H 1 rfl (by kernel_rfl) ?_
     refine oB Tryz.isAgg44 F rfl rfl (H.b 2 rfl) rfl (fun a F => ?_)
     refine x_end ?_
     refine x_tn ?_
     refine ⟨⟨_, H⟩, ?_⟩
     exact H830 v826 _ _ (F.sub (sc rfl (sc rfl (sc rfl (sc rfl (sc rfl (sc rfl (sc rfl (sc rfl (sc rfl (sc rfl (sc rfl sn)))))))))))) H _ (by kernel_rfl)
   intro a w ⟨s789, v791, ho782, F, H⟩
   subst ho782
   have hR := then_nx hk781
   refine x_tn ?_
   refine x_reg ?_
   refine o_bfield fa34_2 F rfl rfl rfl (fun a F => ?_)
   refine oB Tryz.isAgg32 F rfl rfl (H.b 3 rfl) rfl (fun a F => ?_)
   refine oBA Tryz.isAgg46 Tryz.sizeOf46 F rfl rfl (H.b 1 rfl) rfl rfl (fun a F => ?_)
   have H := (RAtom.w i673 H)
   refine oR1L (R := RAtom) (y := (Atom.mk s672 s789)) Tryz.underlying32 Tryz.sizeOf46 Tryz.zeroValue46 rfl rfl F rfl rfl H El.agg (fun a w v837 H F => ?_)
   obtain ⟨z840, c841, hR⟩ := bnd_some hR
   refine oPL (sz := 2) (R := RAtom) (z := (.agg #[.int .i64 0, (.slice none 0 0)])) (bytes := 32) Tryz.underlying32 (by kernel_rfl) rfl rfl F rfl rfl rfl (H.s [2, 0, 1, 3, 4, 5] rfl rfl) c841 (fun a w v842 H F => ?_)
   refine o_bfield fa34_2 F rfl rfl rfl (fun a F => ?_)
   refine oW Tryz.sizeOf32 F rfl rfl rfl (H.s [2, 0, 1, 3, 4] rfl rfl) ((H.s [2, 0, 1, 3, 4] rfl rfl).l 1 rfl).one rfl rfl (fun w H => ?_)
   refine x_end ?_
   refine x_bn ?_
   refine x_tn ?_
   refine x_reg ?_
   refine o_move F rfl rfl (fun a F => ?_)
   obtain ⟨z844, c845, hR⟩ := bnd_some hR
   refine o_add F rfl rfl rfl c845 (fun a F => ?_)
   refine o_assign F rfl rfl (fun a F => ?_)
   refine x_end ?_
   refine x_tn ?_
   replace hR := l_go hR hn577
   exact ⟨rest593, (by omega), s671, z844, z840, v842, hR, F.sub (sc rfl (sc rfl (sc rfl (sc rfl (sc rfl (sc rfl sn)))))), (H.s [1, 0, 3, 4] rfl rfl), (ck64 c845)⟩
  replace hR := ifF hb606 hR
  refine x_exit ?_
  refine x_te ?_
  refine x_te ?_
  replace hR := l_brk hR hn577
  refine x_be ?_
  refine x_tn ?_
  exact ⟨s580, s581, s583, v585, (Option.some.inj hR).symm, F.sub (sc rfl (sc rfl (sc rfl (sc rfl sn)))), (H.s [0, 1, 3] rfl rfl), i582⟩
 intro a w ⟨s586, s587, s589, v591, ho576, F, H, i588⟩
 subst ho576
 have hR := then_nx hk575
 refine x_tn ?_
 refine x_seq ?_
 refine x_seq ?_
 obtain ⟨o855, hR, hk856⟩ := thn_some hR
 refine x_cutQ (fun a w => ∃ (s858 : Bool), o855 = .nx s858 ∧ Sk a 147 [(2, .pointer (some ⟨b11, 0, none⟩)), (9, .pointer (some ⟨b61, 0, none⟩)), (144, .bool s858)] ∧ Sep [] B w0 w [rl 2 RAtom 46 v591 s589, bx b61 [.int .i64 z48.1, .int .i64 z57.1, v591] 34, bx b11 [.int .i64 0, .int .i64 0, (.slice none 0 0)] 34]) ?_ ?_
 ·
  refine x_reg ?_
  refine o_move F rfl rfl (fun a F => ?_)
  refine o_not F rfl rfl (fun a F => ?_)
  refine o_move F rfl rfl (fun a F => ?_)
  rcases bcases (!s586) with hb859 | hb859
  ·
   replace hR := ifT hb859 hR
   have F := F.eq (t := 136) rfl (congrArg Value.bool hb859)
   refine o_no F rfl rfl (fun a F => ?_)
   refine o_no F rfl rfl (fun a F => ?_)
   refine o_pickt F rfl rfl rfl (fun a F => ?_)
   refine o_move F rfl rfl (fun a F => ?_)
   refine o_no F rfl rfl (fun a F => ?_)
   refine o_no F rfl rfl (fun a F => ?_)
   refine o_no F rfl rfl (fun a F => ?_)
   refine o_pickt F rfl rfl rfl (fun a F => ?_)
   refine x_end ?_
   refine x_tn ?_
   exact ⟨true, (Option.some.inj hR).symm, F.sub (sc rfl (sc rfl (sc rfl sn))), H⟩
  replace hR := ifF hb859 hR
  have F := F.eq (t := 136) rfl (congrArg Value.bool hb859)
  obtain ⟨z860, c861, hR⟩ := bnd_some hR
  refine oK F rfl Tryz.call19 rfl H (spec_l03Shown_c z860 c861 _ aA (RFormula.b (H.g 1 rfl).bk i50 i59 (H.l 0 rfl))) (fun a w H F => ?_)
  refine o_not F rfl rfl (fun a F => ?_)
  refine o_pickf F rfl rfl rfl (fun a F => ?_)
  refine o_move F rfl rfl (fun a F => ?_)
  rcases bcases (!z860) with hb862 | hb862
  ·
   replace hR := ifT hb862 hR
   have F := F.eq (t := 140) rfl (congrArg Value.bool hb862)
   refine o_no F rfl rfl (fun a F => ?_)
   refine o_no F rfl rfl (fun a F => ?_)
   refine o_no F rfl rfl (fun a F => ?_)
   refine o_pickt F rfl rfl rfl (fun a F => ?_)
   refine x_end ?_
   refine x_tn ?_
   exact ⟨true, (Option.some.inj hR).symm, F.sub (sc rfl (sc rfl (sc rfl sn))), H⟩
  replace hR := ifF hb862 hR
  have F := F.eq (t := 140) rfl (congrArg Value.bool hb862)
  obtain ⟨z863, c864, hR⟩ := bnd_some hR
  refine oG F rfl Tryz.call20 rfl (spec_l03Text_c z863 c864 _ aA (RFormula.b (H.g 1 rfl).bk i50 i59 (H.l 0 rfl))) (fun a vv w ⟨hv866, S, i865⟩ F => ?_)
  subst vv
  have H := H.r0 S
  refine o_move F rfl rfl (fun a F => ?_)
  refine o_sneq F rfl rfl rfl (fun a F => ?_)
  refine o_pickf F rfl rfl rfl (fun a F => ?_)
  refine x_end ?_
  refine x_tn ?_
  exact ⟨(!sEq z863 x0), (Option.some.inj hR).symm, F.sub (sc rfl (sc rfl (sc rfl sn))), H⟩
 intro a w ⟨s858, ho857, F, H⟩
 subst ho857
 have hR := then_nx hk856
 refine x_tn ?_
 refine x_if F rfl (fun hb867 => ?_) (fun hb867 => ?_)
 ·
  replace hR := ifT hb867 hR
  refine x_seq ?_
  refine x_reg ?_
  refine o_build Tryz.underlying34 Tryz.zeroValue34 (fun w => by simp [Tryz.sizeOf2, Tryz.sizeOf32]; rfl) F rfl rfl rfl rfl rfl on rfl rfl (fun a F => ?_)
  refine oWA (vs := [.int .i64 0, .int .i64 0, (.slice none 0 0)]) Tryz.sizeOf34 F rfl rfl rfl (H.s [2, 0, 1] rfl rfl) (oc rfl (oc rfl (oc rfl on))) rfl rfl (fun w H => ?_)
  refine o_assign F rfl rfl (fun a F => ?_)
  refine x_end ?_
  refine x_tn ?_
  refine x_ret ?_
  refine x_tr ?_
  refine x_res2 F rfl (rv_cA (arr := #[.int .i64 0, .int .i64 0, (.slice none 0 0)]) F Tryz.isAgg34 Tryz.sizeOf34 rfl (H.b 0 rfl)) (rv_t F rfl) ?_
  obtain rfl := Option.some.inj hR
  exact ⟨_, rfl, (.slice none 0 0), rfl, ((H.nl 2 RAtom 46).s [0] rfl rfl), (show I64 0 by decide), (show I64 0 by decide), (show I64 (5) by decide)⟩
 replace hR := ifF hb867 hR
 refine x_skip ?_
 refine x_tn ?_
 refine x_seq ?_
 refine x_reg ?_
 refine oBA Tryz.isAgg34 Tryz.sizeOf34 F rfl rfl (H.b 1 rfl) rfl rfl (fun a F => ?_)
 refine oWA (vs := [.int .i64 z48.1, .int .i64 z57.1, v591]) Tryz.sizeOf34 F rfl rfl rfl (H.s [2, 0, 1] rfl rfl) (oc rfl (oc rfl (oc ((H.s [2, 0, 1] rfl rfl).l 1 rfl).one on))) rfl rfl (fun w H => ?_)
 refine o_assign F rfl rfl (fun a F => ?_)
 refine x_end ?_
 refine x_tn ?_
 refine x_ret ?_
 refine x_res2 F rfl (rv_cA (arr := #[.int .i64 z48.1, .int .i64 z57.1, v591]) F Tryz.isAgg34 Tryz.sizeOf34 rfl (H.b 0 rfl)) (rv_t F rfl) ?_
 obtain rfl := Option.some.inj hR
 exact ⟨_, rfl, v591, rfl, (H.s [1] rfl rfl), i50, i59, (show I64 (0) by decide)⟩

def spec_ReadGadgets (N : Nat) (x0 : ByteArray) : Option (Gadgets × Int) :=
 if (decide (20000 < (x0.size : Int))) then
  some ((Gadgets.mk ([])), 2)
 else
  if (sEq x0 (bstr [])) then
   some ((Gadgets.mk ([])), 0)
  else
   bnd (spec_l01Split x0 (10 : UInt8)) fun z17 =>
   thn (σ := Bool) (
    if (decide (7 < (z17.length : Int))) then  some (.nx true) else  bnd (ck ((z17.length : Int) - 1)) fun z36 =>
     bnd (ix z17 z36) fun z38 =>
     some (.nx (!sEq z38 (bstr [])))) fun s34 =>
   if s34 then
    some ((Gadgets.mk ([])), 5)
   else
    bnd (ck ((z17.length : Int) - 1)) fun z45 =>
    thn (σ := (List Formula)) (
     forI (σ := (List Formula)) (ρ := Gadgets × Int) (fun (k109 : Nat) (s103 : (List Formula)) =>
      bnd (ix z17 (k109 : Int)) fun z115 =>
      bnd (spec_ReadFormula N z115) fun z120 =>
      if (z120.2 != 0) then
       some (.ret ((Gadgets.mk ([])), 5))
      else
       bnd (ap s103 ([(Formula.mk z120.1.free z120.1.vars z120.1.atoms)])) fun z134 =>
       some (.go z134)) z45.toNat 0 []) fun s106 =>
    some ((Gadgets.mk s106), 0)
set_option maxHeartbeats 1000000 in
theorem spec_ReadGadgets_c {B : Nat → Prop} {N : Nat} {x0 : ByteArray} (r : Gadgets × Int) (hR : spec_ReadGadgets N x0 = some r)  (w0 : World) (hN : ∀ c, B c → c < w0.heap.size) (hx0 : x0.size ≤ maxLen) : Calls Tryz.prog 4 #[.string x0] w0 (Gv (fun v w' => ∃ (v1' : Value), v = .tuple #[.agg #[v1'], .int .i64 r.2] ∧ Sep [] B w0 w' [rl 3 RFormula 34 v1' r.1.formulas] ∧ I64 r.2)) := by
 unfold spec_ReadGadgets at hR
 refine x_enter (L := [(0, .string x0)]) Tryz.func4 rfl rfl rfl (sc rfl sn) (fun a F => ?_)
 have H := Sep.start hN
 refine x_seq ?_
 refine x_reg ?_
 refine oA Tryz.zeroValue24 F rfl rfl H (fun a w b11 H F => ?_)
 refine o_assign F rfl rfl (fun a F => ?_)
 refine x_end ?_
 refine x_tn ?_
 refine x_seq ?_
 refine x_seq ?_
 refine x_reg ?_
 refine o_move F rfl rfl (fun a F => ?_)
 refine o_lenStr Tryz.underlying9 F rfl rfl (fun a F => ?_)
 refine o_gtr F rfl rfl rfl (fun a F => ?_)
 refine x_end ?_
 refine x_tn ?_
 refine x_if F rfl (fun hb12 => ?_) (fun hb12 => ?_)
 ·
  replace hR := ifT hb12 hR
  refine x_seq ?_
  refine x_reg ?_
  refine o_build Tryz.underlying24 Tryz.zeroValue24 (fun w => by simp [Tryz.sizeOf22]; rfl) F rfl rfl rfl rfl rfl on rfl rfl (fun a F => ?_)
  refine oWA (vs := [(.slice none 0 0)]) Tryz.sizeOf24 F rfl rfl rfl H (oc rfl on) rfl rfl (fun w H => ?_)
  refine o_assign F rfl rfl (fun a F => ?_)
  refine x_end ?_
  refine x_tn ?_
  refine x_ret ?_
  refine x_tr ?_
  refine x_res2 F rfl (rv_cA (arr := #[(.slice none 0 0)]) F Tryz.isAgg24 Tryz.sizeOf24 rfl (H.b 0 rfl)) (rv_t F rfl) ?_
  obtain rfl := Option.some.inj hR
  exact ⟨_, rfl, (.slice none 0 0), rfl, ((H.nl 3 RFormula 34).s [0] rfl rfl), (show I64 (2) by decide)⟩
 replace hR := ifF hb12 hR
 refine x_skip ?_
 refine x_tn ?_
 refine x_seq ?_
 refine x_reg ?_
 refine o_build Tryz.underlying24 Tryz.zeroValue24 (fun w => by simp [Tryz.sizeOf22]; rfl) F rfl rfl rfl rfl rfl on rfl rfl (fun a F => ?_)
 refine oA Tryz.zeroValue24 F rfl rfl H (fun a w b14 H F => ?_)
 refine oWA (vs := [(.slice none 0 0)]) Tryz.sizeOf24 F rfl rfl rfl H (oc rfl on) rfl rfl (fun w H => ?_)
 refine x_end ?_
 refine x_tn ?_
 refine x_seq ?_
 refine x_seq ?_
 refine x_reg ?_
 refine o_move F rfl rfl (fun a F => ?_)
 refine o_seql F rfl rfl rfl (fun a F => ?_)
 refine x_end ?_
 refine x_tn ?_
 refine x_if F rfl (fun hb15 => ?_) (fun hb15 => ?_)
 ·
  replace hR := ifT hb15 hR
  refine x_seq ?_
  refine x_reg ?_
  refine oBA Tryz.isAgg24 Tryz.sizeOf24 F rfl rfl (H.b 0 rfl) rfl rfl (fun a F => ?_)
  refine oWA (vs := [(.slice none 0 0)]) Tryz.sizeOf24 F rfl rfl rfl (H.s [1, 0] rfl rfl) (oc rfl on) rfl rfl (fun w H => ?_)
  refine o_assign F rfl rfl (fun a F => ?_)
  refine x_end ?_
  refine x_tn ?_
  refine x_ret ?_
  refine x_tr ?_
  refine x_res2 F rfl (rv_cA (arr := #[(.slice none 0 0)]) F Tryz.isAgg24 Tryz.sizeOf24 rfl (H.b 0 rfl)) (rv_t F rfl) ?_
  obtain rfl := Option.some.inj hR
  exact ⟨_, rfl, (.slice none 0 0), rfl, ((H.nl 3 RFormula 34).s [0] rfl rfl), (show I64 (0) by decide)⟩
 replace hR := ifF hb15 hR
 refine x_skip ?_
 refine x_tn ?_
 refine x_seq ?_
 refine x_reg ?_
 refine o_move F rfl rfl (fun a F => ?_)
 obtain ⟨z17, c18, hR⟩ := bnd_some hR
 refine oG F rfl Tryz.call9 rfl (spec_l01Split_c z17 c18 _ aA hx0) (fun a vv w ⟨v19, hv21, S⟩ F => ?_)
 subst vv
 have H := H.r1 S n0
 refine o_assign F rfl rfl (fun a F => ?_)
 refine x_end ?_
 refine x_tn ?_
 refine x_seq ?_
 refine x_reg ?_
 refine o_move F rfl rfl (fun a F => ?_)
 refine oL Tryz.underlying30 F rfl rfl (H.l 0 rfl) (fun a i22 F => ?_)
 refine o_assign F rfl rfl (fun a F => ?_)
 refine x_end ?_
 refine x_tn ?_
 refine x_seq ?_
 refine x_seq ?_
 obtain ⟨o31, hR, hk32⟩ := thn_some hR
 refine x_cutQ (fun a w => ∃ (s34 : Bool), o31 = .nx s34 ∧ Sk a 57 [(2, .pointer (some ⟨b11, 0, none⟩)), (4, .pointer (some ⟨b14, 0, none⟩)), (5, v19), (6, .int .i64 (z17.length : Int)), (31, .bool s34)] ∧ Sep [] B w0 w [rl 1 RStr 9 v19 z17, bx b14 [(.slice none 0 0)] 24, bx b11 [(.slice none 0 0)] 24]) ?_ ?_
 ·
  refine x_reg ?_
  refine o_move F rfl rfl (fun a F => ?_)
  refine o_gtr F rfl rfl rfl (fun a F => ?_)
  refine o_move F rfl rfl (fun a F => ?_)
  rcases bcases (decide (7 < (z17.length : Int))) with hb35 | hb35
  ·
   replace hR := ifT hb35 hR
   have F := F.eq (t := 24) rfl (congrArg Value.bool hb35)
   refine o_no F rfl rfl (fun a F => ?_)
   refine o_no F rfl rfl (fun a F => ?_)
   refine o_no F rfl rfl (fun a F => ?_)
   refine o_no F rfl rfl (fun a F => ?_)
   refine o_no F rfl rfl (fun a F => ?_)
   refine o_no F rfl rfl (fun a F => ?_)
   refine o_pickt F rfl rfl rfl (fun a F => ?_)
   refine x_end ?_
   refine x_tn ?_
   exact ⟨true, (Option.some.inj hR).symm, F.sub (sc rfl (sc rfl (sc rfl (sc rfl (sc rfl sn))))), H⟩
  replace hR := ifF hb35 hR
  have F := F.eq (t := 24) rfl (congrArg Value.bool hb35)
  refine o_move F rfl rfl (fun a F => ?_)
  refine o_move F rfl rfl (fun a F => ?_)
  obtain ⟨z36, c37, hR⟩ := bnd_some hR
  refine o_sub F rfl rfl rfl c37 (fun a F => ?_)
  obtain ⟨z38, c39, hR⟩ := bnd_some hR
  refine oI Tryz.underlying30 Tryz.sizeOf9 F rfl rfl rfl (H.l 0 rfl) c39 (fun a p40 h41 F => ?_)
  refine olT Tryz.isAgg9 F rfl rfl (Sm.refl _ _) h41 (fun a i42 F => ?_)
  refine o_sneq F rfl rfl rfl (fun a F => ?_)
  refine o_pickf F rfl rfl rfl (fun a F => ?_)
  refine x_end ?_
  refine x_tn ?_
  exact ⟨(!sEq z38 (bstr [])), (Option.some.inj hR).symm, F.sub (sc rfl (sc rfl (sc rfl (sc rfl (sc rfl sn))))), H⟩
 intro a w ⟨s34, ho33, F, H⟩
 subst ho33
 have hR := then_nx hk32
 refine x_tn ?_
 refine x_if F rfl (fun hb43 => ?_) (fun hb43 => ?_)
 ·
  replace hR := ifT hb43 hR
  refine x_seq ?_
  refine x_reg ?_
  refine o_build Tryz.underlying24 Tryz.zeroValue24 (fun w => by simp [Tryz.sizeOf22]; rfl) F rfl rfl rfl rfl rfl on rfl rfl (fun a F => ?_)
  refine oWA (vs := [(.slice none 0 0)]) Tryz.sizeOf24 F rfl rfl rfl (H.s [2, 0, 1] rfl rfl) (oc rfl on) rfl rfl (fun w H => ?_)
  refine o_assign F rfl rfl (fun a F => ?_)
  refine x_end ?_
  refine x_tn ?_
  refine x_ret ?_
  refine x_tr ?_
  refine x_res2 F rfl (rv_cA (arr := #[(.slice none 0 0)]) F Tryz.isAgg24 Tryz.sizeOf24 rfl (H.b 0 rfl)) (rv_t F rfl) ?_
  obtain rfl := Option.some.inj hR
  exact ⟨_, rfl, (.slice none 0 0), rfl, ((H.nl 3 RFormula 34).s [0] rfl rfl), (show I64 (5) by decide)⟩
 replace hR := ifF hb43 hR
 refine x_skip ?_
 refine x_tn ?_
 refine x_seq ?_
 refine x_seq ?_
 refine x_reg ?_
 refine o_assign F rfl rfl (fun a F => ?_)
 refine x_end ?_
 refine x_tn ?_
 obtain ⟨z45, c46, hR⟩ := bnd_some hR
 obtain ⟨o97, hR, hk98⟩ := thn_some hR
 refine x_cutQ (fun a w => ∃ (s106 : List Formula) (v108 : Value), o97 = .nx s106 ∧ Sk a 57 [(2, .pointer (some ⟨b11, 0, none⟩)), (4, .pointer (some ⟨b14, 0, none⟩))] ∧ Sep [] B w0 w [rl 3 RFormula 34 v108 s106, bx b14 [v108] 24, bx b11 [(.slice none 0 0)] 24]) ?_ ?_
 ·
  refine x_blk ?_
  obtain ⟨fl101, hf102, hR⟩ := forI_gen hR
  refine x_loop (fun g a w => ∃ (k109 : Nat) (s103 : List Formula) (v105 : Value), k109 + g = z45.toNat ∧ forI fl101 g k109 s103 = some o97 ∧ Sk a 57 [(7, .int .i64 (k109 : Int)), (2, .pointer (some ⟨b11, 0, none⟩)), (4, .pointer (some ⟨b14, 0, none⟩)), (5, v19), (6, .int .i64 (z17.length : Int))] ∧ Sep [] B w0 w [rl 3 RFormula 34 v105 s103, rl 1 RStr 9 v19 z17, bx b14 [v105] 24, bx b11 [(.slice none 0 0)] 24]) z45.toNat ?_ ?_
  ·
   exact ⟨0, [], (.slice none 0 0), (Nat.zero_add _), hR, F.sub (sc rfl (sc rfl (sc rfl (sc rfl (sc rfl sn))))), (H.nl 3 RFormula 34)⟩
  intro g112 a w ⟨k109, s103, v105, hd113, hR, F, H⟩
  cases g112 with
  | zero =>
   replace hR := forI_zero hR
   have hlk109 := dec_noI hd113
   refine x_seq ?_
   refine x_seq ?_
   refine x_reg ?_
   refine o_move F rfl rfl (fun a F => ?_)
   refine o_move F rfl rfl (fun a F => ?_)
   refine o_sub F rfl rfl rfl c46 (fun a F => ?_)
   refine o_lss F rfl rfl rfl (fun a F => ?_)
   refine x_end ?_
   refine x_tn ?_
   refine x_ifF F rfl hlk109 ?_
   refine x_exit ?_
   refine x_te ?_
   refine x_te ?_
   refine x_be ?_
   refine x_tn ?_
   exact ⟨s103, v105, (Option.some.inj hR).symm, F.sub (sc rfl (sc rfl sn)), (H.s [0, 2, 3] rfl rfl)⟩
  | succ g112 =>
   obtain ⟨ck109, hR, hn100⟩ := forI_succ hR
   rw [hf102] at hR
   have hlk109 := dec_yesI hd113
   refine x_seq ?_
   refine x_seq ?_
   refine x_reg ?_
   refine o_move F rfl rfl (fun a F => ?_)
   refine o_move F rfl rfl (fun a F => ?_)
   refine o_sub F rfl rfl rfl c46 (fun a F => ?_)
   refine o_lss F rfl rfl rfl (fun a F => ?_)
   refine x_end ?_
   refine x_tn ?_
   refine x_ifT F rfl hlk109 ?_
   refine x_skip ?_
   refine x_tn ?_
   refine x_seq ?_
   have ikk109 := k64I hd113 (ck64 c46)
   have ink109 := inc64I hd113 (ck64 c46)
   refine x_blk ?_
   refine x_seq ?_
   refine x_reg ?_
   refine o_move F rfl rfl (fun a F => ?_)
   refine o_move F rfl rfl (fun a F => ?_)
   obtain ⟨z115, c116, hR⟩ := bnd_some hR
   refine oI Tryz.underlying30 Tryz.sizeOf9 F rfl rfl rfl (H.l 1 rfl) c116 (fun a p117 h118 F => ?_)
   refine olT Tryz.isAgg9 F rfl rfl (Sm.refl _ _) h118 (fun a i119 F => ?_)
   obtain ⟨z120, c121, hR⟩ := bnd_some hR
   refine oG F rfl Tryz.call10 rfl (spec_ReadFormula_c z120 c121 _ aA i119) (fun a vv w ⟨v124, hv127, S, i122, i123, i126⟩ F => ?_)
   subst vv
   have H := H.r1 S n0
   refine o_move F rfl rfl (fun a F => ?_)
   refine o_extract F rfl rfl rfl (fun a F => ?_)
   refine o_extract F rfl rfl rfl (fun a F => ?_)
   refine oA Tryz.zeroValue34 F rfl rfl H (fun a w b128 H F => ?_)
   refine oWA (vs := [.int .i64 z120.1.free, .int .i64 z120.1.vars, v124]) Tryz.sizeOf34 F rfl rfl rfl H (oc rfl (oc rfl (oc (H.l 1 rfl).one on))) rfl rfl (fun w H => ?_)
   refine o_assign F rfl rfl (fun a F => ?_)
   refine x_end ?_
   refine x_tn ?_
   refine x_seq ?_
   refine x_seq ?_
   refine x_reg ?_
   refine o_move F rfl rfl (fun a F => ?_)
   refine o_neq F rfl rfl rfl (fun a F => ?_)
   refine x_end ?_
   refine x_tn ?_
   refine x_if F rfl (fun hb129 => ?_) (fun hb129 => ?_)
   ·
    replace hR := ifT hb129 hR
    refine x_seq ?_
    refine x_reg ?_
    refine o_build Tryz.underlying24 Tryz.zeroValue24 (fun w => by simp [Tryz.sizeOf22]; rfl) F rfl rfl rfl rfl rfl on rfl rfl (fun a F => ?_)
    refine oWA (vs := [(.slice none 0 0)]) Tryz.sizeOf24 F rfl rfl rfl (H.s [5, 0, 1, 2, 3, 4] rfl rfl) (oc rfl on) rfl rfl (fun w H => ?_)
    refine o_assign F rfl rfl (fun a F => ?_)
    refine x_end ?_
    refine x_tn ?_
    refine x_ret ?_
    refine x_tr ?_
    refine x_br ?_
    refine x_tr ?_
    refine x_tr ?_
    replace hR := l_ret hR hn100
    refine x_br ?_
    refine x_tr ?_
    replace hR := j_ret hR hk98
    refine x_tr ?_
    refine x_res2 F rfl (rv_cA (arr := #[(.slice none 0 0)]) F Tryz.isAgg24 Tryz.sizeOf24 rfl (H.b 0 rfl)) (rv_t F rfl) ?_
    obtain rfl := Option.some.inj hR
    exact ⟨_, rfl, (.slice none 0 0), rfl, ((H.nl 3 RFormula 34).s [0] rfl rfl), (show I64 (5) by decide)⟩
   replace hR := ifF hb129 hR
   refine x_skip ?_
   refine x_tn ?_
   refine x_reg ?_
   refine o_bfield fa24_0 F rfl rfl rfl (fun a F => ?_)
   refine oB Tryz.isAgg22 F rfl rfl (H.b 4 rfl) rfl (fun a F => ?_)
   refine oBA Tryz.isAgg34 Tryz.sizeOf34 F rfl rfl (H.b 0 rfl) rfl rfl (fun a F => ?_)
   have H := (RFormula.w i122 i123 (H.s [1, 0, 2, 3, 4, 5] rfl rfl))
   refine oR1L (R := RFormula) (y := (Formula.mk z120.1.free z120.1.vars z120.1.atoms)) Tryz.underlying22 Tryz.sizeOf34 Tryz.zeroValue34 rfl rfl F rfl rfl H El.agg (fun a w v131 H F => ?_)
   obtain ⟨z134, c135, hR⟩ := bnd_some hR
   refine oPL (sz := 3) (R := RFormula) (z := (.agg #[.int .i64 0, .int .i64 0, (.slice none 0 0)])) (bytes := 40) Tryz.underlying22 (by kernel_rfl) rfl rfl F rfl rfl rfl (H.s [2, 0, 1, 3, 4, 5] rfl rfl) c135 (fun a w v136 H F => ?_)
   refine o_bfield fa24_0 F rfl rfl rfl (fun a F => ?_)
   refine oW Tryz.sizeOf22 F rfl rfl rfl (H.s [3, 0, 1, 2, 4] rfl rfl) ((H.s [3, 0, 1, 2, 4] rfl rfl).l 1 rfl).one rfl rfl (fun w H => ?_)
   refine x_end ?_
   refine x_bn ?_
   refine x_tn ?_
   refine x_reg ?_
   refine o_move F rfl rfl (fun a F => ?_)
   refine o_inc F rfl rfl rfl ink109 (fun a F => ?_)
   refine o_assign F rfl rfl (fun a F => ?_)
   refine x_end ?_
   refine x_tn ?_
   replace hR := l_go hR hn100
   exact ⟨_, Nat.lt_succ_self _, k109 + 1, z134, v136, (by omega), hR, F.sub (sc rfl (sc rfl (sc rfl (sc rfl (sc rfl sn))))), (H.s [1, 3, 0, 4] rfl rfl)⟩
 intro a w ⟨s106, v108, ho99, F, H⟩
 subst ho99
 have hR := then_nx hk98
 refine x_tn ?_
 refine x_seq ?_
 refine x_reg ?_
 refine oBA Tryz.isAgg24 Tryz.sizeOf24 F rfl rfl (H.b 1 rfl) rfl rfl (fun a F => ?_)
 refine oWA (vs := [v108]) Tryz.sizeOf24 F rfl rfl rfl (H.s [2, 0, 1] rfl rfl) (oc ((H.s [2, 0, 1] rfl rfl).l 1 rfl).one on) rfl rfl (fun w H => ?_)
 refine o_assign F rfl rfl (fun a F => ?_)
 refine x_end ?_
 refine x_tn ?_
 refine x_ret ?_
 refine x_res2 F rfl (rv_cA (arr := #[v108]) F Tryz.isAgg24 Tryz.sizeOf24 rfl (H.b 0 rfl)) (rv_t F rfl) ?_
 obtain rfl := Option.some.inj hR
 exact ⟨_, rfl, v108, rfl, (H.s [1] rfl rfl), (show I64 (0) by decide)⟩

def internal_stringslite_HasSuffix (x0 : ByteArray) (x1 : ByteArray) : Option Bool :=
 thn (σ := Bool) (
  if (decide ((x1.size : Int) ≤ (x0.size : Int))) then  bnd (ck ((x0.size : Int) - (x1.size : Int))) fun z21 =>
   bnd (ssl x0 z21 (x0.size : Int)) fun z23 =>
   some (.nx (sEq z23 x1)) else  some (.nx false)) fun s19 =>
 some s19
set_option maxHeartbeats 1000000 in
theorem internal_stringslite_HasSuffix_c {B : Nat → Prop} {x0 : ByteArray} {x1 : ByteArray} (r : Bool) (hR : internal_stringslite_HasSuffix x0 x1 = some r)  (w0 : World) (hN : ∀ c, B c → c < w0.heap.size) (hx0 : x0.size ≤ maxLen) (hx1 : x1.size ≤ maxLen) : Calls Tryz.prog 37 #[.string x0, .string x1] w0 (Says (.bool r) w0) := by
 unfold internal_stringslite_HasSuffix at hR
 refine x_enter (L := [(0, .string x0), (1, .string x1)]) Tryz.func37 rfl rfl rfl (sc rfl (sc rfl sn)) (fun a F => ?_)
 have H := Sep.start hN
 refine x_seq ?_
 refine x_reg ?_
 refine o_assign F rfl rfl (fun a F => ?_)
 refine x_end ?_
 refine x_tn ?_
 refine x_seq ?_
 obtain ⟨o16, hR, hk17⟩ := thn_some hR
 refine x_cutQ (fun a w => ∃ (s19 : Bool), o16 = .nx s19 ∧ Sk a 21 [(4, .bool s19)] ∧ Sep [] B w0 w []) ?_ ?_
 ·
  refine x_reg ?_
  refine o_move F rfl rfl (fun a F => ?_)
  refine o_lenStr Tryz.underlying9 F rfl rfl (fun a F => ?_)
  refine o_move F rfl rfl (fun a F => ?_)
  refine o_lenStr Tryz.underlying9 F rfl rfl (fun a F => ?_)
  refine o_geq F rfl rfl rfl (fun a F => ?_)
  refine o_move F rfl rfl (fun a F => ?_)
  rcases bcases (decide ((x1.size : Int) ≤ (x0.size : Int))) with hb20 | hb20
  ·
   replace hR := ifT hb20 hR
   have F := F.eq (t := 10) rfl (congrArg Value.bool hb20)
   refine o_move F rfl rfl (fun a F => ?_)
   refine o_move F rfl rfl (fun a F => ?_)
   refine o_lenStr Tryz.underlying9 F rfl rfl (fun a F => ?_)
   refine o_move F rfl rfl (fun a F => ?_)
   refine o_lenStr Tryz.underlying9 F rfl rfl (fun a F => ?_)
   obtain ⟨z21, c22, hR⟩ := bnd_some hR
   refine o_sub F rfl rfl rfl c22 (fun a F => ?_)
   obtain ⟨z23, c24, hR⟩ := bnd_some hR
   refine o_ssll Tryz.underlying9 F rfl rfl rfl c24 (fun a F => ?_)
   refine o_move F rfl rfl (fun a F => ?_)
   refine o_seql F rfl rfl rfl (fun a F => ?_)
   refine o_pickt F rfl rfl rfl (fun a F => ?_)
   refine o_assign F rfl rfl (fun a F => ?_)
   refine x_end ?_
   refine x_tn ?_
   exact ⟨(sEq z23 x1), (Option.some.inj hR).symm, F.sub (sc rfl sn), H⟩
  replace hR := ifF hb20 hR
  have F := F.eq (t := 10) rfl (congrArg Value.bool hb20)
  refine o_no F rfl rfl (fun a F => ?_)
  refine o_no F rfl rfl (fun a F => ?_)
  refine o_no F rfl rfl (fun a F => ?_)
  refine o_no F rfl rfl (fun a F => ?_)
  refine o_no F rfl rfl (fun a F => ?_)
  refine o_no F rfl rfl (fun a F => ?_)
  refine o_no F rfl rfl (fun a F => ?_)
  refine o_no F rfl rfl (fun a F => ?_)
  refine o_no F rfl rfl (fun a F => ?_)
  refine o_pickf F rfl rfl rfl (fun a F => ?_)
  refine o_assign F rfl rfl (fun a F => ?_)
  refine x_end ?_
  refine x_tn ?_
  exact ⟨false, (Option.some.inj hR).symm, F.sub (sc rfl sn), H⟩
 intro a w ⟨s19, ho18, F, H⟩
 subst ho18
 have hR := then_nx hk17
 refine x_tn ?_
 refine x_ret ?_
 refine x_res1 F rfl (rv_t F rfl) ?_
 obtain rfl := Option.some.inj hR
 exact ⟨rfl, H.bl⟩

def internal_stringslite_TrimSuffix (x0 : ByteArray) (x1 : ByteArray) : Option ByteArray :=
 bnd (internal_stringslite_HasSuffix x0 x1) fun z11 =>
 if z11 then
  bnd (ck ((x0.size : Int) - (x1.size : Int))) fun z14 =>
  bnd (ssl x0 0 z14) fun z16 =>
  some z16
 else
  some x0
set_option maxHeartbeats 1000000 in
theorem internal_stringslite_TrimSuffix_c {B : Nat → Prop} {x0 : ByteArray} {x1 : ByteArray} (r : ByteArray) (hR : internal_stringslite_TrimSuffix x0 x1 = some r)  (w0 : World) (hN : ∀ c, B c → c < w0.heap.size) (hx0 : x0.size ≤ maxLen) (hx1 : x1.size ≤ maxLen) : Calls Tryz.prog 22 #[.string x0, .string x1] w0 (Gv (fun v w' => v = .string r ∧ Sep [] B w0 w' [] ∧ r.size ≤ maxLen)) := by
 unfold internal_stringslite_TrimSuffix at hR
 refine x_enter (L := [(0, .string x0), (1, .string x1)]) Tryz.func22 rfl rfl rfl (sc rfl (sc rfl sn)) (fun a F => ?_)
 have H := Sep.start hN
 refine x_seq ?_
 refine x_reg ?_
 refine o_assign F rfl rfl (fun a F => ?_)
 refine x_end ?_
 refine x_tn ?_
 refine x_seq ?_
 refine x_seq ?_
 refine x_reg ?_
 refine o_move F rfl rfl (fun a F => ?_)
 refine o_move F rfl rfl (fun a F => ?_)
 obtain ⟨z11, c12, hR⟩ := bnd_some hR
 refine oK F rfl Tryz.call37 rfl H (internal_stringslite_HasSuffix_c z11 c12 _ aA hx0 hx1) (fun a w H F => ?_)
 refine x_end ?_
 refine x_tn ?_
 refine x_if F rfl (fun hb13 => ?_) (fun hb13 => ?_)
 ·
  replace hR := ifT hb13 hR
  refine x_seq ?_
  refine x_reg ?_
  refine o_move F rfl rfl (fun a F => ?_)
  refine o_move F rfl rfl (fun a F => ?_)
  refine o_lenStr Tryz.underlying9 F rfl rfl (fun a F => ?_)
  refine o_move F rfl rfl (fun a F => ?_)
  refine o_lenStr Tryz.underlying9 F rfl rfl (fun a F => ?_)
  obtain ⟨z14, c15, hR⟩ := bnd_some hR
  refine o_sub F rfl rfl rfl c15 (fun a F => ?_)
  obtain ⟨z16, c17, hR⟩ := bnd_some hR
  refine o_sslh Tryz.underlying9 F rfl rfl rfl c17 (fun a F => ?_)
  refine o_assign F rfl rfl (fun a F => ?_)
  refine x_end ?_
  refine x_tn ?_
  refine x_ret ?_
  refine x_tr ?_
  refine x_res1 F rfl (rv_t F rfl) ?_
  obtain rfl := Option.some.inj hR
  exact ⟨_, rfl, rfl, H, (ssl_sz c17 hx0)⟩
 replace hR := ifF hb13 hR
 refine x_skip ?_
 refine x_tn ?_
 refine x_seq ?_
 refine x_reg ?_
 refine o_move F rfl rfl (fun a F => ?_)
 refine o_assign F rfl rfl (fun a F => ?_)
 refine x_end ?_
 refine x_tn ?_
 refine x_ret ?_
 refine x_res1 F rfl (rv_t F rfl) ?_
 obtain rfl := Option.some.inj hR
 exact ⟨_, rfl, rfl, H, hx0⟩

def strings_TrimSuffix (x0 : ByteArray) (x1 : ByteArray) : Option ByteArray :=
 bnd (internal_stringslite_TrimSuffix x0 x1) fun z11 =>
 some z11
set_option maxHeartbeats 1000000 in
theorem strings_TrimSuffix_c {B : Nat → Prop} {x0 : ByteArray} {x1 : ByteArray} (r : ByteArray) (hR : strings_TrimSuffix x0 x1 = some r)  (w0 : World) (hN : ∀ c, B c → c < w0.heap.size) (hx0 : x0.size ≤ maxLen) (hx1 : x1.size ≤ maxLen) : Calls Tryz.prog 12 #[.string x0, .string x1] w0 (Gv (fun v w' => v = .string r ∧ Sep [] B w0 w' [] ∧ r.size ≤ maxLen)) := by
 unfold strings_TrimSuffix at hR
 refine x_enter (L := [(0, .string x0), (1, .string x1)]) Tryz.func12 rfl rfl rfl (sc rfl (sc rfl sn)) (fun a F => ?_)
 have H := Sep.start hN
 refine x_seq ?_
 refine x_reg ?_
 refine o_assign F rfl rfl (fun a F => ?_)
 refine x_end ?_
 refine x_tn ?_
 refine x_seq ?_
 refine x_reg ?_
 refine o_move F rfl rfl (fun a F => ?_)
 refine o_move F rfl rfl (fun a F => ?_)
 obtain ⟨z11, c12, hR⟩ := bnd_some hR
 refine oG F rfl Tryz.call22 rfl (internal_stringslite_TrimSuffix_c z11 c12 _ aA hx0 hx1) (fun a vv w ⟨hv14, S, i13⟩ F => ?_)
 subst vv
 have H := H.r0 S
 refine o_assign F rfl rfl (fun a F => ?_)
 refine x_end ?_
 refine x_tn ?_
 refine x_ret ?_
 refine x_res1 F rfl (rv_t F rfl) ?_
 obtain rfl := Option.some.inj hR
 exact ⟨_, rfl, rfl, H, i13⟩

def impl_dec (x0 : Int) : Option ByteArray :=
 bnd (strconv_FormatInt x0 10) fun z11 =>
 some z11
set_option maxHeartbeats 1000000 in
theorem impl_dec_c {B : Nat → Prop} {x0 : Int} (r : ByteArray) (hR : impl_dec x0 = some r)  (w0 : World) (hN : ∀ c, B c → c < w0.heap.size) (hG : Glo w0) (hx0 : I64 x0) : Calls Tryz.prog 39 #[.int .i64 x0] w0 (Gv (fun v w' => v = .string r ∧ Sep [] B w0 w' [] ∧ r.size ≤ maxLen)) := by
 unfold impl_dec at hR
 refine x_enter (L := [(0, .int .i64 x0)]) Tryz.func39 rfl rfl rfl (sc rfl sn) (fun a F => ?_)
 have H := Sep.start hN
 refine x_seq ?_
 refine x_reg ?_
 refine o_assign F rfl rfl (fun a F => ?_)
 refine x_end ?_
 refine x_tn ?_
 refine x_seq ?_
 refine x_reg ?_
 refine o_move F rfl rfl (fun a F => ?_)
 obtain ⟨z11, c12, hR⟩ := bnd_some hR
 refine oG F rfl Tryz.call55 rfl (strconv_FormatInt_s z11 c12 _ aA (hG.go H.bl) hx0 (show I64 (10) by decide)) (fun a vv w ⟨hv14, S, i13⟩ F => ?_)
 subst vv
 have H := H.r0 S
 refine o_assign F rfl rfl (fun a F => ?_)
 refine x_end ?_
 refine x_tn ?_
 refine x_ret ?_
 refine x_res1 F rfl (rv_t F rfl) ?_
 obtain rfl := Option.some.inj hR
 exact ⟨_, rfl, rfl, H, i13⟩

def impl_readNumber (x0 : ByteArray) : Option Int :=
 bnd (strconv_ParseInt x0 10 64) fun z11 =>
 thn (σ := Bool) (
  if (!z11.2) then  some (.nx true) else  if (decide (z11.1 < 0)) then  some (.nx true) else  bnd (impl_dec z11.1) fun z29 =>
    some (.nx (!sEq z29 x0))) fun s26 =>
 if s26 then
  some ((-2))
 else
  some z11.1
set_option maxHeartbeats 1000000 in
theorem impl_readNumber_c {B : Nat → Prop} {x0 : ByteArray} (r : Int) (hR : impl_readNumber x0 = some r)  (w0 : World) (hN : ∀ c, B c → c < w0.heap.size) (hG : GloE w0) (hx0 : x0.size ≤ maxLen) : Calls Tryz.prog 23 #[.string x0] w0 (SaysI r w0) := by
 unfold impl_readNumber at hR
 refine x_enter (L := [(0, .string x0)]) Tryz.func23 rfl rfl rfl (sc rfl sn) (fun a F => ?_)
 have H := Sep.start hN
 refine x_seq ?_
 refine x_reg ?_
 refine o_assign F rfl rfl (fun a F => ?_)
 refine x_end ?_
 refine x_tn ?_
 refine x_seq ?_
 refine x_reg ?_
 refine o_move F rfl rfl (fun a F => ?_)
 obtain ⟨z11, c12, hR⟩ := bnd_some hR
 refine oG F rfl Tryz.call38 rfl (strconv_ParseInt_s z11 c12 _ aA (hG.go H.bl) hx0 (show I64 (10) by decide) (show I64 (64) by decide)) (fun a vv w ⟨v14, hv16, S, i13, hE15⟩ F => ?_)
 subst vv
 have H := H.r0 S
 refine o_move F rfl rfl (fun a F => ?_)
 refine o_extract F rfl rfl rfl (fun a F => ?_)
 refine o_extract F rfl rfl rfl (fun a F => ?_)
 refine o_assign F rfl rfl (fun a F => ?_)
 refine o_assign F rfl rfl (fun a F => ?_)
 refine x_end ?_
 refine x_tn ?_
 refine x_seq ?_
 refine x_seq ?_
 obtain ⟨o23, hR, hk24⟩ := thn_some hR
 refine x_cutQ (fun a w => ∃ (s26 : Bool), o23 = .nx s26 ∧ Sk a 23 [(3, .int .i64 z11.1), (21, .bool s26)] ∧ Sep [] B w0 w []) ?_ ?_
 ·
  refine x_reg ?_
  refine o_move F rfl rfl (fun a F => ?_)
  refine o_errne (by kernel_rfl) F rfl rfl hE15 (fun a F => ?_)
  refine o_move F rfl rfl (fun a F => ?_)
  rcases bcases (!z11.2) with hb27 | hb27
  ·
   replace hR := ifT hb27 hR
   have F := F.eq (t := 12) rfl (congrArg Value.bool hb27)
   refine o_no F rfl rfl (fun a F => ?_)
   refine o_no F rfl rfl (fun a F => ?_)
   refine o_pickt F rfl rfl rfl (fun a F => ?_)
   refine o_move F rfl rfl (fun a F => ?_)
   refine o_no F rfl rfl (fun a F => ?_)
   refine o_no F rfl rfl (fun a F => ?_)
   refine o_no F rfl rfl (fun a F => ?_)
   refine o_no F rfl rfl (fun a F => ?_)
   refine o_pickt F rfl rfl rfl (fun a F => ?_)
   refine x_end ?_
   refine x_tn ?_
   exact ⟨true, (Option.some.inj hR).symm, F.sub (sc rfl (sc rfl sn)), H⟩
  replace hR := ifF hb27 hR
  have F := F.eq (t := 12) rfl (congrArg Value.bool hb27)
  refine o_move F rfl rfl (fun a F => ?_)
  refine o_lss F rfl rfl rfl (fun a F => ?_)
  refine o_pickf F rfl rfl rfl (fun a F => ?_)
  refine o_move F rfl rfl (fun a F => ?_)
  rcases bcases (decide (z11.1 < 0)) with hb28 | hb28
  ·
   replace hR := ifT hb28 hR
   have F := F.eq (t := 16) rfl (congrArg Value.bool hb28)
   refine o_no F rfl rfl (fun a F => ?_)
   refine o_no F rfl rfl (fun a F => ?_)
   refine o_no F rfl rfl (fun a F => ?_)
   refine o_no F rfl rfl (fun a F => ?_)
   refine o_pickt F rfl rfl rfl (fun a F => ?_)
   refine x_end ?_
   refine x_tn ?_
   exact ⟨true, (Option.some.inj hR).symm, F.sub (sc rfl (sc rfl sn)), H⟩
  replace hR := ifF hb28 hR
  have F := F.eq (t := 16) rfl (congrArg Value.bool hb28)
  refine o_move F rfl rfl (fun a F => ?_)
  obtain ⟨z29, c30, hR⟩ := bnd_some hR
  refine oG F rfl Tryz.call39 rfl (impl_dec_c z29 c30 _ aA (hG.go H.bl).toGlo i13) (fun a vv w ⟨hv32, S, i31⟩ F => ?_)
  subst vv
  have H := H.r0 S
  refine o_move F rfl rfl (fun a F => ?_)
  refine o_sneq F rfl rfl rfl (fun a F => ?_)
  refine o_pickf F rfl rfl rfl (fun a F => ?_)
  refine x_end ?_
  refine x_tn ?_
  exact ⟨(!sEq z29 x0), (Option.some.inj hR).symm, F.sub (sc rfl (sc rfl sn)), H⟩
 intro a w ⟨s26, ho25, F, H⟩
 subst ho25
 have hR := then_nx hk24
 refine x_tn ?_
 refine x_if F rfl (fun hb33 => ?_) (fun hb33 => ?_)
 ·
  replace hR := ifT hb33 hR
  refine x_seq ?_
  refine x_reg ?_
  refine o_assign F rfl rfl (fun a F => ?_)
  refine x_end ?_
  refine x_tn ?_
  refine x_ret ?_
  refine x_tr ?_
  refine x_res1 F rfl (rv_t F rfl) ?_
  obtain rfl := Option.some.inj hR
  exact ⟨⟨rfl, H.bl⟩, (show I64 (-2) by decide)⟩
 replace hR := ifF hb33 hR
 refine x_skip ?_
 refine x_tn ?_
 refine x_seq ?_
 refine x_reg ?_
 refine o_move F rfl rfl (fun a F => ?_)
 refine o_assign F rfl rfl (fun a F => ?_)
 refine x_end ?_
 refine x_tn ?_
 refine x_ret ?_
 refine x_res1 F rfl (rv_t F rfl) ?_
 obtain rfl := Option.some.inj hR
 exact ⟨⟨rfl, H.bl⟩, i13⟩

def impl_readDigits (x0 : ByteArray) : Option (List Int) :=
 thn (σ := (List Int)) (
  forL (σ := (List Int)) (ρ := (List Int)) (fun (k47 : Nat) (x49 : UInt8) (s41 : (List Int)) =>
   thn (σ := Bool) (
    if (decide ((x49.toNat : Int) < ((48 : UInt8).toNat : Int))) then  some (.nx true) else  some (.nx (decide (((57 : UInt8).toNat : Int) < (x49.toNat : Int))))) fun s59 =>
   if s59 then
    some (.ret ([]))
   else
    bnd (ap s41 ([((u8w ((x49.toNat : Int) - ((48 : UInt8).toNat : Int))).toNat : Int)])) fun z65 =>
    some (.go z65)) x0.data.toList 0 []) fun s44 =>
 some s44
set_option maxHeartbeats 1000000 in
theorem impl_readDigits_c {B : Nat → Prop} {x0 : ByteArray} (r : (List Int)) (hR : impl_readDigits x0 = some r)  (w0 : World) (hN : ∀ c, B c → c < w0.heap.size) (hx0 : x0.size ≤ maxLen) : Calls Tryz.prog 41 #[.string x0] w0 (Gv (fun v w' => ∃ (v1' : Value), v = v1' ∧ Sep [] B w0 w' [rl 1 RInt 2 v1' r])) := by
 unfold impl_readDigits at hR
 refine x_enter (L := [(0, .string x0)]) Tryz.func41 rfl rfl rfl (sc rfl sn) (fun a F => ?_)
 have H := Sep.start hN
 refine x_seq ?_
 refine x_reg ?_
 refine o_assign F rfl rfl (fun a F => ?_)
 refine x_end ?_
 refine x_tn ?_
 refine x_seq ?_
 refine x_reg ?_
 refine oR0 (R := RInt) Tryz.underlying44 Tryz.sizeOf2 F rfl H (fun a w v11 H F => ?_)
 refine o_assign F rfl rfl (fun a F => ?_)
 refine x_end ?_
 refine x_tn ?_
 refine x_seq ?_
 refine x_seq ?_
 refine x_reg ?_
 refine o_move F rfl rfl (fun a F => ?_)
 refine oSB Tryz.underlying9 Tryz.underlying78 Tryz.underlying5 F rfl rfl hx0 H (fun a w v13 H F => ?_)
 refine oL Tryz.underlying78 F rfl rfl (H.ro 0 rfl) (fun a i15 F => ?_)
 refine o_move F rfl rfl (fun a F => ?_)
 refine x_end ?_
 refine x_tn ?_
 obtain ⟨o35, hR, hk36⟩ := thn_some hR
 refine x_cutQ (fun a w => ∃ (s44 : List Int) (v46 : Value), o35 = .nx s44 ∧ Sk a 28 [(3, v46)] ∧ Sep [] B w0 w [rl 1 RInt 2 v46 s44]) ?_ ?_
 ·
  refine x_blk ?_
  obtain ⟨fl39, hf40, hR⟩ := forL_gen hR
  refine x_loop (fun g a w => ∃ (k47 : Nat) (rest48 : List UInt8) (s41 : List Int) (v43 : Value), (k47 ≤ x0.data.toList.length ∧ x0.data.toList.drop k47 = rest48) ∧ rest48.length = g ∧ forL fl39 rest48 k47 s41 = some o35 ∧ Sk a 28 [(10, .int .i64 (k47 : Int)), (3, v43), (8, v13), (9, .int .i64 (x0.data.toList.length : Int))] ∧ Sep [] B w0 w [ro N0 (V := (Sl 1 RByte)) v13 x0.data.toList, rl 1 RInt 2 v43 s41]) x0.data.toList.length ?_ ?_
  ·
   exact ⟨0, x0.data.toList, [], v11, ⟨Nat.zero_le _, rfl⟩, rfl, hR, F.sub (sc rfl (sc rfl (sc rfl (sc rfl sn)))), H⟩
  intro g50 a w ⟨k47, rest48, s41, v43, hd51, hg52, hR, F, H⟩
  cases rest48 with
  | nil =>
   replace hR := forL_nil hR
   have hkk47 := drop_nil hd51.1 hd51.2
   have hlk47 := dec_no hkk47
   refine x_seq ?_
   refine x_reg ?_
   refine o_lss F rfl rfl rfl (fun a F => ?_)
   refine x_end ?_
   refine x_tn ?_
   refine x_seq ?_
   refine x_ifF F rfl hlk47 ?_
   refine x_exit ?_
   refine x_te ?_
   refine x_te ?_
   refine x_be ?_
   refine x_tn ?_
   exact ⟨s41, v43, (Option.some.inj hR).symm, F.sub (sc rfl sn), (H.s [1] rfl rfl)⟩
  | cons x49 rest48 =>
   subst hg52
   replace hd51 := drop_cons hd51.2
   have hxk47 := ix_nat hd51.2.1
   obtain ⟨ck47, hR, hn38⟩ := forL_cons hR
   rw [hf40] at hR
   have hlk47 := dec_yes hd51.1
   refine x_seq ?_
   refine x_reg ?_
   refine o_lss F rfl rfl rfl (fun a F => ?_)
   refine x_end ?_
   refine x_tn ?_
   refine x_seq ?_
   refine x_ifT F rfl hlk47 ?_
   refine x_skip ?_
   refine x_tn ?_
   refine x_seq ?_
   have ikk47 := k64 (Nat.le_of_lt hd51.1) i15
   have ink47 := inc64 hd51.1 i15
   refine x_blk ?_
   refine x_seq ?_
   refine x_reg ?_
   refine oI Tryz.underlying78 Tryz.sizeOf5 F rfl rfl rfl (H.ro 0 rfl) hxk47 (fun a p53 h54 F => ?_)
   refine olU Tryz.isAgg5 F rfl rfl (Sm.refl _ _) h54 (fun a F => ?_)
   refine o_assign F rfl rfl (fun a F => ?_)
   refine x_end ?_
   refine x_tn ?_
   refine x_seq ?_
   refine x_seq ?_
   obtain ⟨o56, hR, hk57⟩ := thn_some hR
   refine x_cutQ (fun a w => ∃ (s59 : Bool), o56 = .nx s59 ∧ Sk a 28 [(3, v43), (5, .int .u8 (x49).toNat), (8, v13), (9, .int .i64 (x0.data.toList.length : Int)), (10, .int .i64 (k47 : Int)), (19, .bool s59)] ∧ Sep [] B w0 w [ro N0 (V := (Sl 1 RByte)) v13 x0.data.toList, rl 1 RInt 2 v43 s41]) ?_ ?_
   ·
    refine x_reg ?_
    refine o_move F rfl rfl (fun a F => ?_)
    refine o_lssU (j := (48 : UInt8)) F rfl rfl rfl (fun a F => ?_)
    refine o_move F rfl rfl (fun a F => ?_)
    rcases bcases (decide ((x49.toNat : Int) < ((48 : UInt8).toNat : Int))) with hb60 | hb60
    ·
     replace hR := ifT hb60 hR
     have F := F.eq (t := 16) rfl (congrArg Value.bool hb60)
     refine o_no F rfl rfl (fun a F => ?_)
     refine o_no F rfl rfl (fun a F => ?_)
     refine o_pickt F rfl rfl rfl (fun a F => ?_)
     refine x_end ?_
     refine x_tn ?_
     exact ⟨true, (Option.some.inj hR).symm, F.sub (sc rfl (sc rfl (sc rfl (sc rfl (sc rfl (sc rfl sn)))))), H⟩
    replace hR := ifF hb60 hR
    have F := F.eq (t := 16) rfl (congrArg Value.bool hb60)
    refine o_move F rfl rfl (fun a F => ?_)
    refine o_gtrU (j := (57 : UInt8)) F rfl rfl rfl (fun a F => ?_)
    refine o_pickf F rfl rfl rfl (fun a F => ?_)
    refine x_end ?_
    refine x_tn ?_
    exact ⟨(decide (((57 : UInt8).toNat : Int) < (x49.toNat : Int))), (Option.some.inj hR).symm, F.sub (sc rfl (sc rfl (sc rfl (sc rfl (sc rfl (sc rfl sn)))))), H⟩
   intro a w ⟨s59, ho58, F, H⟩
   subst ho58
   have hR := then_nx hk57
   refine x_tn ?_
   refine x_if F rfl (fun hb61 => ?_) (fun hb61 => ?_)
   ·
    replace hR := ifT hb61 hR
    refine x_seq ?_
    refine x_reg ?_
    refine o_assign F rfl rfl (fun a F => ?_)
    refine x_end ?_
    refine x_tn ?_
    refine x_ret ?_
    refine x_tr ?_
    refine x_br ?_
    refine x_tr ?_
    refine x_tr ?_
    replace hR := l_ret hR hn38
    refine x_br ?_
    refine x_tr ?_
    replace hR := j_ret hR hk36
    refine x_tr ?_
    refine x_res1 F rfl (rv_t F rfl) ?_
    obtain rfl := Option.some.inj hR
    exact ⟨_, rfl, (.slice none 0 0), rfl, ((H.nl 1 RInt 2).s [0] rfl rfl)⟩
   replace hR := ifF hb61 hR
   refine x_skip ?_
   refine x_tn ?_
   refine x_reg ?_
   refine o_move F rfl rfl (fun a F => ?_)
   refine o_move F rfl rfl (fun a F => ?_)
   refine o_subU (j := (48 : UInt8)) F rfl rfl rfl (fun a F => ?_)
   refine o_convI Tryz.underlying5 Tryz.underlying2 F rfl rfl (fun a F => ?_)
   refine oR1z (R := RInt) (y := ((u8w ((x49.toNat : Int) - ((48 : UInt8).toNat : Int))).toNat : Int)) Tryz.underlying44 Tryz.sizeOf2 Tryz.zeroValue2 rfl rfl F rfl rfl H (Eo.int (u8_i64 _)) (fun a w v63 H F => ?_)
   obtain ⟨z65, c66, hR⟩ := bnd_some hR
   refine oPL (sz := 1) (R := RInt) (z := (.int .i64 0)) (bytes := 8) Tryz.underlying44 (by kernel_rfl) rfl rfl F rfl rfl rfl (H.s [2, 0, 1] rfl rfl) c66 (fun a w v67 H F => ?_)
   refine o_assign F rfl rfl (fun a F => ?_)
   refine x_end ?_
   refine x_bn ?_
   refine x_tn ?_
   refine x_reg ?_
   refine o_inc F rfl rfl rfl ink47 (fun a F => ?_)
   refine o_move F rfl rfl (fun a F => ?_)
   refine x_end ?_
   refine x_tn ?_
   replace hR := l_go hR hn38
   exact ⟨_, Nat.lt_succ_self _, k47 + 1, rest48, z65, v67, ⟨hd51.1, hd51.2.2⟩, rfl, hR, F.sub (sc rfl (sc rfl (sc rfl (sc rfl sn)))), (H.s [1, 0] rfl rfl)⟩
 intro a w ⟨s44, v46, ho37, F, H⟩
 subst ho37
 have hR := then_nx hk36
 refine x_tn ?_
 refine x_seq ?_
 refine x_reg ?_
 refine o_move F rfl rfl (fun a F => ?_)
 refine o_assign F rfl rfl (fun a F => ?_)
 refine x_end ?_
 refine x_tn ?_
 refine x_ret ?_
 refine x_res1 F rfl (rv_t F rfl) ?_
 obtain rfl := Option.some.inj hR
 exact ⟨_, rfl, v46, rfl, H⟩

def internal_stringslite_HasPrefix (x0 : ByteArray) (x1 : ByteArray) : Option Bool :=
 thn (σ := Bool) (
  if (decide ((x1.size : Int) ≤ (x0.size : Int))) then  bnd (ssl x0 0 (x1.size : Int)) fun z19 =>
   some (.nx (sEq z19 x1)) else  some (.nx false)) fun s17 =>
 some s17
set_option maxHeartbeats 1000000 in
theorem internal_stringslite_HasPrefix_c {B : Nat → Prop} {x0 : ByteArray} {x1 : ByteArray} (r : Bool) (hR : internal_stringslite_HasPrefix x0 x1 = some r)  (w0 : World) (hN : ∀ c, B c → c < w0.heap.size) (hx0 : x0.size ≤ maxLen) (hx1 : x1.size ≤ maxLen) : Calls Tryz.prog 79 #[.string x0, .string x1] w0 (Says (.bool r) w0) := by
 unfold internal_stringslite_HasPrefix at hR
 refine x_enter (L := [(0, .string x0), (1, .string x1)]) Tryz.func79 rfl rfl rfl (sc rfl (sc rfl sn)) (fun a F => ?_)
 have H := Sep.start hN
 refine x_seq ?_
 refine x_reg ?_
 refine o_assign F rfl rfl (fun a F => ?_)
 refine x_end ?_
 refine x_tn ?_
 refine x_seq ?_
 obtain ⟨o14, hR, hk15⟩ := thn_some hR
 refine x_cutQ (fun a w => ∃ (s17 : Bool), o14 = .nx s17 ∧ Sk a 18 [(4, .bool s17)] ∧ Sep [] B w0 w []) ?_ ?_
 ·
  refine x_reg ?_
  refine o_move F rfl rfl (fun a F => ?_)
  refine o_lenStr Tryz.underlying9 F rfl rfl (fun a F => ?_)
  refine o_move F rfl rfl (fun a F => ?_)
  refine o_lenStr Tryz.underlying9 F rfl rfl (fun a F => ?_)
  refine o_geq F rfl rfl rfl (fun a F => ?_)
  refine o_move F rfl rfl (fun a F => ?_)
  rcases bcases (decide ((x1.size : Int) ≤ (x0.size : Int))) with hb18 | hb18
  ·
   replace hR := ifT hb18 hR
   have F := F.eq (t := 10) rfl (congrArg Value.bool hb18)
   refine o_move F rfl rfl (fun a F => ?_)
   refine o_move F rfl rfl (fun a F => ?_)
   refine o_lenStr Tryz.underlying9 F rfl rfl (fun a F => ?_)
   obtain ⟨z19, c20, hR⟩ := bnd_some hR
   refine o_sslh Tryz.underlying9 F rfl rfl rfl c20 (fun a F => ?_)
   refine o_move F rfl rfl (fun a F => ?_)
   refine o_seql F rfl rfl rfl (fun a F => ?_)
   refine o_pickt F rfl rfl rfl (fun a F => ?_)
   refine o_assign F rfl rfl (fun a F => ?_)
   refine x_end ?_
   refine x_tn ?_
   exact ⟨(sEq z19 x1), (Option.some.inj hR).symm, F.sub (sc rfl sn), H⟩
  replace hR := ifF hb18 hR
  have F := F.eq (t := 10) rfl (congrArg Value.bool hb18)
  refine o_no F rfl rfl (fun a F => ?_)
  refine o_no F rfl rfl (fun a F => ?_)
  refine o_no F rfl rfl (fun a F => ?_)
  refine o_no F rfl rfl (fun a F => ?_)
  refine o_no F rfl rfl (fun a F => ?_)
  refine o_no F rfl rfl (fun a F => ?_)
  refine o_pickf F rfl rfl rfl (fun a F => ?_)
  refine o_assign F rfl rfl (fun a F => ?_)
  refine x_end ?_
  refine x_tn ?_
  exact ⟨false, (Option.some.inj hR).symm, F.sub (sc rfl sn), H⟩
 intro a w ⟨s17, ho16, F, H⟩
 subst ho16
 have hR := then_nx hk15
 refine x_tn ?_
 refine x_ret ?_
 refine x_res1 F rfl (rv_t F rfl) ?_
 obtain rfl := Option.some.inj hR
 exact ⟨rfl, H.bl⟩

def internal_stringslite_CutPrefix (x0 : ByteArray) (x1 : ByteArray) : Option (ByteArray × Bool) :=
 bnd (internal_stringslite_HasPrefix x0 x1) fun z11 =>
 if (!z11) then
  some (x0, false)
 else
  bnd (ssl x0 (x1.size : Int) (x0.size : Int)) fun z14 =>
  some (z14, true)
set_option maxHeartbeats 1000000 in
theorem internal_stringslite_CutPrefix_c {B : Nat → Prop} {x0 : ByteArray} {x1 : ByteArray} (r : ByteArray × Bool) (hR : internal_stringslite_CutPrefix x0 x1 = some r)  (w0 : World) (hN : ∀ c, B c → c < w0.heap.size) (hx0 : x0.size ≤ maxLen) (hx1 : x1.size ≤ maxLen) : Calls Tryz.prog 57 #[.string x0, .string x1] w0 (Gv (fun v w' => v = .tuple #[.string r.1, .bool r.2] ∧ Sep [] B w0 w' [] ∧ r.1.size ≤ maxLen)) := by
 unfold internal_stringslite_CutPrefix at hR
 refine x_enter (L := [(0, .string x0), (1, .string x1)]) Tryz.func57 rfl rfl rfl (sc rfl (sc rfl sn)) (fun a F => ?_)
 have H := Sep.start hN
 refine x_seq ?_
 refine x_reg ?_
 refine o_assign F rfl rfl (fun a F => ?_)
 refine o_assign F rfl rfl (fun a F => ?_)
 refine x_end ?_
 refine x_tn ?_
 refine x_seq ?_
 refine x_seq ?_
 refine x_reg ?_
 refine o_move F rfl rfl (fun a F => ?_)
 refine o_move F rfl rfl (fun a F => ?_)
 obtain ⟨z11, c12, hR⟩ := bnd_some hR
 refine oK F rfl Tryz.call79 rfl H (internal_stringslite_HasPrefix_c z11 c12 _ aA hx0 hx1) (fun a w H F => ?_)
 refine o_not F rfl rfl (fun a F => ?_)
 refine x_end ?_
 refine x_tn ?_
 refine x_if F rfl (fun hb13 => ?_) (fun hb13 => ?_)
 ·
  replace hR := ifT hb13 hR
  refine x_seq ?_
  refine x_reg ?_
  refine o_move F rfl rfl (fun a F => ?_)
  refine o_assign F rfl rfl (fun a F => ?_)
  refine o_assign F rfl rfl (fun a F => ?_)
  refine x_end ?_
  refine x_tn ?_
  refine x_ret ?_
  refine x_tr ?_
  refine x_res2 F rfl (rv_t F rfl) (rv_t F rfl) ?_
  obtain rfl := Option.some.inj hR
  exact ⟨_, rfl, rfl, H, hx0⟩
 replace hR := ifF hb13 hR
 refine x_skip ?_
 refine x_tn ?_
 refine x_seq ?_
 refine x_reg ?_
 refine o_move F rfl rfl (fun a F => ?_)
 refine o_move F rfl rfl (fun a F => ?_)
 refine o_lenStr Tryz.underlying9 F rfl rfl (fun a F => ?_)
 obtain ⟨z14, c15, hR⟩ := bnd_some hR
 refine o_ssll Tryz.underlying9 F rfl rfl rfl c15 (fun a F => ?_)
 refine o_assign F rfl rfl (fun a F => ?_)
 refine o_assign F rfl rfl (fun a F => ?_)
 refine x_end ?_
 refine x_tn ?_
 refine x_ret ?_
 refine x_res2 F rfl (rv_t F rfl) (rv_t F rfl) ?_
 obtain rfl := Option.some.inj hR
 exact ⟨_, rfl, rfl, H, (ssl_sz c15 hx0)⟩

def strings_CutPrefix (x0 : ByteArray) (x1 : ByteArray) : Option (ByteArray × Bool) :=
 bnd (internal_stringslite_CutPrefix x0 x1) fun z11 =>
 some (z11.1, z11.2)
set_option maxHeartbeats 1000000 in
theorem strings_CutPrefix_c {B : Nat → Prop} {x0 : ByteArray} {x1 : ByteArray} (r : ByteArray × Bool) (hR : strings_CutPrefix x0 x1 = some r)  (w0 : World) (hN : ∀ c, B c → c < w0.heap.size) (hx0 : x0.size ≤ maxLen) (hx1 : x1.size ≤ maxLen) : Calls Tryz.prog 42 #[.string x0, .string x1] w0 (Gv (fun v w' => v = .tuple #[.string r.1, .bool r.2] ∧ Sep [] B w0 w' [] ∧ r.1.size ≤ maxLen)) := by
 unfold strings_CutPrefix at hR
 refine x_enter (L := [(0, .string x0), (1, .string x1)]) Tryz.func42 rfl rfl rfl (sc rfl (sc rfl sn)) (fun a F => ?_)
 have H := Sep.start hN
 refine x_seq ?_
 refine x_reg ?_
 refine o_assign F rfl rfl (fun a F => ?_)
 refine o_assign F rfl rfl (fun a F => ?_)
 refine x_end ?_
 refine x_tn ?_
 refine x_seq ?_
 refine x_reg ?_
 refine o_move F rfl rfl (fun a F => ?_)
 refine o_move F rfl rfl (fun a F => ?_)
 obtain ⟨z11, c12, hR⟩ := bnd_some hR
 refine oG F rfl Tryz.call57 rfl (internal_stringslite_CutPrefix_c z11 c12 _ aA hx0 hx1) (fun a vv w ⟨hv14, S, i13⟩ F => ?_)
 subst vv
 have H := H.r0 S
 refine o_extract F rfl rfl rfl (fun a F => ?_)
 refine o_extract F rfl rfl rfl (fun a F => ?_)
 refine o_assign F rfl rfl (fun a F => ?_)
 refine o_assign F rfl rfl (fun a F => ?_)
 refine x_end ?_
 refine x_tn ?_
 refine x_ret ?_
 refine x_res2 F rfl (rv_t F rfl) (rv_t F rfl) ?_
 obtain rfl := Option.some.inj hR
 exact ⟨_, rfl, rfl, H, i13⟩

def impl_readAtom (x0 : ByteArray) : Option Atom :=
 bnd (strings_Cut x0 (bstr [58])) fun z12 =>
 bnd (impl_readDigits z12.2.1) fun z17 =>
 bnd (strings_CutPrefix z12.1 (bstr [82])) fun z23 =>
 if z23.2 then
  bnd (impl_readNumber z23.1) fun z28 =>
  some ((Atom.mk z28 z17))
 else
  some ((Atom.mk (-1) z17))
set_option maxHeartbeats 1000000 in
theorem impl_readAtom_c {B : Nat → Prop} {x0 : ByteArray} (r : Atom) (hR : impl_readAtom x0 = some r)  (w0 : World) (hN : ∀ c, B c → c < w0.heap.size) (hG : GloE w0) (hx0 : x0.size ≤ maxLen) : Calls Tryz.prog 24 #[.string x0] w0 (Gv (fun v w' => ∃ (v1' : Value), v = .agg #[.int .i64 r.rel, v1'] ∧ Sep [] B w0 w' [rl 1 RInt 2 v1' r.args] ∧ I64 r.rel)) := by
 unfold impl_readAtom at hR
 refine x_enter (L := [(0, .string x0)]) Tryz.func24 rfl rfl rfl (sc rfl sn) (fun a F => ?_)
 have H := Sep.start hN
 refine x_seq ?_
 refine x_reg ?_
 refine oA Tryz.zeroValue46 F rfl rfl H (fun a w b11 H F => ?_)
 refine x_end ?_
 refine x_tn ?_
 refine x_seq ?_
 refine x_reg ?_
 refine o_move F rfl rfl (fun a F => ?_)
 obtain ⟨z12, c13, hR⟩ := bnd_some hR
 refine oG F rfl Tryz.call40 rfl (strings_Cut_s z12 c13 _ aA (hG.go H.bl).toGlo hx0 (by decide)) (fun a vv w ⟨hv16, S, i14, i15⟩ F => ?_)
 subst vv
 have H := H.r0 S
 refine o_move F rfl rfl (fun a F => ?_)
 refine o_extract F rfl rfl rfl (fun a F => ?_)
 refine o_extract F rfl rfl rfl (fun a F => ?_)
 refine o_extract F rfl rfl rfl (fun a F => ?_)
 refine o_assign F rfl rfl (fun a F => ?_)
 refine o_assign F rfl rfl (fun a F => ?_)
 refine o_assign F rfl rfl (fun a F => ?_)
 refine x_end ?_
 refine x_tn ?_
 refine x_seq ?_
 refine x_reg ?_
 refine o_move F rfl rfl (fun a F => ?_)
 obtain ⟨z17, c18, hR⟩ := bnd_some hR
 refine oG F rfl Tryz.call41 rfl (impl_readDigits_c z17 c18 _ aA i15) (fun a vv w ⟨v19, hv21, S⟩ F => ?_)
 subst vv
 have H := H.r1 S n0
 refine o_build Tryz.underlying46 Tryz.zeroValue46 (fun w => by simp [Tryz.sizeOf2, Tryz.sizeOf44]; rfl) F rfl rfl rfl rfl rfl (oc rfl (oc (H.l 0 rfl).one on)) rfl rfl (fun a F => ?_)
 refine oA Tryz.zeroValue46 F rfl rfl H (fun a w b22 H F => ?_)
 refine oWA (vs := [.int .i64 (-1), v19]) Tryz.sizeOf46 F rfl rfl rfl H (oc rfl (oc (H.l 1 rfl).one on)) rfl rfl (fun w H => ?_)
 refine x_end ?_
 refine x_tn ?_
 refine x_seq ?_
 refine x_seq ?_
 refine x_reg ?_
 refine o_move F rfl rfl (fun a F => ?_)
 obtain ⟨z23, c24, hR⟩ := bnd_some hR
 refine oG F rfl Tryz.call42 rfl (strings_CutPrefix_c z23 c24 _ aA i14 (by decide)) (fun a vv w ⟨hv26, S, i25⟩ F => ?_)
 subst vv
 have H := H.r0 S
 refine o_move F rfl rfl (fun a F => ?_)
 refine o_extract F rfl rfl rfl (fun a F => ?_)
 refine o_extract F rfl rfl rfl (fun a F => ?_)
 refine o_assign F rfl rfl (fun a F => ?_)
 refine o_assign F rfl rfl (fun a F => ?_)
 refine x_end ?_
 refine x_tn ?_
 refine x_seq ?_
 refine x_reg ?_
 refine o_move F rfl rfl (fun a F => ?_)
 refine x_end ?_
 refine x_tn ?_
 refine x_if F rfl (fun hb27 => ?_) (fun hb27 => ?_)
 ·
  replace hR := ifT hb27 hR
  refine x_reg ?_
  refine o_move F rfl rfl (fun a F => ?_)
  obtain ⟨z28, c29, hR⟩ := bnd_some hR
  refine oKI F rfl Tryz.call23 rfl H (impl_readNumber_c z28 c29 _ aA (hG.go H.bl) i25) (fun a w H iz28 F => ?_)
  refine o_bfield fa46_0 F rfl rfl rfl (fun a F => ?_)
  refine oW Tryz.sizeOf2 F rfl rfl rfl H rfl rfl rfl (fun w H => ?_)
  refine x_end ?_
  refine x_tn ?_
  refine x_seq ?_
  refine x_reg ?_
  refine oBA Tryz.isAgg46 Tryz.sizeOf46 F rfl rfl (H.b 0 rfl) rfl rfl (fun a F => ?_)
  refine oWA (vs := [.int .i64 z28, v19]) Tryz.sizeOf46 F rfl rfl rfl (H.s [2, 0, 1] rfl rfl) (oc rfl (oc ((H.s [2, 0, 1] rfl rfl).l 2 rfl).one on)) rfl rfl (fun w H => ?_)
  refine x_end ?_
  refine x_tn ?_
  refine x_ret ?_
  refine x_res1 F rfl (rv_cA (arr := #[.int .i64 z28, v19]) F Tryz.isAgg46 Tryz.sizeOf46 rfl (H.b 0 rfl)) ?_
  obtain rfl := Option.some.inj hR
  exact ⟨_, rfl, v19, rfl, (H.s [2] rfl rfl), iz28⟩
 replace hR := ifF hb27 hR
 refine x_skip ?_
 refine x_tn ?_
 refine x_seq ?_
 refine x_reg ?_
 refine oBA Tryz.isAgg46 Tryz.sizeOf46 F rfl rfl (H.b 0 rfl) rfl rfl (fun a F => ?_)
 refine oWA (vs := [.int .i64 (-1), v19]) Tryz.sizeOf46 F rfl rfl rfl (H.s [2, 0, 1] rfl rfl) (oc rfl (oc ((H.s [2, 0, 1] rfl rfl).l 2 rfl).one on)) rfl rfl (fun w H => ?_)
 refine x_end ?_
 refine x_tn ?_
 refine x_ret ?_
 refine x_res1 F rfl (rv_cA (arr := #[.int .i64 (-1), v19]) F Tryz.isAgg46 Tryz.sizeOf46 rfl (H.b 0 rfl)) ?_
 obtain rfl := Option.some.inj hR
 exact ⟨_, rfl, v19, rfl, (H.s [2] rfl rfl), (show I64 (-1) by decide)⟩

def impl_within (x0 : Int) (x1 : Int) (x2 : Int) : Option Bool :=
 thn (σ := Bool) (
  if (decide (x1 ≤ x0)) then  some (.nx (decide (x0 ≤ x2))) else  some (.nx false)) fun s15 =>
 some s15
set_option maxHeartbeats 1000000 in
theorem impl_within_c {B : Nat → Prop} {x0 : Int} {x1 : Int} {x2 : Int} (r : Bool) (hR : impl_within x0 x1 x2 = some r)  (w0 : World) (hN : ∀ c, B c → c < w0.heap.size) (hx0 : I64 x0) (hx1 : I64 x1) (hx2 : I64 x2) : Calls Tryz.prog 61 #[.int .i64 x0, .int .i64 x1, .int .i64 x2] w0 (Says (.bool r) w0) := by
 unfold impl_within at hR
 refine x_enter (L := [(0, .int .i64 x0), (1, .int .i64 x1), (2, .int .i64 x2)]) Tryz.func61 rfl rfl rfl (sc rfl (sc rfl (sc rfl sn))) (fun a F => ?_)
 have H := Sep.start hN
 refine x_seq ?_
 refine x_reg ?_
 refine o_assign F rfl rfl (fun a F => ?_)
 refine x_end ?_
 refine x_tn ?_
 refine x_seq ?_
 obtain ⟨o12, hR, hk13⟩ := thn_some hR
 refine x_cutQ (fun a w => ∃ (s15 : Bool), o12 = .nx s15 ∧ Sk a 15 [(6, .bool s15)] ∧ Sep [] B w0 w []) ?_ ?_
 ·
  refine x_reg ?_
  refine o_move F rfl rfl (fun a F => ?_)
  refine o_move F rfl rfl (fun a F => ?_)
  refine o_geq F rfl rfl rfl (fun a F => ?_)
  refine o_move F rfl rfl (fun a F => ?_)
  rcases bcases (decide (x1 ≤ x0)) with hb16 | hb16
  ·
   replace hR := ifT hb16 hR
   have F := F.eq (t := 10) rfl (congrArg Value.bool hb16)
   refine o_move F rfl rfl (fun a F => ?_)
   refine o_move F rfl rfl (fun a F => ?_)
   refine o_leq F rfl rfl rfl (fun a F => ?_)
   refine o_pickt F rfl rfl rfl (fun a F => ?_)
   refine o_assign F rfl rfl (fun a F => ?_)
   refine x_end ?_
   refine x_tn ?_
   exact ⟨(decide (x0 ≤ x2)), (Option.some.inj hR).symm, F.sub (sc rfl sn), H⟩
  replace hR := ifF hb16 hR
  have F := F.eq (t := 10) rfl (congrArg Value.bool hb16)
  refine o_no F rfl rfl (fun a F => ?_)
  refine o_no F rfl rfl (fun a F => ?_)
  refine o_no F rfl rfl (fun a F => ?_)
  refine o_pickf F rfl rfl rfl (fun a F => ?_)
  refine o_assign F rfl rfl (fun a F => ?_)
  refine x_end ?_
  refine x_tn ?_
  exact ⟨false, (Option.some.inj hR).symm, F.sub (sc rfl sn), H⟩
 intro a w ⟨s15, ho14, F, H⟩
 subst ho14
 have hR := then_nx hk13
 refine x_tn ?_
 refine x_ret ?_
 refine x_res1 F rfl (rv_t F rfl) ?_
 obtain rfl := Option.some.inj hR
 exact ⟨rfl, H.bl⟩

def impl_isArity (x0 : Int) : Option Bool :=
 bnd (impl_within x0 1 4) fun z11 =>
 some z11
set_option maxHeartbeats 1000000 in
theorem impl_isArity_c {B : Nat → Prop} {x0 : Int} (r : Bool) (hR : impl_isArity x0 = some r)  (w0 : World) (hN : ∀ c, B c → c < w0.heap.size) (hx0 : I64 x0) : Calls Tryz.prog 62 #[.int .i64 x0] w0 (Says (.bool r) w0) := by
 unfold impl_isArity at hR
 refine x_enter (L := [(0, .int .i64 x0)]) Tryz.func62 rfl rfl rfl (sc rfl sn) (fun a F => ?_)
 have H := Sep.start hN
 refine x_seq ?_
 refine x_reg ?_
 refine o_assign F rfl rfl (fun a F => ?_)
 refine x_end ?_
 refine x_tn ?_
 refine x_seq ?_
 refine x_reg ?_
 refine o_move F rfl rfl (fun a F => ?_)
 obtain ⟨z11, c12, hR⟩ := bnd_some hR
 refine oK F rfl Tryz.call61 rfl H (impl_within_c z11 c12 _ aA hx0 (show I64 (1) by decide) (show I64 (4) by decide)) (fun a w H F => ?_)
 refine o_assign F rfl rfl (fun a F => ?_)
 refine x_end ?_
 refine x_tn ?_
 refine x_ret ?_
 refine x_res1 F rfl (rv_t F rfl) ?_
 obtain rfl := Option.some.inj hR
 exact ⟨rfl, H.bl⟩

def impl_isFrame (x0 : Formula) : Option Bool :=
 thn (σ := Bool) (
  bnd (impl_isArity x0.free) fun z27 =>
  if z27 then  bnd (impl_within x0.vars x0.free 8) fun z30 =>
   if z30 then  some (.nx (decide ((x0.atoms.length : Int) ≤ 16))) else  some (.nx false) else  some (.nx false)) fun s26 =>
 some s26
set_option maxHeartbeats 1000000 in
theorem impl_isFrame_c {B : Nat → Prop} {x0 : Formula} (r : Bool) (hR : impl_isFrame x0 = some r) {v0 : Value} (w0 : World) (hN : ∀ c, B c → c < w0.heap.size) (A0 : Bo B w0 (Agg 3 RFormula) v0 x0) : Calls Tryz.prog 58 #[v0] w0 (Says (.bool r) w0) := by
 unfold impl_isFrame at hR
 refine x_enter (L := [(0, v0)]) Tryz.func58 rfl rfl rfl (sc rfl sn) (fun a F => ?_)
 have H := Sep.start hN
 refine x_seq ?_
 refine x_reg ?_
 obtain ⟨v13, rfl, i11, i12, h14⟩ := RFormula.o A0
 refine oX F rfl rfl rfl H (fun a w b15 H F => ?_)
 refine o_assign F rfl rfl (fun a F => ?_)
 refine x_end ?_
 refine x_tn ?_
 refine x_seq ?_
 obtain ⟨o23, hR, hk24⟩ := thn_some hR
 refine x_cutQ (fun a w => ∃ (s26 : Bool), o23 = .nx s26 ∧ Sk a 19 [(2, .bool s26)] ∧ Sep [] B w0 w []) ?_ ?_
 ·
  refine x_reg ?_
  refine o_bfield fa34_0 F rfl rfl rfl (fun a F => ?_)
  refine oB Tryz.isAgg2 F rfl rfl (H.b 0 rfl) rfl (fun a F => ?_)
  obtain ⟨z27, c28, hR⟩ := bnd_some hR
  refine oK F rfl Tryz.call62 rfl H (impl_isArity_c z27 c28 _ aA i11) (fun a w H F => ?_)
  refine o_move F rfl rfl (fun a F => ?_)
  rcases bcases z27 with hb29 | hb29
  ·
   replace hR := ifT hb29 hR
   have F := F.eq (t := 6) rfl (congrArg Value.bool hb29)
   refine o_bfield fa34_1 F rfl rfl rfl (fun a F => ?_)
   refine oB Tryz.isAgg2 F rfl rfl (H.b 0 rfl) rfl (fun a F => ?_)
   refine o_bfield fa34_0 F rfl rfl rfl (fun a F => ?_)
   refine oB Tryz.isAgg2 F rfl rfl (H.b 0 rfl) rfl (fun a F => ?_)
   obtain ⟨z30, c31, hR⟩ := bnd_some hR
   refine oK F rfl Tryz.call61 rfl H (impl_within_c z30 c31 _ aA i12 i11 (show I64 (8) by decide)) (fun a w H F => ?_)
   refine o_pickt F rfl rfl rfl (fun a F => ?_)
   refine o_move F rfl rfl (fun a F => ?_)
   rcases bcases z30 with hb32 | hb32
   ·
    replace hR := ifT hb32 hR
    have F := F.eq (t := 13) rfl (congrArg Value.bool hb32)
    refine o_bfield fa34_2 F rfl rfl rfl (fun a F => ?_)
    refine oB Tryz.isAgg32 F rfl rfl (H.b 0 rfl) rfl (fun a F => ?_)
    refine oL Tryz.underlying32 F rfl rfl h14 (fun a i33 F => ?_)
    refine o_leq F rfl rfl rfl (fun a F => ?_)
    refine o_pickt F rfl rfl rfl (fun a F => ?_)
    refine o_assign F rfl rfl (fun a F => ?_)
    refine x_end ?_
    refine x_tn ?_
    exact ⟨(decide ((x0.atoms.length : Int) ≤ 16)), (Option.some.inj hR).symm, F.sub (sc rfl sn), (H.s [] rfl rfl)⟩
   replace hR := ifF hb32 hR
   have F := F.eq (t := 13) rfl (congrArg Value.bool hb32)
   refine o_no F rfl rfl (fun a F => ?_)
   refine o_no F rfl rfl (fun a F => ?_)
   refine o_no F rfl rfl (fun a F => ?_)
   refine o_no F rfl rfl (fun a F => ?_)
   refine o_pickf F rfl rfl rfl (fun a F => ?_)
   refine o_assign F rfl rfl (fun a F => ?_)
   refine x_end ?_
   refine x_tn ?_
   exact ⟨false, (Option.some.inj hR).symm, F.sub (sc rfl sn), (H.s [] rfl rfl)⟩
  replace hR := ifF hb29 hR
  have F := F.eq (t := 6) rfl (congrArg Value.bool hb29)
  refine o_no F rfl rfl (fun a F => ?_)
  refine o_no F rfl rfl (fun a F => ?_)
  refine o_no F rfl rfl (fun a F => ?_)
  refine o_no F rfl rfl (fun a F => ?_)
  refine o_no F rfl rfl (fun a F => ?_)
  refine o_pickf F rfl rfl rfl (fun a F => ?_)
  refine o_move F rfl rfl (fun a F => ?_)
  refine o_no F rfl rfl (fun a F => ?_)
  refine o_no F rfl rfl (fun a F => ?_)
  refine o_no F rfl rfl (fun a F => ?_)
  refine o_no F rfl rfl (fun a F => ?_)
  refine o_pickf F rfl rfl rfl (fun a F => ?_)
  refine o_assign F rfl rfl (fun a F => ?_)
  refine x_end ?_
  refine x_tn ?_
  exact ⟨false, (Option.some.inj hR).symm, F.sub (sc rfl sn), (H.s [] rfl rfl)⟩
 intro a w ⟨s26, ho25, F, H⟩
 subst ho25
 have hR := then_nx hk24
 refine x_tn ?_
 refine x_ret ?_
 refine x_res1 F rfl (rv_t F rfl) ?_
 obtain rfl := Option.some.inj hR
 exact ⟨rfl, H.bl⟩

def impl_isValue (x0 : Int) (x1 : Int) : Option Bool :=
 bnd (ck (x0 - 1)) fun z11 =>
 bnd (impl_within x1 0 z11) fun z13 =>
 some z13
set_option maxHeartbeats 1000000 in
theorem impl_isValue_c {B : Nat → Prop} {x0 : Int} {x1 : Int} (r : Bool) (hR : impl_isValue x0 x1 = some r)  (w0 : World) (hN : ∀ c, B c → c < w0.heap.size) (hx0 : I64 x0) (hx1 : I64 x1) : Calls Tryz.prog 98 #[.int .i64 x0, .int .i64 x1] w0 (Says (.bool r) w0) := by
 unfold impl_isValue at hR
 refine x_enter (L := [(0, .int .i64 x0), (1, .int .i64 x1)]) Tryz.func98 rfl rfl rfl (sc rfl (sc rfl sn)) (fun a F => ?_)
 have H := Sep.start hN
 refine x_seq ?_
 refine x_reg ?_
 refine o_assign F rfl rfl (fun a F => ?_)
 refine x_end ?_
 refine x_tn ?_
 refine x_seq ?_
 refine x_reg ?_
 refine o_move F rfl rfl (fun a F => ?_)
 refine o_move F rfl rfl (fun a F => ?_)
 obtain ⟨z11, c12, hR⟩ := bnd_some hR
 refine o_sub F rfl rfl rfl c12 (fun a F => ?_)
 obtain ⟨z13, c14, hR⟩ := bnd_some hR
 refine oK F rfl Tryz.call61 rfl H (impl_within_c z13 c14 _ aA hx1 (show I64 (0) by decide) (ck64 c12)) (fun a w H F => ?_)
 refine o_assign F rfl rfl (fun a F => ?_)
 refine x_end ?_
 refine x_tn ?_
 refine x_ret ?_
 refine x_res1 F rfl (rv_t F rfl) ?_
 obtain rfl := Option.some.inj hR
 exact ⟨rfl, H.bl⟩

def impl_areValues_1 (x0 : Int) (y0 : Int) : Option Bool :=
 bnd (impl_isValue y0 x0) fun z12 =>
 some ((!z12))
set_option maxHeartbeats 1000000 in
theorem impl_areValues_1_c {B : Nat → Prop} {x0 : Int} {y0 : Int} (r : Bool) (hR : impl_areValues_1 x0 y0 = some r) {v1 : Value} (w0 : World) (hN : ∀ c, B c → c < w0.heap.size) (hx0 : I64 x0) (A1 : Bo B w0 (Pt 1 RInt) v1 y0) : Calls Tryz.prog 97 #[.int .i64 x0, v1] w0 (Says (.bool r) w0) := by
 unfold impl_areValues_1 at hR
 refine x_enter (L := [(0, .int .i64 x0), (1, v1)]) Tryz.func97 rfl rfl rfl (sc rfl (sc rfl sn)) (fun a F => ?_)
 have H := Sep.start hN
 refine x_seq ?_
 refine x_reg ?_
 refine o_assign F rfl rfl (fun a F => ?_)
 refine x_end ?_
 refine x_tn ?_
 refine x_seq ?_
 refine x_reg ?_
 refine olI Tryz.isAgg2 F rfl rfl H.sm A1 (fun a i11 F => ?_)
 refine o_move F rfl rfl (fun a F => ?_)
 obtain ⟨z12, c13, hR⟩ := bnd_some hR
 refine oK F rfl Tryz.call98 rfl H (impl_isValue_c z12 c13 _ aA i11 hx0) (fun a w H F => ?_)
 refine o_not F rfl rfl (fun a F => ?_)
 refine o_assign F rfl rfl (fun a F => ?_)
 refine x_end ?_
 refine x_tn ?_
 refine x_ret ?_
 refine x_res1 F rfl (rv_t F rfl) ?_
 obtain rfl := Option.some.inj hR
 exact ⟨rfl, H.bl⟩

def slices_IndexFunc_s_int64_int64 (x0 : List Int) (x1 : Int → Option Bool) : Option Int :=
 thn (σ := Unit) (
  forL (σ := Unit) (ρ := Int) (fun (k24 : Nat) (x26 : Int) (s : Unit) =>
    match s with
    | _ =>
    bnd (x1 x26) fun z33 =>
    if z33 then
     some (.ret ((k24 : Int)))
    else
     some (.go ())) x0 0 ()) fun _ =>
 some ((-1))
set_option maxHeartbeats 1000000 in
theorem slices_IndexFunc_s_int64_int64_c {B : Nat → Prop} {x0 : List Int} {x1 : Int → Option Bool} (r : Int) (hR : slices_IndexFunc_s_int64_int64 x0 x1 = some r) {v0 : Value} {g1 : FuncId} {lb1 : List Value} (w0 : World) (hN : ∀ c, B c → c < w0.heap.size) (A0 : Bo B w0 (Sl 1 RInt) v0 x0) (hg1 : ∀ args w, (callFunc g1 args).run Tryz.prog w = .ok (.enter g1 args) w) (hp1 : ∀ (a0 : Int) (r : Bool), x1 a0 = some r → ∀ W, Below w0.heap.size w0 W → I64 a0 → Calls Tryz.prog g1 ([.int .i64 a0] ++ lb1 : List Value).toArray W (Says (.bool r) W)) : Calls Tryz.prog 107 #[v0, .func (.func g1) #[] lb1.toArray] w0 (SaysI r w0) := by
 unfold slices_IndexFunc_s_int64_int64 at hR
 refine x_enter (L := [(0, v0), (1, .func (.func g1) #[] lb1.toArray)]) Tryz.func107 rfl rfl rfl (sc rfl (sc rfl sn)) (fun a F => ?_)
 have H := Sep.start hN
 refine x_seq ?_
 refine x_reg ?_
 refine o_assign F rfl rfl (fun a F => ?_)
 refine x_end ?_
 refine x_tn ?_
 refine x_seq ?_
 refine x_seq ?_
 refine x_reg ?_
 refine o_move F rfl rfl (fun a F => ?_)
 refine oL Tryz.underlying44 F rfl rfl A0 (fun a i11 F => ?_)
 refine o_move F rfl rfl (fun a F => ?_)
 refine x_end ?_
 refine x_tn ?_
 obtain ⟨o18, hR, hk19⟩ := thn_some hR
 refine x_cutQ (fun a w => o18 = .nx () ∧ Sk a 19 [] ∧ Sep [] B w0 w []) ?_ ?_
 ·
  refine x_blk ?_
  obtain ⟨fl22, hf23, hR⟩ := forL_gen hR
  refine x_loop (fun g a w => ∃ (k24 : Nat) (rest25 : List Int), (k24 ≤ x0.length ∧ x0.drop k24 = rest25) ∧ rest25.length = g ∧ forL fl22 rest25 k24 () = some o18 ∧ Sk a 19 [(8, .int .i64 (k24 : Int)), (0, v0), (1, .func (.func g1) #[] lb1.toArray), (7, .int .i64 (x0.length : Int))] ∧ Sep [] B w0 w []) x0.length ?_ ?_
  ·
   exact ⟨0, x0, ⟨Nat.zero_le _, rfl⟩, rfl, hR, F.sub (sc rfl (sc rfl (sc rfl (sc rfl sn)))), H⟩
  intro g27 a w ⟨k24, rest25, hd28, hg29, hR, F, H⟩
  cases rest25 with
  | nil =>
   replace hR := forL_nil hR
   have hkk24 := drop_nil hd28.1 hd28.2
   have hlk24 := dec_no hkk24
   refine x_seq ?_
   refine x_reg ?_
   refine o_lss F rfl rfl rfl (fun a F => ?_)
   refine x_end ?_
   refine x_tn ?_
   refine x_seq ?_
   refine x_ifF F rfl hlk24 ?_
   refine x_exit ?_
   refine x_te ?_
   refine x_te ?_
   refine x_be ?_
   refine x_tn ?_
   exact ⟨(Option.some.inj hR).symm, F.sub sn, H⟩
  | cons x26 rest25 =>
   subst hg29
   replace hd28 := drop_cons hd28.2
   have hxk24 := ix_nat hd28.2.1
   obtain ⟨ck24, hR, hn21⟩ := forL_cons hR
   rw [hf23] at hR
   have hlk24 := dec_yes hd28.1
   refine x_seq ?_
   refine x_reg ?_
   refine o_lss F rfl rfl rfl (fun a F => ?_)
   refine x_end ?_
   refine x_tn ?_
   refine x_seq ?_
   refine x_ifT F rfl hlk24 ?_
   refine x_skip ?_
   refine x_tn ?_
   refine x_seq ?_
   have ikk24 := k64 (Nat.le_of_lt hd28.1) i11
   have ink24 := inc64 hd28.1 i11
   refine x_blk ?_
   refine x_seq ?_
   refine x_reg ?_
   refine o_move F rfl rfl (fun a F => ?_)
   refine o_assign F rfl rfl (fun a F => ?_)
   refine x_end ?_
   refine x_tn ?_
   refine x_seq ?_
   refine x_reg ?_
   refine o_move F rfl rfl (fun a F => ?_)
   refine o_move F rfl rfl (fun a F => ?_)
   refine o_move F rfl rfl (fun a F => ?_)
   refine oI Tryz.underlying44 Tryz.sizeOf2 F rfl rfl rfl A0 hxk24 (fun a p30 h31 F => ?_)
   refine olI Tryz.isAgg2 F rfl rfl H.sm h31 (fun a i32 F => ?_)
   obtain ⟨z33, c34, hR⟩ := bnd_some hR
   refine oKV F rfl rfl hg1 rfl H (hp1 _ z33 c34 _ H.bl i32) (fun a w H F => ?_)
   refine x_end ?_
   refine x_tn ?_
   refine x_if F rfl (fun hb35 => ?_) (fun hb35 => ?_)
   ·
    replace hR := ifT hb35 hR
    refine x_seq ?_
    refine x_reg ?_
    refine o_move F rfl rfl (fun a F => ?_)
    refine o_assign F rfl rfl (fun a F => ?_)
    refine x_end ?_
    refine x_tn ?_
    refine x_ret ?_
    refine x_br ?_
    refine x_tr ?_
    refine x_tr ?_
    replace hR := l_ret hR hn21
    refine x_br ?_
    refine x_tr ?_
    replace hR := j_ret hR hk19
    refine x_tr ?_
    refine x_res1 F rfl (rv_t F rfl) ?_
    obtain rfl := Option.some.inj hR
    exact ⟨⟨rfl, H.bl⟩, ikk24⟩
   replace hR := ifF hb35 hR
   refine x_skip ?_
   refine x_bn ?_
   refine x_tn ?_
   refine x_reg ?_
   refine o_inc F rfl rfl rfl ink24 (fun a F => ?_)
   refine o_move F rfl rfl (fun a F => ?_)
   refine x_end ?_
   refine x_tn ?_
   replace hR := l_go hR hn21
   exact ⟨_, Nat.lt_succ_self _, k24 + 1, rest25, ⟨hd28.1, hd28.2.2⟩, rfl, hR, F.sub (sc rfl (sc rfl (sc rfl (sc rfl sn)))), H⟩
 intro a w ⟨ho20, F, H⟩
 subst ho20
 have hR := then_nx hk19
 refine x_tn ?_
 refine x_seq ?_
 refine x_reg ?_
 refine o_assign F rfl rfl (fun a F => ?_)
 refine x_end ?_
 refine x_tn ?_
 refine x_ret ?_
 refine x_res1 F rfl (rv_t F rfl) ?_
 obtain rfl := Option.some.inj hR
 exact ⟨⟨rfl, H.bl⟩, (show I64 (-1) by decide)⟩

def slices_ContainsFunc_s_int64_int64 (x0 : List Int) (x1 : Int → Option Bool) : Option Bool :=
 bnd (slices_IndexFunc_s_int64_int64 x0 x1) fun z11 =>
 some ((decide (0 ≤ z11)))
set_option maxHeartbeats 1000000 in
theorem slices_ContainsFunc_s_int64_int64_c {B : Nat → Prop} {x0 : List Int} {x1 : Int → Option Bool} (r : Bool) (hR : slices_ContainsFunc_s_int64_int64 x0 x1 = some r) {v0 : Value} {g1 : FuncId} {lb1 : List Value} (w0 : World) (hN : ∀ c, B c → c < w0.heap.size) (A0 : Bo B w0 (Sl 1 RInt) v0 x0) (hg1 : ∀ args w, (callFunc g1 args).run Tryz.prog w = .ok (.enter g1 args) w) (hp1 : ∀ (a0 : Int) (r : Bool), x1 a0 = some r → ∀ W, Below w0.heap.size w0 W → I64 a0 → Calls Tryz.prog g1 ([.int .i64 a0] ++ lb1 : List Value).toArray W (Says (.bool r) W)) : Calls Tryz.prog 96 #[v0, .func (.func g1) #[] lb1.toArray] w0 (Says (.bool r) w0) := by
 unfold slices_ContainsFunc_s_int64_int64 at hR
 refine x_enter (L := [(0, v0), (1, .func (.func g1) #[] lb1.toArray)]) Tryz.func96 rfl rfl rfl (sc rfl (sc rfl sn)) (fun a F => ?_)
 have H := Sep.start hN
 refine x_seq ?_
 refine x_reg ?_
 refine o_assign F rfl rfl (fun a F => ?_)
 refine x_end ?_
 refine x_tn ?_
 refine x_seq ?_
 refine x_reg ?_
 refine o_move F rfl rfl (fun a F => ?_)
 refine o_move F rfl rfl (fun a F => ?_)
 obtain ⟨z11, c12, hR⟩ := bnd_some hR
 refine oKI F rfl Tryz.call107 rfl H (slices_IndexFunc_s_int64_int64_c z11 c12 _ aA (H.a A0) hg1 (fun a0 r h W l => hp1 a0 r h W (H.bl.trans (l.mono H.fr.size)))) (fun a w H iz11 F => ?_)
 refine o_geq F rfl rfl rfl (fun a F => ?_)
 refine o_assign F rfl rfl (fun a F => ?_)
 refine x_end ?_
 refine x_tn ?_
 refine x_ret ?_
 refine x_res1 F rfl (rv_t F rfl) ?_
 obtain rfl := Option.some.inj hR
 exact ⟨rfl, H.bl⟩

def impl_areValues (x0 : Int) (x1 : List Int) (x2 : Int) : Option Bool :=
 thn (σ := Bool) (
  if ((x1.length : Int) == x2) then  bnd (slices_ContainsFunc_s_int64_int64 x1 (fun a0 => impl_areValues_1 a0 x0)) fun z22 =>
   some (.nx (!z22)) else  some (.nx false)) fun s19 =>
 some s19
set_option maxHeartbeats 1000000 in
theorem impl_areValues_c {B : Nat → Prop} {x0 : Int} {x1 : List Int} {x2 : Int} (r : Bool) (hR : impl_areValues x0 x1 x2 = some r) {v1 : Value} (w0 : World) (hN : ∀ c, B c → c < w0.heap.size) (hx0 : I64 x0) (A1 : Bo B w0 (Sl 1 RInt) v1 x1) (hx2 : I64 x2) : Calls Tryz.prog 81 #[.int .i64 x0, v1, .int .i64 x2] w0 (Says (.bool r) w0) := by
 unfold impl_areValues at hR
 refine x_enter (L := [(0, .int .i64 x0), (1, v1), (2, .int .i64 x2)]) Tryz.func81 rfl rfl rfl (sc rfl (sc rfl (sc rfl sn))) (fun a F => ?_)
 have H := Sep.start hN
 refine x_seq ?_
 refine x_reg ?_
 refine oX F rfl rfl rfl H (fun a w b11 H F => ?_)
 refine o_assign F rfl rfl (fun a F => ?_)
 refine x_end ?_
 refine x_tn ?_
 refine x_seq ?_
 obtain ⟨o16, hR, hk17⟩ := thn_some hR
 refine x_cutQ (fun a w => ∃ (s19 : Bool), o16 = .nx s19 ∧ Sk a 17 [(6, .bool s19)] ∧ Sep [] B w0 w []) ?_ ?_
 ·
  refine x_reg ?_
  refine o_move F rfl rfl (fun a F => ?_)
  refine oL Tryz.underlying44 F rfl rfl A1 (fun a i20 F => ?_)
  refine o_move F rfl rfl (fun a F => ?_)
  refine o_eql F rfl rfl rfl (fun a F => ?_)
  refine o_move F rfl rfl (fun a F => ?_)
  rcases bcases ((x1.length : Int) == x2) with hb21 | hb21
  ·
   replace hR := ifT hb21 hR
   have F := F.eq (t := 11) rfl (congrArg Value.bool hb21)
   refine o_move F rfl rfl (fun a F => ?_)
   refine o_func F rfl rfl rfl (fun a F => ?_)
   obtain ⟨z22, c23, hR⟩ := bnd_some hR
   refine oK F rfl Tryz.call96 rfl H (slices_ContainsFunc_s_int64_int64_c z22 c23 _ aA (H.a A1) Tryz.call97 (fun a0 r h W l f0 => impl_areValues_1_c r h W aA f0 ((c1I (H.g 0 rfl).bk hx0).w l))) (fun a w H F => ?_)
   refine o_not F rfl rfl (fun a F => ?_)
   refine o_pickt F rfl rfl rfl (fun a F => ?_)
   refine o_assign F rfl rfl (fun a F => ?_)
   refine x_end ?_
   refine x_tn ?_
   exact ⟨(!z22), (Option.some.inj hR).symm, F.sub (sc rfl sn), (H.s [] rfl rfl)⟩
  replace hR := ifF hb21 hR
  have F := F.eq (t := 11) rfl (congrArg Value.bool hb21)
  refine o_no F rfl rfl (fun a F => ?_)
  refine o_no F rfl rfl (fun a F => ?_)
  refine o_no F rfl rfl (fun a F => ?_)
  refine o_no F rfl rfl (fun a F => ?_)
  refine o_pickf F rfl rfl rfl (fun a F => ?_)
  refine o_assign F rfl rfl (fun a F => ?_)
  refine x_end ?_
  refine x_tn ?_
  exact ⟨false, (Option.some.inj hR).symm, F.sub (sc rfl sn), (H.s [] rfl rfl)⟩
 intro a w ⟨s19, ho18, F, H⟩
 subst ho18
 have hR := then_nx hk17
 refine x_tn ?_
 refine x_ret ?_
 refine x_res1 F rfl (rv_t F rfl) ?_
 obtain rfl := Option.some.inj hR
 exact ⟨rfl, H.bl⟩

def impl_isAtom (x0 : Atom) (x1 : Int) (x2 : Int) : Option Bool :=
 bnd (impl_areValues x2 x0.args x1) fun z15 =>
 some z15
set_option maxHeartbeats 1000000 in
theorem impl_isAtom_c {B : Nat → Prop} {x0 : Atom} {x1 : Int} {x2 : Int} (r : Bool) (hR : impl_isAtom x0 x1 x2 = some r) {v0 : Value} (w0 : World) (hN : ∀ c, B c → c < w0.heap.size) (A0 : Bo B w0 (Agg 2 RAtom) v0 x0) (hx1 : I64 x1) (hx2 : I64 x2) : Calls Tryz.prog 63 #[v0, .int .i64 x1, .int .i64 x2] w0 (Says (.bool r) w0) := by
 unfold impl_isAtom at hR
 refine x_enter (L := [(0, v0), (1, .int .i64 x1), (2, .int .i64 x2)]) Tryz.func63 rfl rfl rfl (sc rfl (sc rfl (sc rfl sn))) (fun a F => ?_)
 have H := Sep.start hN
 refine x_seq ?_
 refine x_reg ?_
 obtain ⟨v12, rfl, i11, h13⟩ := RAtom.o A0
 refine oX F rfl rfl rfl H (fun a w b14 H F => ?_)
 refine o_assign F rfl rfl (fun a F => ?_)
 refine x_end ?_
 refine x_tn ?_
 refine x_seq ?_
 refine x_reg ?_
 refine o_move F rfl rfl (fun a F => ?_)
 refine o_bfield fa46_1 F rfl rfl rfl (fun a F => ?_)
 refine oB Tryz.isAgg44 F rfl rfl (H.b 0 rfl) rfl (fun a F => ?_)
 refine o_move F rfl rfl (fun a F => ?_)
 obtain ⟨z15, c16, hR⟩ := bnd_some hR
 refine oK F rfl Tryz.call81 rfl H (impl_areValues_c z15 c16 _ aA hx2 (H.a h13) hx1) (fun a w H F => ?_)
 refine o_assign F rfl rfl (fun a F => ?_)
 refine x_end ?_
 refine x_tn ?_
 refine x_ret ?_
 refine x_res1 F rfl (rv_t F rfl) ?_
 obtain rfl := Option.some.inj hR
 exact ⟨rfl, H.bl⟩

def impl_isWritten_1 (x0 : Atom) (y0 : Formula) : Option Bool :=
 thn (σ := Bool) (
  bnd (impl_within x0.rel (-1) 5) fun z32 =>
  if (!z32) then  some (.nx true) else  bnd (impl_isArity (x0.args.length : Int)) fun z36 =>
   if (!z36) then  some (.nx true) else  bnd (impl_isAtom (Atom.mk x0.rel x0.args) (x0.args.length : Int) y0.vars) fun z43 =>
    some (.nx (!z43))) fun s31 =>
 some s31
set_option maxHeartbeats 1000000 in
theorem impl_isWritten_1_c {B : Nat → Prop} {x0 : Atom} {y0 : Formula} (r : Bool) (hR : impl_isWritten_1 x0 y0 = some r) {v0 : Value} {v1 : Value} (w0 : World) (hN : ∀ c, B c → c < w0.heap.size) (A0 : Bo B w0 (Agg 2 RAtom) v0 x0) (A1 : Bo B w0 (Pt 3 RFormula) v1 y0) : Calls Tryz.prog 60 #[v0, v1] w0 (Says (.bool r) w0) := by
 unfold impl_isWritten_1 at hR
 refine x_enter (L := [(0, v0), (1, v1)]) Tryz.func60 rfl rfl rfl (sc rfl (sc rfl sn)) (fun a F => ?_)
 have H := Sep.start hN
 refine x_seq ?_
 refine x_reg ?_
 obtain ⟨v12, rfl, i11, h13⟩ := RAtom.o A0
 refine oX F rfl rfl rfl H (fun a w b14 H F => ?_)
 refine o_assign F rfl rfl (fun a F => ?_)
 refine x_end ?_
 refine x_tn ?_
 refine x_seq ?_
 obtain ⟨o28, hR, hk29⟩ := thn_some hR
 refine x_cutQ (fun a w => ∃ (s31 : Bool), o28 = .nx s31 ∧ Sk a 25 [(3, .bool s31)] ∧ Sep [] B w0 w []) ?_ ?_
 ·
  refine x_reg ?_
  refine o_bfield fa46_0 F rfl rfl rfl (fun a F => ?_)
  refine oB Tryz.isAgg2 F rfl rfl (H.b 0 rfl) rfl (fun a F => ?_)
  obtain ⟨z32, c33, hR⟩ := bnd_some hR
  refine oK F rfl Tryz.call61 rfl H (impl_within_c z32 c33 _ aA i11 (show I64 (-1) by decide) (show I64 (5) by decide)) (fun a w H F => ?_)
  refine o_not F rfl rfl (fun a F => ?_)
  refine o_move F rfl rfl (fun a F => ?_)
  rcases bcases (!z32) with hb34 | hb34
  ·
   replace hR := ifT hb34 hR
   have F := F.eq (t := 8) rfl (congrArg Value.bool hb34)
   refine o_no F rfl rfl (fun a F => ?_)
   refine o_no F rfl rfl (fun a F => ?_)
   refine o_no F rfl rfl (fun a F => ?_)
   refine o_no F rfl rfl (fun a F => ?_)
   refine o_no F rfl rfl (fun a F => ?_)
   refine o_pickt F rfl rfl rfl (fun a F => ?_)
   refine o_move F rfl rfl (fun a F => ?_)
   refine o_no F rfl rfl (fun a F => ?_)
   refine o_no F rfl rfl (fun a F => ?_)
   refine o_no F rfl rfl (fun a F => ?_)
   refine o_no F rfl rfl (fun a F => ?_)
   refine o_no F rfl rfl (fun a F => ?_)
   refine o_no F rfl rfl (fun a F => ?_)
   refine o_no F rfl rfl (fun a F => ?_)
   refine o_no F rfl rfl (fun a F => ?_)
   refine o_pickt F rfl rfl rfl (fun a F => ?_)
   refine o_assign F rfl rfl (fun a F => ?_)
   refine x_end ?_
   refine x_tn ?_
   exact ⟨true, (Option.some.inj hR).symm, F.sub (sc rfl sn), (H.s [] rfl rfl)⟩
  replace hR := ifF hb34 hR
  have F := F.eq (t := 8) rfl (congrArg Value.bool hb34)
  refine o_bfield fa46_1 F rfl rfl rfl (fun a F => ?_)
  refine oB Tryz.isAgg44 F rfl rfl (H.b 0 rfl) rfl (fun a F => ?_)
  refine oL Tryz.underlying44 F rfl rfl h13 (fun a i35 F => ?_)
  obtain ⟨z36, c37, hR⟩ := bnd_some hR
  refine oK F rfl Tryz.call62 rfl H (impl_isArity_c z36 c37 _ aA i35) (fun a w H F => ?_)
  refine o_not F rfl rfl (fun a F => ?_)
  refine o_pickf F rfl rfl rfl (fun a F => ?_)
  refine o_move F rfl rfl (fun a F => ?_)
  rcases bcases (!z36) with hb38 | hb38
  ·
   replace hR := ifT hb38 hR
   have F := F.eq (t := 15) rfl (congrArg Value.bool hb38)
   refine o_no F rfl rfl (fun a F => ?_)
   refine o_no F rfl rfl (fun a F => ?_)
   refine o_no F rfl rfl (fun a F => ?_)
   refine o_no F rfl rfl (fun a F => ?_)
   refine o_no F rfl rfl (fun a F => ?_)
   refine o_no F rfl rfl (fun a F => ?_)
   refine o_no F rfl rfl (fun a F => ?_)
   refine o_no F rfl rfl (fun a F => ?_)
   refine o_pickt F rfl rfl rfl (fun a F => ?_)
   refine o_assign F rfl rfl (fun a F => ?_)
   refine x_end ?_
   refine x_tn ?_
   exact ⟨true, (Option.some.inj hR).symm, F.sub (sc rfl sn), (H.s [] rfl rfl)⟩
  replace hR := ifF hb38 hR
  have F := F.eq (t := 15) rfl (congrArg Value.bool hb38)
  refine oBA Tryz.isAgg46 Tryz.sizeOf46 F rfl rfl (H.b 0 rfl) rfl rfl (fun a F => ?_)
  refine o_bfield fa46_1 F rfl rfl rfl (fun a F => ?_)
  refine oB Tryz.isAgg44 F rfl rfl (H.b 0 rfl) rfl (fun a F => ?_)
  refine oL Tryz.underlying44 F rfl rfl h13 (fun a i39 F => ?_)
  refine oF (s' := 1) fa34_1 F rfl rfl A1 RFormula.f1 (fun a p40 h41 F => ?_)
  refine olI Tryz.isAgg2 F rfl rfl H.sm h41 (fun a i42 F => ?_)
  obtain ⟨z43, c44, hR⟩ := bnd_some hR
  refine oK F rfl Tryz.call63 rfl H (impl_isAtom_c z43 c44 _ aA (RAtom.m i11 (H.a h13)) i39 i42) (fun a w H F => ?_)
  refine o_not F rfl rfl (fun a F => ?_)
  refine o_pickf F rfl rfl rfl (fun a F => ?_)
  refine o_assign F rfl rfl (fun a F => ?_)
  refine x_end ?_
  refine x_tn ?_
  exact ⟨(!z43), (Option.some.inj hR).symm, F.sub (sc rfl sn), (H.s [] rfl rfl)⟩
 intro a w ⟨s31, ho30, F, H⟩
 subst ho30
 have hR := then_nx hk29
 refine x_tn ?_
 refine x_ret ?_
 refine x_res1 F rfl (rv_t F rfl) ?_
 obtain rfl := Option.some.inj hR
 exact ⟨rfl, H.bl⟩

def slices_IndexFunc_s_Atom_Atom (x0 : List Atom) (x1 : Atom → Option Bool) : Option Int :=
 thn (σ := Unit) (
  forL (σ := Unit) (ρ := Int) (fun (k25 : Nat) (x27 : Atom) (s : Unit) =>
    match s with
    | _ =>
    bnd (x1 x27) fun z35 =>
    if z35 then
     some (.ret ((k25 : Int)))
    else
     some (.go ())) x0 0 ()) fun _ =>
 some ((-1))
set_option maxHeartbeats 1000000 in
theorem slices_IndexFunc_s_Atom_Atom_c {B : Nat → Prop} {x0 : List Atom} {x1 : Atom → Option Bool} (r : Int) (hR : slices_IndexFunc_s_Atom_Atom x0 x1 = some r) {v0 : Value} {g1 : FuncId} {lb1 : List Value} (w0 : World) (hN : ∀ c, B c → c < w0.heap.size) (A0 : Bo B w0 (Sl 2 RAtom) v0 x0) (hg1 : ∀ args w, (callFunc g1 args).run Tryz.prog w = .ok (.enter g1 args) w) (hp1 : ∀ (a0 : Atom) (r : Bool), x1 a0 = some r → ∀ W, Below w0.heap.size w0 W → ∀ (u0 : Value), Bo (All W) W (Agg 2 RAtom) u0 a0 → Calls Tryz.prog g1 ([u0] ++ lb1 : List Value).toArray W (Says (.bool r) W)) : Calls Tryz.prog 80 #[v0, .func (.func g1) #[] lb1.toArray] w0 (SaysI r w0) := by
 unfold slices_IndexFunc_s_Atom_Atom at hR
 refine x_enter (L := [(0, v0), (1, .func (.func g1) #[] lb1.toArray)]) Tryz.func80 rfl rfl rfl (sc rfl (sc rfl sn)) (fun a F => ?_)
 have H := Sep.start hN
 refine x_seq ?_
 refine x_reg ?_
 refine o_assign F rfl rfl (fun a F => ?_)
 refine x_end ?_
 refine x_tn ?_
 refine x_seq ?_
 refine x_seq ?_
 refine x_reg ?_
 refine o_move F rfl rfl (fun a F => ?_)
 refine oL Tryz.underlying32 F rfl rfl A0 (fun a i11 F => ?_)
 refine o_move F rfl rfl (fun a F => ?_)
 refine x_end ?_
 refine x_tn ?_
 obtain ⟨o19, hR, hk20⟩ := thn_some hR
 refine x_cutQ (fun a w => o19 = .nx () ∧ Sk a 19 [] ∧ Sep [] B w0 w []) ?_ ?_
 ·
  refine x_blk ?_
  obtain ⟨fl23, hf24, hR⟩ := forL_gen hR
  refine x_loop (fun g a w => ∃ (k25 : Nat) (rest26 : List Atom), (k25 ≤ x0.length ∧ x0.drop k25 = rest26) ∧ rest26.length = g ∧ forL fl23 rest26 k25 () = some o19 ∧ Sk a 19 [(8, .int .i64 (k25 : Int)), (0, v0), (1, .func (.func g1) #[] lb1.toArray), (7, .int .i64 (x0.length : Int))] ∧ Sep [] B w0 w []) x0.length ?_ ?_
  ·
   exact ⟨0, x0, ⟨Nat.zero_le _, rfl⟩, rfl, hR, F.sub (sc rfl (sc rfl (sc rfl (sc rfl sn)))), H⟩
  intro g28 a w ⟨k25, rest26, hd29, hg30, hR, F, H⟩
  cases rest26 with
  | nil =>
   replace hR := forL_nil hR
   have hkk25 := drop_nil hd29.1 hd29.2
   have hlk25 := dec_no hkk25
   refine x_seq ?_
   refine x_reg ?_
   refine o_lss F rfl rfl rfl (fun a F => ?_)
   refine x_end ?_
   refine x_tn ?_
   refine x_seq ?_
   refine x_ifF F rfl hlk25 ?_
   refine x_exit ?_
   refine x_te ?_
   refine x_te ?_
   refine x_be ?_
   refine x_tn ?_
   exact ⟨(Option.some.inj hR).symm, F.sub sn, H⟩
  | cons x27 rest26 =>
   subst hg30
   replace hd29 := drop_cons hd29.2
   have hxk25 := ix_nat hd29.2.1
   obtain ⟨ck25, hR, hn22⟩ := forL_cons hR
   rw [hf24] at hR
   have hlk25 := dec_yes hd29.1
   refine x_seq ?_
   refine x_reg ?_
   refine o_lss F rfl rfl rfl (fun a F => ?_)
   refine x_end ?_
   refine x_tn ?_
   refine x_seq ?_
   refine x_ifT F rfl hlk25 ?_
   refine x_skip ?_
   refine x_tn ?_
   refine x_seq ?_
   have ikk25 := k64 (Nat.le_of_lt hd29.1) i11
   have ink25 := inc64 hd29.1 i11
   refine x_blk ?_
   refine x_seq ?_
   refine x_reg ?_
   refine o_move F rfl rfl (fun a F => ?_)
   refine o_assign F rfl rfl (fun a F => ?_)
   refine x_end ?_
   refine x_tn ?_
   refine x_seq ?_
   refine x_reg ?_
   refine o_move F rfl rfl (fun a F => ?_)
   refine o_move F rfl rfl (fun a F => ?_)
   refine o_move F rfl rfl (fun a F => ?_)
   refine oI Tryz.underlying32 Tryz.sizeOf46 F rfl rfl rfl A0 hxk25 (fun a p31 h32 F => ?_)
   refine olA Tryz.isAgg46 Tryz.sizeOf46 F rfl rfl H.sm h32 (fun a v33 h34 F => ?_)
   obtain ⟨z35, c36, hR⟩ := bnd_some hR
   refine oKV F rfl rfl hg1 rfl H (hp1 _ z35 c36 _ H.bl _ (H.a h34)) (fun a w H F => ?_)
   refine x_end ?_
   refine x_tn ?_
   refine x_if F rfl (fun hb37 => ?_) (fun hb37 => ?_)
   ·
    replace hR := ifT hb37 hR
    refine x_seq ?_
    refine x_reg ?_
    refine o_move F rfl rfl (fun a F => ?_)
    refine o_assign F rfl rfl (fun a F => ?_)
    refine x_end ?_
    refine x_tn ?_
    refine x_ret ?_
    refine x_br ?_
    refine x_tr ?_
    refine x_tr ?_
    replace hR := l_ret hR hn22
    refine x_br ?_
    refine x_tr ?_
    replace hR := j_ret hR hk20
    refine x_tr ?_
    refine x_res1 F rfl (rv_t F rfl) ?_
    obtain rfl := Option.some.inj hR
    exact ⟨⟨rfl, H.bl⟩, ikk25⟩
   replace hR := ifF hb37 hR
   refine x_skip ?_
   refine x_bn ?_
   refine x_tn ?_
   refine x_reg ?_
   refine o_inc F rfl rfl rfl ink25 (fun a F => ?_)
   refine o_move F rfl rfl (fun a F => ?_)
   refine x_end ?_
   refine x_tn ?_
   replace hR := l_go hR hn22
   exact ⟨_, Nat.lt_succ_self _, k25 + 1, rest26, ⟨hd29.1, hd29.2.2⟩, rfl, hR, F.sub (sc rfl (sc rfl (sc rfl (sc rfl sn)))), H⟩
 intro a w ⟨ho21, F, H⟩
 subst ho21
 have hR := then_nx hk20
 refine x_tn ?_
 refine x_seq ?_
 refine x_reg ?_
 refine o_assign F rfl rfl (fun a F => ?_)
 refine x_end ?_
 refine x_tn ?_
 refine x_ret ?_
 refine x_res1 F rfl (rv_t F rfl) ?_
 obtain rfl := Option.some.inj hR
 exact ⟨⟨rfl, H.bl⟩, (show I64 (-1) by decide)⟩

def slices_ContainsFunc_s_Atom_Atom (x0 : List Atom) (x1 : Atom → Option Bool) : Option Bool :=
 bnd (slices_IndexFunc_s_Atom_Atom x0 x1) fun z11 =>
 some ((decide (0 ≤ z11)))
set_option maxHeartbeats 1000000 in
theorem slices_ContainsFunc_s_Atom_Atom_c {B : Nat → Prop} {x0 : List Atom} {x1 : Atom → Option Bool} (r : Bool) (hR : slices_ContainsFunc_s_Atom_Atom x0 x1 = some r) {v0 : Value} {g1 : FuncId} {lb1 : List Value} (w0 : World) (hN : ∀ c, B c → c < w0.heap.size) (A0 : Bo B w0 (Sl 2 RAtom) v0 x0) (hg1 : ∀ args w, (callFunc g1 args).run Tryz.prog w = .ok (.enter g1 args) w) (hp1 : ∀ (a0 : Atom) (r : Bool), x1 a0 = some r → ∀ W, Below w0.heap.size w0 W → ∀ (u0 : Value), Bo (All W) W (Agg 2 RAtom) u0 a0 → Calls Tryz.prog g1 ([u0] ++ lb1 : List Value).toArray W (Says (.bool r) W)) : Calls Tryz.prog 59 #[v0, .func (.func g1) #[] lb1.toArray] w0 (Says (.bool r) w0) := by
 unfold slices_ContainsFunc_s_Atom_Atom at hR
 refine x_enter (L := [(0, v0), (1, .func (.func g1) #[] lb1.toArray)]) Tryz.func59 rfl rfl rfl (sc rfl (sc rfl sn)) (fun a F => ?_)
 have H := Sep.start hN
 refine x_seq ?_
 refine x_reg ?_
 refine o_assign F rfl rfl (fun a F => ?_)
 refine x_end ?_
 refine x_tn ?_
 refine x_seq ?_
 refine x_reg ?_
 refine o_move F rfl rfl (fun a F => ?_)
 refine o_move F rfl rfl (fun a F => ?_)
 obtain ⟨z11, c12, hR⟩ := bnd_some hR
 refine oKI F rfl Tryz.call80 rfl H (slices_IndexFunc_s_Atom_Atom_c z11 c12 _ aA (H.a A0) hg1 (fun a0 r h W l => hp1 a0 r h W (H.bl.trans (l.mono H.fr.size)))) (fun a w H iz11 F => ?_)
 refine o_geq F rfl rfl rfl (fun a F => ?_)
 refine o_assign F rfl rfl (fun a F => ?_)
 refine x_end ?_
 refine x_tn ?_
 refine x_ret ?_
 refine x_res1 F rfl (rv_t F rfl) ?_
 obtain rfl := Option.some.inj hR
 exact ⟨rfl, H.bl⟩

def impl_isWritten (x0 : Formula) : Option Bool :=
 thn (σ := Bool) (
  bnd (impl_isFrame (Formula.mk x0.free x0.vars x0.atoms)) fun z25 =>
  if z25 then  bnd (slices_ContainsFunc_s_Atom_Atom x0.atoms (fun a0 => impl_isWritten_1 a0 (Formula.mk x0.free x0.vars x0.atoms))) fun z28 =>
   some (.nx (!z28)) else  some (.nx false)) fun s24 =>
 some s24
set_option maxHeartbeats 1000000 in
theorem impl_isWritten_c {B : Nat → Prop} {x0 : Formula} (r : Bool) (hR : impl_isWritten x0 = some r) {v0 : Value} (w0 : World) (hN : ∀ c, B c → c < w0.heap.size) (A0 : Bo B w0 (Agg 3 RFormula) v0 x0) : Calls Tryz.prog 43 #[v0] w0 (Says (.bool r) w0) := by
 unfold impl_isWritten at hR
 refine x_enter (L := [(0, v0)]) Tryz.func43 rfl rfl rfl (sc rfl sn) (fun a F => ?_)
 have H := Sep.start hN
 refine x_seq ?_
 refine x_reg ?_
 obtain ⟨v13, rfl, i11, i12, h14⟩ := RFormula.o A0
 refine oX F rfl rfl rfl H (fun a w b15 H F => ?_)
 refine o_assign F rfl rfl (fun a F => ?_)
 refine x_end ?_
 refine x_tn ?_
 refine x_seq ?_
 obtain ⟨o21, hR, hk22⟩ := thn_some hR
 refine x_cutQ (fun a w => ∃ (s24 : Bool), o21 = .nx s24 ∧ Sk a 12 [(2, .bool s24)] ∧ Sep [] B w0 w []) ?_ ?_
 ·
  refine x_reg ?_
  refine oBA Tryz.isAgg34 Tryz.sizeOf34 F rfl rfl (H.b 0 rfl) rfl rfl (fun a F => ?_)
  obtain ⟨z25, c26, hR⟩ := bnd_some hR
  refine oK F rfl Tryz.call58 rfl H (impl_isFrame_c z25 c26 _ aA (RFormula.m i11 i12 (H.a h14))) (fun a w H F => ?_)
  refine o_move F rfl rfl (fun a F => ?_)
  rcases bcases z25 with hb27 | hb27
  ·
   replace hR := ifT hb27 hR
   have F := F.eq (t := 5) rfl (congrArg Value.bool hb27)
   refine o_bfield fa34_2 F rfl rfl rfl (fun a F => ?_)
   refine oB Tryz.isAgg32 F rfl rfl (H.b 0 rfl) rfl (fun a F => ?_)
   refine o_func F rfl rfl rfl (fun a F => ?_)
   obtain ⟨z28, c29, hR⟩ := bnd_some hR
   refine oK F rfl Tryz.call59 rfl H (slices_ContainsFunc_s_Atom_Atom_c z28 c29 _ aA (H.a h14) Tryz.call60 (fun a0 r h W l u0 f0 => impl_isWritten_1_c r h W aA f0 ((RFormula.b (H.g 0 rfl).bk i11 i12 (H.a h14)).w l))) (fun a w H F => ?_)
   refine o_not F rfl rfl (fun a F => ?_)
   refine o_pickt F rfl rfl rfl (fun a F => ?_)
   refine o_assign F rfl rfl (fun a F => ?_)
   refine x_end ?_
   refine x_tn ?_
   exact ⟨(!z28), (Option.some.inj hR).symm, F.sub (sc rfl sn), (H.s [] rfl rfl)⟩
  replace hR := ifF hb27 hR
  have F := F.eq (t := 5) rfl (congrArg Value.bool hb27)
  refine o_no F rfl rfl (fun a F => ?_)
  refine o_no F rfl rfl (fun a F => ?_)
  refine o_no F rfl rfl (fun a F => ?_)
  refine o_no F rfl rfl (fun a F => ?_)
  refine o_no F rfl rfl (fun a F => ?_)
  refine o_pickf F rfl rfl rfl (fun a F => ?_)
  refine o_assign F rfl rfl (fun a F => ?_)
  refine x_end ?_
  refine x_tn ?_
  exact ⟨false, (Option.some.inj hR).symm, F.sub (sc rfl sn), (H.s [] rfl rfl)⟩
 intro a w ⟨s24, ho23, F, H⟩
 subst ho23
 have hR := then_nx hk22
 refine x_tn ?_
 refine x_ret ?_
 refine x_res1 F rfl (rv_t F rfl) ?_
 obtain rfl := Option.some.inj hR
 exact ⟨rfl, H.bl⟩

def impl_digits (x0 : List Int) : Option ByteArray :=
 thn (σ := ByteArray) (
  forL (σ := ByteArray) (ρ := ByteArray) (fun (k33 : Nat) (x35 : Int) (s29 : ByteArray) =>
   bnd (impl_dec x35) fun z42 =>
   bnd (scat s29 z42) fun z46 =>
   some (.go z46)) x0 0 (bstr [])) fun s31 =>
 some s31
set_option maxHeartbeats 1000000 in
theorem impl_digits_c {B : Nat → Prop} {x0 : List Int} (r : ByteArray) (hR : impl_digits x0 = some r) {v0 : Value} (w0 : World) (hN : ∀ c, B c → c < w0.heap.size) (hG : Glo w0) (A0 : Bo B w0 (Sl 1 RInt) v0 x0) : Calls Tryz.prog 44 #[v0] w0 (Gv (fun v w' => v = .string r ∧ Sep [] B w0 w' [] ∧ r.size ≤ maxLen)) := by
 unfold impl_digits at hR
 refine x_enter (L := [(0, v0)]) Tryz.func44 rfl rfl rfl (sc rfl sn) (fun a F => ?_)
 have H := Sep.start hN
 refine x_seq ?_
 refine x_reg ?_
 refine o_assign F rfl rfl (fun a F => ?_)
 refine x_end ?_
 refine x_tn ?_
 refine x_seq ?_
 refine x_reg ?_
 refine o_assign F rfl rfl (fun a F => ?_)
 refine x_end ?_
 refine x_tn ?_
 refine x_seq ?_
 refine x_seq ?_
 refine x_reg ?_
 refine o_move F rfl rfl (fun a F => ?_)
 refine oL Tryz.underlying44 F rfl rfl A0 (fun a i11 F => ?_)
 refine o_move F rfl rfl (fun a F => ?_)
 refine x_end ?_
 refine x_tn ?_
 obtain ⟨o23, hR, hk24⟩ := thn_some hR
 refine x_cutQ (fun a w => ∃ (s31 : ByteArray), o23 = .nx s31 ∧ Sk a 18 [(3, .string s31)] ∧ Sep [] B w0 w [] ∧ s31.size ≤ maxLen) ?_ ?_
 ·
  refine x_blk ?_
  obtain ⟨fl27, hf28, hR⟩ := forL_gen hR
  refine x_loop (fun g a w => ∃ (k33 : Nat) (rest34 : List Int) (s29 : ByteArray), (k33 ≤ x0.length ∧ x0.drop k33 = rest34) ∧ rest34.length = g ∧ forL fl27 rest34 k33 s29 = some o23 ∧ Sk a 18 [(8, .int .i64 (k33 : Int)), (3, .string s29), (6, v0), (7, .int .i64 (x0.length : Int))] ∧ Sep [] B w0 w [] ∧ s29.size ≤ maxLen) x0.length ?_ ?_
  ·
   exact ⟨0, x0, (bstr []), ⟨Nat.zero_le _, rfl⟩, rfl, hR, F.sub (sc rfl (sc rfl (sc rfl (sc rfl sn)))), H, (by decide)⟩
  intro g36 a w ⟨k33, rest34, s29, hd37, hg38, hR, F, H, i30⟩
  cases rest34 with
  | nil =>
   replace hR := forL_nil hR
   have hkk33 := drop_nil hd37.1 hd37.2
   have hlk33 := dec_no hkk33
   refine x_seq ?_
   refine x_reg ?_
   refine o_lss F rfl rfl rfl (fun a F => ?_)
   refine x_end ?_
   refine x_tn ?_
   refine x_seq ?_
   refine x_ifF F rfl hlk33 ?_
   refine x_exit ?_
   refine x_te ?_
   refine x_te ?_
   refine x_be ?_
   refine x_tn ?_
   exact ⟨s29, (Option.some.inj hR).symm, F.sub (sc rfl sn), H, i30⟩
  | cons x35 rest34 =>
   subst hg38
   replace hd37 := drop_cons hd37.2
   have hxk33 := ix_nat hd37.2.1
   obtain ⟨ck33, hR, hn26⟩ := forL_cons hR
   rw [hf28] at hR
   have hlk33 := dec_yes hd37.1
   refine x_seq ?_
   refine x_reg ?_
   refine o_lss F rfl rfl rfl (fun a F => ?_)
   refine x_end ?_
   refine x_tn ?_
   refine x_seq ?_
   refine x_ifT F rfl hlk33 ?_
   refine x_skip ?_
   refine x_tn ?_
   refine x_seq ?_
   have ikk33 := k64 (Nat.le_of_lt hd37.1) i11
   have ink33 := inc64 hd37.1 i11
   refine x_blk ?_
   refine x_seq ?_
   refine x_reg ?_
   refine oI Tryz.underlying44 Tryz.sizeOf2 F rfl rfl rfl A0 hxk33 (fun a p39 h40 F => ?_)
   refine olI Tryz.isAgg2 F rfl rfl H.sm h40 (fun a i41 F => ?_)
   refine o_assign F rfl rfl (fun a F => ?_)
   refine x_end ?_
   refine x_tn ?_
   refine x_reg ?_
   refine o_move F rfl rfl (fun a F => ?_)
   refine o_move F rfl rfl (fun a F => ?_)
   obtain ⟨z42, c43, hR⟩ := bnd_some hR
   refine oG F rfl Tryz.call39 rfl (impl_dec_c z42 c43 _ aA (hG.go H.bl) i41) (fun a vv w ⟨hv45, S, i44⟩ F => ?_)
   subst vv
   have H := H.r0 S
   obtain ⟨z46, c47, hR⟩ := bnd_some hR
   refine o_scat F rfl rfl rfl c47 (fun a F => ?_)
   refine o_assign F rfl rfl (fun a F => ?_)
   refine x_end ?_
   refine x_bn ?_
   refine x_tn ?_
   refine x_reg ?_
   refine o_inc F rfl rfl rfl ink33 (fun a F => ?_)
   refine o_move F rfl rfl (fun a F => ?_)
   refine x_end ?_
   refine x_tn ?_
   replace hR := l_go hR hn26
   exact ⟨_, Nat.lt_succ_self _, k33 + 1, rest34, z46, ⟨hd37.1, hd37.2.2⟩, rfl, hR, F.sub (sc rfl (sc rfl (sc rfl (sc rfl sn)))), H, (scat_sz c47)⟩
 intro a w ⟨s31, ho25, F, H, i32⟩
 subst ho25
 have hR := then_nx hk24
 refine x_tn ?_
 refine x_seq ?_
 refine x_reg ?_
 refine o_move F rfl rfl (fun a F => ?_)
 refine o_assign F rfl rfl (fun a F => ?_)
 refine x_end ?_
 refine x_tn ?_
 refine x_ret ?_
 refine x_res1 F rfl (rv_t F rfl) ?_
 obtain rfl := Option.some.inj hR
 exact ⟨_, rfl, rfl, H, i32⟩

def impl_FormulaText (x0 : Formula) : Option ByteArray :=
 bnd (impl_isWritten (Formula.mk x0.free x0.vars x0.atoms)) fun z16 =>
 if (!z16) then
  some ((bstr []))
 else
  bnd (impl_dec x0.free) fun z19 =>
  bnd (impl_dec x0.vars) fun z23 =>
  thn (σ := (List ByteArray)) (
   forL (σ := (List ByteArray)) (ρ := ByteArray) (fun (k99 : Nat) (x101 : Atom) (s93 : (List ByteArray)) =>
    thn (σ := ByteArray) (
     if (x101.rel != (-1)) then
      bnd (impl_dec x101.rel) fun z126 =>
      bnd (scat (bstr [82]) z126) fun z130 =>
      some (.nx z130)
     else
      some (.nx (bstr [61]))) fun s123 =>
    bnd (scat s123 (bstr [58])) fun z132 =>
    bnd (impl_digits x101.args) fun z134 =>
    bnd (scat z132 z134) fun z138 =>
    bnd (ap s93 ([z138])) fun z142 =>
    some (.go z142)) x0.atoms 0 [(bstr [102, 111, 114, 109, 117, 108, 97]), z19, z23]) fun s96 =>
  bnd (strings_Join s96 (bstr [32])) fun z146 =>
  some z146
set_option maxHeartbeats 1000000 in
theorem impl_FormulaText_c {B : Nat → Prop} {x0 : Formula} (r : ByteArray) (hR : impl_FormulaText x0 = some r) {v0 : Value} (w0 : World) (hN : ∀ c, B c → c < w0.heap.size) (hG : Glo w0) (A0 : Bo B w0 (Agg 3 RFormula) v0 x0) : Calls Tryz.prog 25 #[v0] w0 (Gv (fun v w' => v = .string r ∧ Sep [] B w0 w' [] ∧ r.size ≤ maxLen)) := by
 unfold impl_FormulaText at hR
 refine x_enter (L := [(0, v0)]) Tryz.func25 rfl rfl rfl (sc rfl sn) (fun a F => ?_)
 have H := Sep.start hN
 refine x_seq ?_
 refine x_reg ?_
 obtain ⟨v13, rfl, i11, i12, h14⟩ := RFormula.o A0
 refine oX F rfl rfl rfl H (fun a w b15 H F => ?_)
 refine o_assign F rfl rfl (fun a F => ?_)
 refine x_end ?_
 refine x_tn ?_
 refine x_seq ?_
 refine x_seq ?_
 refine x_reg ?_
 refine oBA Tryz.isAgg34 Tryz.sizeOf34 F rfl rfl (H.b 0 rfl) rfl rfl (fun a F => ?_)
 obtain ⟨z16, c17, hR⟩ := bnd_some hR
 refine oK F rfl Tryz.call43 rfl H (impl_isWritten_c z16 c17 _ aA (RFormula.m i11 i12 (H.a h14))) (fun a w H F => ?_)
 refine o_not F rfl rfl (fun a F => ?_)
 refine x_end ?_
 refine x_tn ?_
 refine x_if F rfl (fun hb18 => ?_) (fun hb18 => ?_)
 ·
  replace hR := ifT hb18 hR
  refine x_seq ?_
  refine x_reg ?_
  refine o_assign F rfl rfl (fun a F => ?_)
  refine x_end ?_
  refine x_tn ?_
  refine x_ret ?_
  refine x_tr ?_
  refine x_res1 F rfl (rv_t F rfl) ?_
  obtain rfl := Option.some.inj hR
  exact ⟨_, rfl, rfl, (H.s [] rfl rfl), (by decide)⟩
 replace hR := ifF hb18 hR
 refine x_skip ?_
 refine x_tn ?_
 refine x_seq ?_
 obtain ⟨z19, c20, hR⟩ := bnd_some hR
 obtain ⟨z23, c24, hR⟩ := bnd_some hR
 obtain ⟨w34, rfl⟩ : ∃ x, x = w := ⟨_, rfl⟩
 obtain ⟨X29, N30, g31, e32, H, th33⟩ := H.fz
 have K35 := g31.bk
 refine xD H (by kernel_rfl) (fun w H => ?_)
 refine b_q 0 (by kernel_rfl) rfl (by kernel_rfl) (by kernel_rfl) (by kernel_rfl) (by kernel_rfl) ?_
 refine v_val F rfl (fun w l => r_bfield fa34_0 F rfl rfl) (fun a F => ?_)
 refine b_q 1 (by kernel_rfl) rfl (by kernel_rfl) (by kernel_rfl) (by kernel_rfl) (by kernel_rfl) ?_
 refine vB Tryz.isAgg2 F rfl rfl (K35.v H.sm) rfl (fun a F => ?_)
 refine b_q 3 (by kernel_rfl) rfl (by kernel_rfl) (by kernel_rfl) (by kernel_rfl) (by kernel_rfl) ?_
 refine v_val F rfl (fun w l => r_bfield fa34_1 F rfl rfl) (fun a F => ?_)
 refine b_q 4 (by kernel_rfl) rfl (by kernel_rfl) (by kernel_rfl) (by kernel_rfl) (by kernel_rfl) ?_
 refine vB Tryz.isAgg2 F rfl rfl (K35.v H.sm) rfl (fun a F => ?_)
 refine xE H 2 rfl (by kernel_rfl) ?_
 refine oG F rfl Tryz.call39 rfl (impl_dec_c z19 c20 _ aA (hG.go (th33 H (Ns.all trivial)).bl) i11) (fun a vv w ⟨hv37, S, i36⟩ F => ?_)
 subst vv
 have H := H.r0 S
 refine x_end ?_
 refine x_tn ?_
 refine ⟨⟨_, H⟩, ?_⟩
 refine xE H 5 rfl (by kernel_rfl) ?_
 refine oG F rfl Tryz.call39 rfl (impl_dec_c z23 c24 _ aA (hG.go (th33 H (Ns.all trivial)).bl) i12) (fun a vv w ⟨hv39, S, i38⟩ F => ?_)
 subst vv
 have H := H.r0 S
 refine x_end ?_
 refine x_tn ?_
 refine ⟨⟨_, H⟩, ?_⟩
 refine xE H 6 rfl (by kernel_rfl) ?_
 refine oRE Value.string _ litStr (fun _ => rfl) (xs := [.const (.string (bstr [102, 111, 114, 109, 117, 108, 97])), .tmp 12, .tmp 15]) (l := [(bstr [102, 111, 114, 109, 117, 108, 97]), z19, z23]) Tryz.underlying30 Tryz.sizeOf9 Tryz.zeroValue9 rfl F rfl rfl rfl rfl rfl rfl (by simp only [List.forall_mem_cons, List.not_mem_nil, false_implies, implies_true, and_true]; exact ⟨(by decide), i36, i38⟩) H (fun a w v40 H F => ?_)
 refine x_end ?_
 refine x_tn ?_
 refine ⟨⟨_, H⟩, ?_⟩
 refine b_q0 7 rfl (by kernel_rfl) (by kernel_rfl) (by kernel_rfl) ?_
 refine v_val F rfl (fun w l => r_assign F rfl) (fun a F => ?_)
 refine b_end (by kernel_rfl) ?_
 refine x_tn ?_
 refine x_seq ?_
 refine x_seq ?_
 refine x_reg ?_
 refine o_bfield fa34_2 F rfl rfl rfl (fun a F => ?_)
 refine oB Tryz.isAgg32 F rfl rfl (K35.o H.sm) rfl (fun a F => ?_)
 refine oL Tryz.underlying32 F rfl rfl (e32 h14) (fun a i42 F => ?_)
 refine o_move F rfl rfl (fun a F => ?_)
 refine x_end ?_
 refine x_tn ?_
 obtain ⟨o87, hR, hk88⟩ := thn_some hR
 refine x_cutQ (fun a w => ∃ (s96 : List ByteArray) (v98 : Value), o87 = .nx s96 ∧ Sk a 43 [(3, v98)] ∧ Sep X29 N30 w34 w [rl 1 RStr 9 v98 s96]) ?_ ?_
 ·
  refine x_blk ?_
  obtain ⟨fl91, hf92, hR⟩ := forL_gen hR
  refine x_loop (fun g a w => ∃ (k99 : Nat) (rest100 : List Atom) (s93 : List ByteArray) (v95 : Value), (k99 ≤ x0.atoms.length ∧ x0.atoms.drop k99 = rest100) ∧ rest100.length = g ∧ forL fl91 rest100 k99 s93 = some o87 ∧ Sk a 43 [(20, .int .i64 (k99 : Int)), (3, v95), (18, v13), (19, .int .i64 (x0.atoms.length : Int))] ∧ Sep X29 N30 w34 w [rl 1 RStr 9 v95 s93]) x0.atoms.length ?_ ?_
  ·
   exact ⟨0, x0.atoms, [(bstr [102, 111, 114, 109, 117, 108, 97]), z19, z23], v40, ⟨Nat.zero_le _, rfl⟩, rfl, hR, F.sub (sc rfl (sc rfl (sc rfl (sc rfl sn)))), H⟩
  intro g102 a w ⟨k99, rest100, s93, v95, hd103, hg104, hR, F, H⟩
  cases rest100 with
  | nil =>
   replace hR := forL_nil hR
   have hkk99 := drop_nil hd103.1 hd103.2
   have hlk99 := dec_no hkk99
   refine x_seq ?_
   refine x_reg ?_
   refine o_lss F rfl rfl rfl (fun a F => ?_)
   refine x_end ?_
   refine x_tn ?_
   refine x_seq ?_
   refine x_ifF F rfl hlk99 ?_
   refine x_exit ?_
   refine x_te ?_
   refine x_te ?_
   refine x_be ?_
   refine x_tn ?_
   exact ⟨s93, v95, (Option.some.inj hR).symm, F.sub (sc rfl sn), H⟩
  | cons x101 rest100 =>
   subst hg104
   replace hd103 := drop_cons hd103.2
   have hxk99 := ix_nat hd103.2.1
   obtain ⟨ck99, hR, hn90⟩ := forL_cons hR
   rw [hf92] at hR
   have hlk99 := dec_yes hd103.1
   refine x_seq ?_
   refine x_reg ?_
   refine o_lss F rfl rfl rfl (fun a F => ?_)
   refine x_end ?_
   refine x_tn ?_
   refine x_seq ?_
   refine x_ifT F rfl hlk99 ?_
   refine x_skip ?_
   refine x_tn ?_
   refine x_seq ?_
   have ikk99 := k64 (Nat.le_of_lt hd103.1) i42
   have ink99 := inc64 hd103.1 i42
   refine x_blk ?_
   refine x_seq ?_
   refine x_reg ?_
   refine oI Tryz.underlying32 Tryz.sizeOf46 F rfl rfl rfl (e32 h14) hxk99 (fun a p105 h106 F => ?_)
   refine olA Tryz.isAgg46 Tryz.sizeOf46 F rfl rfl H.sm h106 (fun a v107 h108 F => ?_)
   refine oA Tryz.zeroValue46 F rfl rfl H (fun a w b109 H F => ?_)
   obtain ⟨v111, rfl, i110, h112⟩ := RAtom.o h108
   refine oWA (vs := [.int .i64 x101.rel, v111]) Tryz.sizeOf46 F rfl rfl rfl H (oc rfl (oc (H.a h112).one on)) rfl rfl (fun w H => ?_)
   refine x_end ?_
   refine x_tn ?_
   refine x_seq ?_
   refine x_reg ?_
   refine o_assign F rfl rfl (fun a F => ?_)
   refine x_end ?_
   refine x_tn ?_
   refine x_seq ?_
   refine x_seq ?_
   refine x_reg ?_
   refine o_bfield fa46_0 F rfl rfl rfl (fun a F => ?_)
   refine oB Tryz.isAgg2 F rfl rfl (H.b 0 rfl) rfl (fun a F => ?_)
   refine o_neq F rfl rfl rfl (fun a F => ?_)
   refine x_end ?_
   refine x_tn ?_
   obtain ⟨o120, hR, hk121⟩ := thn_some hR
   refine x_cutQ (fun a w => ∃ (s123 : ByteArray), o120 = .nx s123 ∧ Sk a 43 [(3, v95), (5, .pointer (some ⟨b109, 0, none⟩)), (6, .string s123), (18, v13), (19, .int .i64 (x0.atoms.length : Int)), (20, .int .i64 (k99 : Int))] ∧ Sep X29 N30 w34 w [bx b109 [.int .i64 x101.rel, v111] 46, rl 1 RStr 9 v95 s93] ∧ s123.size ≤ maxLen) ?_ ?_
   ·
    refine x_if F rfl (fun hb125 => ?_) (fun hb125 => ?_)
    ·
     replace hR := ifT hb125 hR
     refine x_reg ?_
     refine o_bfield fa46_0 F rfl rfl rfl (fun a F => ?_)
     refine oB Tryz.isAgg2 F rfl rfl (H.b 0 rfl) rfl (fun a F => ?_)
     obtain ⟨z126, c127, hR⟩ := bnd_some hR
     refine oG F rfl Tryz.call39 rfl (impl_dec_c z126 c127 _ aA (hG.go (th33 H (Ns.all ⟨n0, ⟨n0, trivial⟩⟩)).bl) i110) (fun a vv w ⟨hv129, S, i128⟩ F => ?_)
     subst vv
     have H := H.r0 S
     obtain ⟨z130, c131, hR⟩ := bnd_some hR
     refine o_scat F rfl rfl rfl c131 (fun a F => ?_)
     refine o_assign F rfl rfl (fun a F => ?_)
     refine x_end ?_
     refine x_tn ?_
     exact ⟨z130, (Option.some.inj hR).symm, F.sub (sc rfl (sc rfl (sc rfl (sc rfl (sc rfl (sc rfl sn)))))), H, (scat_sz c131)⟩
    replace hR := ifF hb125 hR
    refine x_skip ?_
    refine x_tn ?_
    exact ⟨(bstr [61]), (Option.some.inj hR).symm, F.sub (sc rfl (sc rfl (sc rfl (sc rfl (sc rfl (sc rfl sn)))))), H, (by decide)⟩
   intro a w ⟨s123, ho122, F, H, i124⟩
   subst ho122
   have hR := then_nx hk121
   refine x_tn ?_
   refine x_reg ?_
   refine o_move F rfl rfl (fun a F => ?_)
   refine o_move F rfl rfl (fun a F => ?_)
   obtain ⟨z132, c133, hR⟩ := bnd_some hR
   refine o_scat F rfl rfl rfl c133 (fun a F => ?_)
   refine o_bfield fa46_1 F rfl rfl rfl (fun a F => ?_)
   refine oB Tryz.isAgg44 F rfl rfl (H.b 0 rfl) rfl (fun a F => ?_)
   obtain ⟨z134, c135, hR⟩ := bnd_some hR
   refine oG F rfl Tryz.call44 rfl (impl_digits_c z134 c135 _ aA (hG.go (th33 H (Ns.all ⟨n0, ⟨n0, trivial⟩⟩)).bl) (H.a h112)) (fun a vv w ⟨hv137, S, i136⟩ F => ?_)
   subst vv
   have H := H.r0 S
   obtain ⟨z138, c139, hR⟩ := bnd_some hR
   refine o_scat F rfl rfl rfl c139 (fun a F => ?_)
   refine oR1z (R := RStr) (y := z138) Tryz.underlying30 Tryz.sizeOf9 Tryz.zeroValue9 rfl rfl F rfl rfl H (Eo.str (scat_sz c139)) (fun a w v140 H F => ?_)
   obtain ⟨z142, c143, hR⟩ := bnd_some hR
   refine oPL (sz := 1) (R := RStr) (z := (.string ByteArray.empty)) (bytes := 16) Tryz.underlying30 (by kernel_rfl) rfl rfl F rfl rfl rfl (H.s [2, 0, 1] rfl rfl) c143 (fun a w v144 H F => ?_)
   refine o_assign F rfl rfl (fun a F => ?_)
   refine x_end ?_
   refine x_bn ?_
   refine x_tn ?_
   refine x_reg ?_
   refine o_inc F rfl rfl rfl ink99 (fun a F => ?_)
   refine o_move F rfl rfl (fun a F => ?_)
   refine x_end ?_
   refine x_tn ?_
   replace hR := l_go hR hn90
   exact ⟨_, Nat.lt_succ_self _, k99 + 1, rest100, z142, v144, ⟨hd103.1, hd103.2.2⟩, rfl, hR, F.sub (sc rfl (sc rfl (sc rfl (sc rfl sn)))), (H.s [0] rfl rfl)⟩
 intro a w ⟨s96, v98, ho89, F, H⟩
 subst ho89
 have hR := then_nx hk88
 refine x_tn ?_
 refine x_seq ?_
 refine x_reg ?_
 refine o_move F rfl rfl (fun a F => ?_)
 obtain ⟨z146, c147, hR⟩ := bnd_some hR
 refine oG F rfl Tryz.call45 rfl (strings_Join_s z146 c147 _ aA (H.l 0 rfl) (by decide)) (fun a vv w ⟨hv149, S, i148⟩ F => ?_)
 subst vv
 have H := H.r0 S
 refine o_assign F rfl rfl (fun a F => ?_)
 refine x_end ?_
 refine x_tn ?_
 refine x_ret ?_
 have H := (th33 H (Ns.all ⟨n0, trivial⟩))
 refine x_res1 F rfl (rv_t F rfl) ?_
 obtain rfl := Option.some.inj hR
 exact ⟨_, rfl, rfl, (H.s [] rfl rfl), i148⟩

def impl_ReadFormula (x0 : ByteArray) : Option (Formula × Int) :=
 if (decide (20000 < (x0.size : Int))) then
  some ((Formula.mk 0 0 ([])), 2)
 else
  bnd (strings_Split x0 (bstr [32])) fun z14 =>
  if (decide ((z14.length : Int) < 3)) then
   some ((Formula.mk 0 0 ([])), 5)
  else
   bnd (ix z14 1) fun z22 =>
   bnd (ix z14 2) fun z27 =>
   bnd (impl_readNumber z22) fun z32 =>
   bnd (impl_readNumber z27) fun z34 =>
   bnd (sl z14 3 (z14.length : Int)) fun z69 =>
   thn (σ := (List Atom)) (
    forL (σ := (List Atom)) (ρ := Formula × Int) (fun (k183 : Nat) (x185 : ByteArray) (s177 : (List Atom)) =>
     bnd (impl_readAtom x185) fun z192 =>
     bnd (ap s177 ([(Atom.mk z192.rel z192.args)])) fun z201 =>
     some (.go z201)) z69 0 []) fun s180 =>
   bnd (impl_FormulaText (Formula.mk z32 z34 s180)) fun z236 =>
   if (!sEq z236 x0) then
    some ((Formula.mk 0 0 ([])), 5)
   else
    some ((Formula.mk z32 z34 s180), 0)
set_option maxHeartbeats 1000000 in
theorem impl_ReadFormula_c {B : Nat → Prop} {x0 : ByteArray} (r : Formula × Int) (hR : impl_ReadFormula x0 = some r)  (w0 : World) (hN : ∀ c, B c → c < w0.heap.size) (hG : GloE w0) (hx0 : x0.size ≤ maxLen) : Calls Tryz.prog 13 #[.string x0] w0 (Gv (fun v w' => ∃ (v1' : Value), v = .tuple #[.agg #[.int .i64 r.1.free, .int .i64 r.1.vars, v1'], .int .i64 r.2] ∧ Sep [] B w0 w' [rl 2 RAtom 46 v1' r.1.atoms] ∧ I64 r.1.free ∧ I64 r.1.vars ∧ I64 r.2)) := by
 unfold impl_ReadFormula at hR
 refine x_enter (L := [(0, .string x0)]) Tryz.func13 rfl rfl rfl (sc rfl sn) (fun a F => ?_)
 have H := Sep.start hN
 refine x_seq ?_
 refine x_reg ?_
 refine oA Tryz.zeroValue34 F rfl rfl H (fun a w b11 H F => ?_)
 refine o_assign F rfl rfl (fun a F => ?_)
 refine x_end ?_
 refine x_tn ?_
 refine x_seq ?_
 refine x_seq ?_
 refine x_reg ?_
 refine o_move F rfl rfl (fun a F => ?_)
 refine o_lenStr Tryz.underlying9 F rfl rfl (fun a F => ?_)
 refine o_gtr F rfl rfl rfl (fun a F => ?_)
 refine x_end ?_
 refine x_tn ?_
 refine x_if F rfl (fun hb12 => ?_) (fun hb12 => ?_)
 ·
  replace hR := ifT hb12 hR
  refine x_seq ?_
  refine x_reg ?_
  refine o_build Tryz.underlying34 Tryz.zeroValue34 (fun w => by simp [Tryz.sizeOf2, Tryz.sizeOf32]; rfl) F rfl rfl rfl rfl rfl on rfl rfl (fun a F => ?_)
  refine oWA (vs := [.int .i64 0, .int .i64 0, (.slice none 0 0)]) Tryz.sizeOf34 F rfl rfl rfl H (oc rfl (oc rfl (oc rfl on))) rfl rfl (fun w H => ?_)
  refine o_assign F rfl rfl (fun a F => ?_)
  refine x_end ?_
  refine x_tn ?_
  refine x_ret ?_
  refine x_tr ?_
  refine x_res2 F rfl (rv_cA (arr := #[.int .i64 0, .int .i64 0, (.slice none 0 0)]) F Tryz.isAgg34 Tryz.sizeOf34 rfl (H.b 0 rfl)) (rv_t F rfl) ?_
  obtain rfl := Option.some.inj hR
  exact ⟨_, rfl, (.slice none 0 0), rfl, ((H.nl 2 RAtom 46).s [0] rfl rfl), (show I64 0 by decide), (show I64 0 by decide), (show I64 (2) by decide)⟩
 replace hR := ifF hb12 hR
 refine x_skip ?_
 refine x_tn ?_
 refine x_seq ?_
 refine x_reg ?_
 refine o_move F rfl rfl (fun a F => ?_)
 obtain ⟨z14, c15, hR⟩ := bnd_some hR
 refine oG F rfl Tryz.call11 rfl (strings_Split_s z14 c15 _ aA (hG.go H.bl).toGlo hx0 (by decide)) (fun a vv w ⟨v16, hv18, S⟩ F => ?_)
 subst vv
 have H := H.r1 S n0
 refine o_assign F rfl rfl (fun a F => ?_)
 refine x_end ?_
 refine x_tn ?_
 refine x_seq ?_
 refine x_seq ?_
 refine x_reg ?_
 refine o_move F rfl rfl (fun a F => ?_)
 refine oL Tryz.underlying30 F rfl rfl (H.l 0 rfl) (fun a i19 F => ?_)
 refine o_lss F rfl rfl rfl (fun a F => ?_)
 refine x_end ?_
 refine x_tn ?_
 refine x_if F rfl (fun hb20 => ?_) (fun hb20 => ?_)
 ·
  replace hR := ifT hb20 hR
  refine x_seq ?_
  refine x_reg ?_
  refine o_build Tryz.underlying34 Tryz.zeroValue34 (fun w => by simp [Tryz.sizeOf2, Tryz.sizeOf32]; rfl) F rfl rfl rfl rfl rfl on rfl rfl (fun a F => ?_)
  refine oWA (vs := [.int .i64 0, .int .i64 0, (.slice none 0 0)]) Tryz.sizeOf34 F rfl rfl rfl (H.s [1, 0] rfl rfl) (oc rfl (oc rfl (oc rfl on))) rfl rfl (fun w H => ?_)
  refine o_assign F rfl rfl (fun a F => ?_)
  refine x_end ?_
  refine x_tn ?_
  refine x_ret ?_
  refine x_tr ?_
  refine x_res2 F rfl (rv_cA (arr := #[.int .i64 0, .int .i64 0, (.slice none 0 0)]) F Tryz.isAgg34 Tryz.sizeOf34 rfl (H.b 0 rfl)) (rv_t F rfl) ?_
  obtain rfl := Option.some.inj hR
  exact ⟨_, rfl, (.slice none 0 0), rfl, ((H.nl 2 RAtom 46).s [0] rfl rfl), (show I64 0 by decide), (show I64 0 by decide), (show I64 (5) by decide)⟩
 replace hR := ifF hb20 hR
 refine x_skip ?_
 refine x_tn ?_
 refine x_seq ?_
 obtain ⟨z22, c23, hR⟩ := bnd_some hR
 obtain ⟨z27, c28, hR⟩ := bnd_some hR
 obtain ⟨z32, c33, hR⟩ := bnd_some hR
 obtain ⟨z34, c35, hR⟩ := bnd_some hR
 obtain ⟨w42, rfl⟩ : ∃ x, x = w := ⟨_, rfl⟩
 obtain ⟨X37, N38, g39, e40, H, th41⟩ := H.fz
 have h43 := g39.ld
 refine xD H (by kernel_rfl) (fun w H => ?_)
 refine dp (fun G => ∀ (b63 : Nat) (a : Act) (w : World), Sk a 48 [(0, .string x0), (2, .pointer (some ⟨b11, 0, none⟩)), (4, v16), (5, .pointer (some ⟨b63, 0, none⟩)), (26, (.agg #[.int .i64 z32, .int .i64 z34, (.slice none 0 0)]))] → Sep X37 N38 w42 w [bx b63 [.int .i64 0, .int .i64 0, (.slice none 0 0)] 34, bx b11 [.int .i64 0, .int .i64 0, (.slice none 0 0)] 34] → I64 0 → I64 0 → I64 0 → I64 0 → I64 z32 → I64 z34 → ∀ ls, ls = #[true, true, true, true, true, true, true, true, true, true, false] → G 1 ls a w) ?_ (fun H68 => ?_)
 ·
  intro b63 a w F H i61 i62 i64 i65 i66 i67 ls hls
  subst hls
  refine xE H 10 rfl (by kernel_rfl) ?_
  refine oWA (vs := [.int .i64 z32, .int .i64 z34, (.slice none 0 0)]) Tryz.sizeOf34 F rfl rfl rfl H (oc rfl (oc rfl (oc rfl on))) rfl rfl (fun w H => ?_)
  refine x_end ?_
  refine x_tn ?_
  refine ⟨⟨_, H⟩, ?_⟩
  refine b_end (by kernel_rfl) ?_
  refine x_tn ?_
  refine x_seq ?_
  refine x_seq ?_
  refine x_reg ?_
  refine o_move F rfl rfl (fun a F => ?_)
  obtain ⟨z69, c70, hR⟩ := bnd_some hR
  refine oC Tryz.underlying30 Tryz.sizeOf9 F rfl rfl rfl rfl h43 c70 (fun a v71 h72 F => ?_)
  refine oL Tryz.underlying30 F rfl rfl h72 (fun a i73 F => ?_)
  refine o_move F rfl rfl (fun a F => ?_)
  refine x_end ?_
  refine x_tn ?_
  obtain ⟨o171, hR, hk172⟩ := thn_some hR
  refine x_cutQ (fun a w => ∃ (s180 : List Atom) (v182 : Value), o171 = .nx s180 ∧ Sk a 48 [(0, .string x0), (2, .pointer (some ⟨b11, 0, none⟩)), (5, .pointer (some ⟨b63, 0, none⟩))] ∧ Sep X37 N38 w42 w [rl 2 RAtom 46 v182 s180, bx b63 [.int .i64 z32, .int .i64 z34, v182] 34, bx b11 [.int .i64 0, .int .i64 0, (.slice none 0 0)] 34]) ?_ ?_
  ·
   refine x_blk ?_
   obtain ⟨fl175, hf176, hR⟩ := forL_gen hR
   refine x_loop (fun g a w => ∃ (k183 : Nat) (rest184 : List ByteArray) (s177 : List Atom) (v179 : Value), (k183 ≤ z69.length ∧ z69.drop k183 = rest184) ∧ rest184.length = g ∧ forL fl175 rest184 k183 s177 = some o171 ∧ Sk a 48 [(30, .int .i64 (k183 : Int)), (0, .string x0), (2, .pointer (some ⟨b11, 0, none⟩)), (5, .pointer (some ⟨b63, 0, none⟩)), (28, v71), (29, .int .i64 (z69.length : Int))] ∧ Sep X37 N38 w42 w [rl 2 RAtom 46 v179 s177, bx b63 [.int .i64 z32, .int .i64 z34, v179] 34, bx b11 [.int .i64 0, .int .i64 0, (.slice none 0 0)] 34]) z69.length ?_ ?_
   ·
    exact ⟨0, z69, [], (.slice none 0 0), ⟨Nat.zero_le _, rfl⟩, rfl, hR, F.sub (sc rfl (sc rfl (sc rfl (sc rfl (sc rfl (sc rfl sn)))))), (H.nl 2 RAtom 46)⟩
   intro g186 a w ⟨k183, rest184, s177, v179, hd187, hg188, hR, F, H⟩
   cases rest184 with
   | nil =>
    replace hR := forL_nil hR
    have hkk183 := drop_nil hd187.1 hd187.2
    have hlk183 := dec_no hkk183
    refine x_seq ?_
    refine x_reg ?_
    refine o_lss F rfl rfl rfl (fun a F => ?_)
    refine x_end ?_
    refine x_tn ?_
    refine x_seq ?_
    refine x_ifF F rfl hlk183 ?_
    refine x_exit ?_
    refine x_te ?_
    refine x_te ?_
    refine x_be ?_
    refine x_tn ?_
    exact ⟨s177, v179, (Option.some.inj hR).symm, F.sub (sc rfl (sc rfl (sc rfl sn))), H⟩
   | cons x185 rest184 =>
    subst hg188
    replace hd187 := drop_cons hd187.2
    have hxk183 := ix_nat hd187.2.1
    obtain ⟨ck183, hR, hn174⟩ := forL_cons hR
    rw [hf176] at hR
    have hlk183 := dec_yes hd187.1
    refine x_seq ?_
    refine x_reg ?_
    refine o_lss F rfl rfl rfl (fun a F => ?_)
    refine x_end ?_
    refine x_tn ?_
    refine x_seq ?_
    refine x_ifT F rfl hlk183 ?_
    refine x_skip ?_
    refine x_tn ?_
    refine x_seq ?_
    have ikk183 := k64 (Nat.le_of_lt hd187.1) i73
    have ink183 := inc64 hd187.1 i73
    refine x_blk ?_
    refine x_seq ?_
    refine x_reg ?_
    refine oI Tryz.underlying30 Tryz.sizeOf9 F rfl rfl rfl h72 hxk183 (fun a p189 h190 F => ?_)
    refine olT Tryz.isAgg9 F rfl rfl H.sm h190 (fun a i191 F => ?_)
    refine o_assign F rfl rfl (fun a F => ?_)
    refine x_end ?_
    refine x_tn ?_
    obtain ⟨z192, c193, hR⟩ := bnd_some hR
    obtain ⟨z201, c202, hR⟩ := bnd_some hR
    refine xD H (by kernel_rfl) (fun w H => ?_)
    refine dp (fun G => ∀ (v230 : Value) (a : Act) (w : World), Sk a 48 [(0, .string x0), (2, .pointer (some ⟨b11, 0, none⟩)), (5, .pointer (some ⟨b63, 0, none⟩)), (28, v71), (29, .int .i64 (z69.length : Int)), (30, .int .i64 (k183 : Int)), (35, v179), (38, v230)] → Sep X37 N38 w42 w [rl 2 RAtom 46 v230 ([(Atom.mk z192.rel z192.args)]), rl 2 RAtom 46 v179 s177, bx b63 [.int .i64 z32, .int .i64 z34, v179] 34, bx b11 [.int .i64 0, .int .i64 0, (.slice none 0 0)] 34] → ∀ ls, ls = #[true, true, true, true, true, false, false, false] → G 3 ls a w) ?_ (fun H232 => ?_)
    ·
     intro v230 a w F H ls hls
     subst hls
     refine xE H 5 rfl (by kernel_rfl) ?_
     refine oPL (sz := 2) (R := RAtom) (z := (.agg #[.int .i64 0, (.slice none 0 0)])) (bytes := 32) Tryz.underlying32 (by kernel_rfl) rfl rfl F rfl rfl rfl (H.s [1, 0, 2, 3] rfl rfl) c202 (fun a w v233 H F => ?_)
     refine x_end ?_
     refine x_tn ?_
     refine ⟨⟨_, H⟩, ?_⟩
     refine b_q 6 (by kernel_rfl) rfl (by kernel_rfl) (by kernel_rfl) (by kernel_rfl) (by kernel_rfl) ?_
     refine v_val F rfl (fun w l => r_bfield fa34_2 F rfl rfl) (fun a F => ?_)
     refine xE H 7 rfl (by kernel_rfl) ?_
     refine oW Tryz.sizeOf32 F rfl rfl rfl (H.s [1, 0, 2] rfl rfl) ((H.s [1, 0, 2] rfl rfl).l 1 rfl).one rfl rfl (fun w H => ?_)
     refine x_end ?_
     refine x_tn ?_
     refine ⟨⟨_, H⟩, ?_⟩
     refine b_end (by kernel_rfl) ?_
     refine x_bn ?_
     refine x_tn ?_
     refine x_reg ?_
     refine o_inc F rfl rfl rfl ink183 (fun a F => ?_)
     refine o_move F rfl rfl (fun a F => ?_)
     refine x_end ?_
     refine x_tn ?_
     replace hR := l_go hR hn174
     exact ⟨_, Nat.lt_succ_self _, k183 + 1, rest184, z201, v233, ⟨hd187.1, hd187.2.2⟩, rfl, hR, F.sub (sc rfl (sc rfl (sc rfl (sc rfl (sc rfl (sc rfl sn)))))), (H.s [1, 0, 2] rfl rfl)⟩
    refine dp (fun G => ∀ (v224 : Value) (a : Act) (w : World), Sk a 48 [(0, .string x0), (2, .pointer (some ⟨b11, 0, none⟩)), (5, .pointer (some ⟨b63, 0, none⟩)), (28, v71), (29, .int .i64 (z69.length : Int)), (30, .int .i64 (k183 : Int)), (35, v179), (37, (.agg #[.int .i64 z192.rel, v224]))] → Sep X37 N38 w42 w [rl 1 RInt 2 v224 z192.args, rl 2 RAtom 46 v179 s177, bx b63 [.int .i64 z32, .int .i64 z34, v179] 34, bx b11 [.int .i64 0, .int .i64 0, (.slice none 0 0)] 34] → I64 z192.rel → ∀ ls, ls = #[true, true, true, true, false, false, false, false] → G 4 ls a w) ?_ (fun H226 => ?_)
    ·
     intro v224 a w F H i223 ls hls
     subst hls
     refine xE H 4 rfl (by kernel_rfl) ?_
     have H := (RAtom.w i223 H)
     refine oR1L (R := RAtom) (y := (Atom.mk z192.rel z192.args)) Tryz.underlying32 Tryz.sizeOf46 Tryz.zeroValue46 rfl rfl F rfl rfl H El.agg (fun a w v227 H F => ?_)
     refine x_end ?_
     refine x_tn ?_
     refine ⟨⟨_, H⟩, ?_⟩
     exact H232 v227 _ _ (F.sub (sc rfl (sc rfl (sc rfl (sc rfl (sc rfl (sc rfl (sc rfl (sc rfl sn))))))))) H _ (by kernel_rfl)
    refine b_q 0 (by kernel_rfl) rfl (by kernel_rfl) (by kernel_rfl) (by kernel_rfl) (by kernel_rfl) ?_
    refine v_val F rfl (fun w l => r_bfield fa34_2 F rfl rfl) (fun a F => ?_)
    refine b_q0 2 rfl (by kernel_rfl) (by kernel_rfl) (by kernel_rfl) ?_
    refine v_val F rfl (fun w l => r_move F rfl) (fun a F => ?_)
    refine b_es [1, 3] (by kernel_rfl) (by simp) ⟨⟨_, rfl, ?_⟩, ⟨_, rfl, ?_⟩, trivial⟩
    ·
     refine xEs H ?_
     refine oB Tryz.isAgg32 F rfl rfl (H.b 1 rfl) rfl (fun a F => ?_)
     refine x_end ?_
     refine x_tn ?_
     refine ⟨⟨_, H⟩, ?_⟩
     refine xE H 3 rfl (by kernel_rfl) ?_
     refine oG F rfl Tryz.call24 rfl (impl_readAtom_c z192 c193 _ aA (hG.go (th41 H (Ns.all ⟨n0, ⟨n0, ⟨n0, trivial⟩⟩⟩)).bl) i191) (fun a vv w ⟨v213, hv215, S, i212⟩ F => ?_)
     subst vv
     have H := H.r1 S n0
     refine x_end ?_
     refine x_tn ?_
     refine ⟨⟨_, H⟩, ?_⟩
     exact H226 v213 _ _ (F.sub (sc rfl (sc rfl (sc rfl (sc rfl (sc rfl (sc rfl (sc rfl (sc rfl sn))))))))) H i212 _ (by kernel_rfl)
    refine xEs H ?_
    refine oG F rfl Tryz.call24 rfl (impl_readAtom_c z192 c193 _ aA (hG.go (th41 H (Ns.all ⟨n0, ⟨n0, ⟨n0, trivial⟩⟩⟩)).bl) i191) (fun a vv w ⟨v217, hv219, S, i216⟩ F => ?_)
    subst vv
    have H := H.r1 S n0
    refine x_end ?_
    refine x_tn ?_
    refine ⟨⟨_, H⟩, ?_⟩
    refine b_es [1, 4] (by kernel_rfl) (by simp) ⟨⟨_, rfl, ?_⟩, ⟨_, rfl, ?_⟩, trivial⟩
    ·
     refine xEs H ?_
     refine oB Tryz.isAgg32 F rfl rfl (H.b 2 rfl) rfl (fun a F => ?_)
     refine x_end ?_
     refine x_tn ?_
     refine ⟨⟨_, H⟩, ?_⟩
     exact H226 v217 _ _ (F.sub (sc rfl (sc rfl (sc rfl (sc rfl (sc rfl (sc rfl (sc rfl (sc rfl sn))))))))) H i216 _ (by kernel_rfl)
    refine xEs H ?_
    have H := (RAtom.w i216 H)
    refine oR1L (R := RAtom) (y := (Atom.mk z192.rel z192.args)) Tryz.underlying32 Tryz.sizeOf46 Tryz.zeroValue46 rfl rfl F rfl rfl H El.agg (fun a w v220 H F => ?_)
    refine x_end ?_
    refine x_tn ?_
    refine ⟨⟨_, H⟩, ?_⟩
    refine xE H 1 rfl (by kernel_rfl) ?_
    refine oB Tryz.isAgg32 F rfl rfl (H.b 2 rfl) rfl (fun a F => ?_)
    refine x_end ?_
    refine x_tn ?_
    refine ⟨⟨_, H⟩, ?_⟩
    exact H232 v220 _ _ (F.sub (sc rfl (sc rfl (sc rfl (sc rfl (sc rfl (sc rfl (sc rfl (sc rfl sn))))))))) H _ (by kernel_rfl)
  intro a w ⟨s180, v182, ho173, F, H⟩
  subst ho173
  have hR := then_nx hk172
  refine x_tn ?_
  refine x_seq ?_
  refine x_seq ?_
  refine x_reg ?_
  refine oBA Tryz.isAgg34 Tryz.sizeOf34 F rfl rfl (H.b 1 rfl) rfl rfl (fun a F => ?_)
  obtain ⟨z236, c237, hR⟩ := bnd_some hR
  refine oG F rfl Tryz.call25 rfl (impl_FormulaText_c z236 c237 _ aA (hG.go (th41 H (Ns.all ⟨n0, ⟨n0, ⟨n0, trivial⟩⟩⟩)).bl).toGlo (RFormula.m i66 i67 (H.l 0 rfl))) (fun a vv w ⟨hv239, S, i238⟩ F => ?_)
  subst vv
  have H := H.r0 S
  refine o_move F rfl rfl (fun a F => ?_)
  refine o_sneq F rfl rfl rfl (fun a F => ?_)
  refine x_end ?_
  refine x_tn ?_
  refine x_if F rfl (fun hb240 => ?_) (fun hb240 => ?_)
  ·
   replace hR := ifT hb240 hR
   refine x_seq ?_
   refine x_reg ?_
   refine o_build Tryz.underlying34 Tryz.zeroValue34 (fun w => by simp [Tryz.sizeOf2, Tryz.sizeOf32]; rfl) F rfl rfl rfl rfl rfl on rfl rfl (fun a F => ?_)
   refine oWA (vs := [.int .i64 0, .int .i64 0, (.slice none 0 0)]) Tryz.sizeOf34 F rfl rfl rfl (H.s [2, 0, 1] rfl rfl) (oc rfl (oc rfl (oc rfl on))) rfl rfl (fun w H => ?_)
   refine o_assign F rfl rfl (fun a F => ?_)
   refine x_end ?_
   refine x_tn ?_
   refine x_ret ?_
   refine x_tr ?_
   have H := (th41 H (Ns.all ⟨n0, ⟨n0, ⟨n0, trivial⟩⟩⟩))
   refine x_res2 F rfl (rv_cA (arr := #[.int .i64 0, .int .i64 0, (.slice none 0 0)]) F Tryz.isAgg34 Tryz.sizeOf34 rfl (H.b 1 rfl)) (rv_t F rfl) ?_
   obtain rfl := Option.some.inj hR
   exact ⟨_, rfl, (.slice none 0 0), rfl, ((H.nl 2 RAtom 46).s [0] rfl rfl), (show I64 0 by decide), (show I64 0 by decide), (show I64 (5) by decide)⟩
  replace hR := ifF hb240 hR
  refine x_skip ?_
  refine x_tn ?_
  refine x_seq ?_
  refine x_reg ?_
  refine oBA Tryz.isAgg34 Tryz.sizeOf34 F rfl rfl (H.b 1 rfl) rfl rfl (fun a F => ?_)
  refine oWA (vs := [.int .i64 z32, .int .i64 z34, v182]) Tryz.sizeOf34 F rfl rfl rfl (H.s [2, 0, 1] rfl rfl) (oc rfl (oc rfl (oc ((H.s [2, 0, 1] rfl rfl).l 1 rfl).one on))) rfl rfl (fun w H => ?_)
  refine o_assign F rfl rfl (fun a F => ?_)
  refine x_end ?_
  refine x_tn ?_
  refine x_ret ?_
  have H := (th41 H (Ns.all ⟨n0, ⟨n0, ⟨n0, trivial⟩⟩⟩))
  refine x_res2 F rfl (rv_cA (arr := #[.int .i64 z32, .int .i64 z34, v182]) F Tryz.isAgg34 Tryz.sizeOf34 rfl (H.b 1 rfl)) (rv_t F rfl) ?_
  obtain rfl := Option.some.inj hR
  exact ⟨_, rfl, v182, rfl, (H.s [2] rfl rfl), i66, i67, (show I64 (0) by decide)⟩
 refine dp (fun G => ∀ (b55 : Nat) (a : Act) (w : World), Sk a 48 [(0, .string x0), (2, .pointer (some ⟨b11, 0, none⟩)), (4, v16), (5, .pointer (some ⟨b55, 0, none⟩)), (21, .int .i64 z32), (24, .string z27)] → Sep X37 N38 w42 w [bx b55 [.int .i64 0, .int .i64 0, (.slice none 0 0)] 34, bx b11 [.int .i64 0, .int .i64 0, (.slice none 0 0)] 34] → I64 0 → I64 0 → I64 0 → I64 0 → I64 z32 → z27.size ≤ maxLen → ∀ ls, ls = #[true, true, true, true, true, true, true, false, false, true, false] → G 3 ls a w) ?_ (fun H60 => ?_)
 ·
  intro b55 a w F H i53 i54 i56 i57 i58 i59 ls hls
  subst hls
  refine xE H 7 rfl (by kernel_rfl) ?_
  refine oKI F rfl Tryz.call23 rfl H (impl_readNumber_c z34 c35 _ aA (hG.go (th41 H (Ns.all ⟨n0, ⟨n0, trivial⟩⟩)).bl) i59) (fun a w H iz34 F => ?_)
  refine x_end ?_
  refine x_tn ?_
  refine ⟨⟨_, H⟩, ?_⟩
  refine b_q 8 (by kernel_rfl) rfl (by kernel_rfl) (by kernel_rfl) (by kernel_rfl) (by kernel_rfl) ?_
  refine v_val F rfl (fun w l => r_build Tryz.underlying34 Tryz.zeroValue34 (fun w => by simp [Tryz.sizeOf2, Tryz.sizeOf32]; rfl) F rfl rfl rfl rfl (oc rfl (oc rfl on)) rfl rfl) (fun a F => ?_)
  exact H68 b55 _ _ (F.sub (sc rfl (sc rfl (sc rfl (sc rfl (sc rfl sn)))))) H i53 i54 i56 i57 i58 iz34 _ (by kernel_rfl)
 refine b_q0 0 rfl (by kernel_rfl) (by kernel_rfl) (by kernel_rfl) ?_
 refine v_val F rfl (fun w l => r_move F rfl) (fun a F => ?_)
 refine b_q 1 (by kernel_rfl) rfl (by kernel_rfl) (by kernel_rfl) (by kernel_rfl) (by kernel_rfl) ?_
 refine vI Tryz.underlying30 Tryz.sizeOf9 F rfl rfl rfl h43 c23 (fun a p44 h45 F => ?_)
 refine b_q 2 (by kernel_rfl) rfl (by kernel_rfl) (by kernel_rfl) (by kernel_rfl) (by kernel_rfl) ?_
 refine vlT Tryz.isAgg9 F rfl rfl H.v h45 (fun a i46 F => ?_)
 refine b_q0 4 rfl (by kernel_rfl) (by kernel_rfl) (by kernel_rfl) ?_
 refine v_val F rfl (fun w l => r_move F rfl) (fun a F => ?_)
 refine b_q 5 (by kernel_rfl) rfl (by kernel_rfl) (by kernel_rfl) (by kernel_rfl) (by kernel_rfl) ?_
 refine vI Tryz.underlying30 Tryz.sizeOf9 F rfl rfl rfl h43 c28 (fun a p47 h48 F => ?_)
 refine b_q 6 (by kernel_rfl) rfl (by kernel_rfl) (by kernel_rfl) (by kernel_rfl) (by kernel_rfl) ?_
 refine vlT Tryz.isAgg9 F rfl rfl H.v h48 (fun a i49 F => ?_)
 refine b_es [3, 9] (by kernel_rfl) (by simp) ⟨⟨_, rfl, ?_⟩, ⟨_, rfl, ?_⟩, trivial⟩
 ·
  refine xEs H ?_
  refine oKI F rfl Tryz.call23 rfl H (impl_readNumber_c z32 c33 _ aA (hG.go (th41 H (Ns.all ⟨n0, trivial⟩)).bl) i46) (fun a w H iz32 F => ?_)
  refine x_end ?_
  refine x_tn ?_
  refine ⟨⟨_, H⟩, ?_⟩
  refine b_es [7, 9] (by kernel_rfl) (by simp) ⟨⟨_, rfl, ?_⟩, ⟨_, rfl, ?_⟩, trivial⟩
  ·
   refine xEs H ?_
   refine oKI F rfl Tryz.call23 rfl H (impl_readNumber_c z34 c35 _ aA (hG.go (th41 H (Ns.all ⟨n0, trivial⟩)).bl) i49) (fun a w H iz34 F => ?_)
   refine x_end ?_
   refine x_tn ?_
   refine ⟨⟨_, H⟩, ?_⟩
   refine b_q 8 (by kernel_rfl) rfl (by kernel_rfl) (by kernel_rfl) (by kernel_rfl) (by kernel_rfl) ?_
   refine v_val F rfl (fun w l => r_build Tryz.underlying34 Tryz.zeroValue34 (fun w => by simp [Tryz.sizeOf2, Tryz.sizeOf32]; rfl) F rfl rfl rfl rfl (oc rfl (oc rfl on)) rfl rfl) (fun a F => ?_)
   refine xE H 9 rfl (by kernel_rfl) ?_
   refine oA Tryz.zeroValue34 F rfl rfl H (fun a w b50 H F => ?_)
   refine x_end ?_
   refine x_tn ?_
   refine ⟨⟨_, H⟩, ?_⟩
   exact H68 b50 _ _ (F.sub (sc rfl (sc rfl (sc rfl (sc rfl (sc rfl sn)))))) H (show I64 0 by decide) (show I64 0 by decide) (show I64 0 by decide) (show I64 0 by decide) iz32 iz34 _ (by kernel_rfl)
  refine xEs H ?_
  refine oA Tryz.zeroValue34 F rfl rfl H (fun a w b51 H F => ?_)
  refine x_end ?_
  refine x_tn ?_
  refine ⟨⟨_, H⟩, ?_⟩
  exact H60 b51 _ _ (F.sub (sc rfl (sc rfl (sc rfl (sc rfl (sc rfl (sc rfl sn))))))) H (show I64 0 by decide) (show I64 0 by decide) (show I64 0 by decide) (show I64 0 by decide) iz32 i49 _ (by kernel_rfl)
 refine xEs H ?_
 refine oA Tryz.zeroValue34 F rfl rfl H (fun a w b52 H F => ?_)
 refine x_end ?_
 refine x_tn ?_
 refine ⟨⟨_, H⟩, ?_⟩
 refine xE H 3 rfl (by kernel_rfl) ?_
 refine oKI F rfl Tryz.call23 rfl H (impl_readNumber_c z32 c33 _ aA (hG.go (th41 H (Ns.all ⟨n0, ⟨n0, trivial⟩⟩)).bl) i46) (fun a w H iz32 F => ?_)
 refine x_end ?_
 refine x_tn ?_
 refine ⟨⟨_, H⟩, ?_⟩
 exact H60 b52 _ _ (F.sub (sc rfl (sc rfl (sc rfl (sc rfl (sc rfl (sc rfl sn))))))) H (show I64 0 by decide) (show I64 0 by decide) (show I64 0 by decide) (show I64 0 by decide) iz32 i49 _ (by kernel_rfl)

def impl_GadgetsText (x0 : Gadgets) : Option ByteArray :=
 if (decide (6 < (x0.formulas.length : Int))) then
  some ((bstr []))
 else
  thn (σ := ByteArray) (
   forL (σ := ByteArray) (ρ := ByteArray) (fun (k47 : Nat) (x49 : Formula) (s43 : ByteArray) =>
    bnd (impl_FormulaText (Formula.mk x49.free x49.vars x49.atoms)) fun z62 =>
    if (sEq z62 (bstr [])) then
     some (.ret ((bstr [])))
    else
     bnd (scat z62 (bstr [10])) fun z67 =>
     bnd (scat s43 z67) fun z69 =>
     some (.go z69)) x0.formulas 0 (bstr [])) fun s45 =>
  some s45
set_option maxHeartbeats 1000000 in
theorem impl_GadgetsText_c {B : Nat → Prop} {x0 : Gadgets} (r : ByteArray) (hR : impl_GadgetsText x0 = some r) {v0 : Value} (w0 : World) (hN : ∀ c, B c → c < w0.heap.size) (hG : Glo w0) (A0 : Bo B w0 (Agg 1 RGadgets) v0 x0) : Calls Tryz.prog 14 #[v0] w0 (Gv (fun v w' => v = .string r ∧ Sep [] B w0 w' [] ∧ r.size ≤ maxLen)) := by
 unfold impl_GadgetsText at hR
 refine x_enter (L := [(0, v0)]) Tryz.func14 rfl rfl rfl (sc rfl sn) (fun a F => ?_)
 have H := Sep.start hN
 refine x_seq ?_
 refine x_reg ?_
 obtain ⟨v11, rfl, h12⟩ := RGadgets.o A0
 refine oX F rfl rfl rfl H (fun a w b13 H F => ?_)
 refine o_assign F rfl rfl (fun a F => ?_)
 refine x_end ?_
 refine x_tn ?_
 refine x_seq ?_
 refine x_seq ?_
 refine x_reg ?_
 refine o_bfield fa24_0 F rfl rfl rfl (fun a F => ?_)
 refine oB Tryz.isAgg22 F rfl rfl (H.b 0 rfl) rfl (fun a F => ?_)
 refine oL Tryz.underlying22 F rfl rfl h12 (fun a i14 F => ?_)
 refine o_gtr F rfl rfl rfl (fun a F => ?_)
 refine x_end ?_
 refine x_tn ?_
 refine x_if F rfl (fun hb15 => ?_) (fun hb15 => ?_)
 ·
  replace hR := ifT hb15 hR
  refine x_seq ?_
  refine x_reg ?_
  refine o_assign F rfl rfl (fun a F => ?_)
  refine x_end ?_
  refine x_tn ?_
  refine x_ret ?_
  refine x_tr ?_
  refine x_res1 F rfl (rv_t F rfl) ?_
  obtain rfl := Option.some.inj hR
  exact ⟨_, rfl, rfl, (H.s [] rfl rfl), (by decide)⟩
 replace hR := ifF hb15 hR
 refine x_skip ?_
 refine x_tn ?_
 refine x_seq ?_
 refine x_reg ?_
 refine o_assign F rfl rfl (fun a F => ?_)
 refine x_end ?_
 refine x_tn ?_
 refine x_seq ?_
 refine x_seq ?_
 refine x_reg ?_
 refine o_bfield fa24_0 F rfl rfl rfl (fun a F => ?_)
 refine oB Tryz.isAgg22 F rfl rfl (H.b 0 rfl) rfl (fun a F => ?_)
 refine oL Tryz.underlying22 F rfl rfl h12 (fun a i16 F => ?_)
 refine o_move F rfl rfl (fun a F => ?_)
 refine x_end ?_
 refine x_tn ?_
 obtain ⟨o37, hR, hk38⟩ := thn_some hR
 refine x_cutQ (fun a w => ∃ (s45 : ByteArray), o37 = .nx s45 ∧ Sk a 28 [(3, .string s45)] ∧ Sep [] B w0 w [] ∧ s45.size ≤ maxLen) ?_ ?_
 ·
  refine x_blk ?_
  obtain ⟨fl41, hf42, hR⟩ := forL_gen hR
  refine x_loop (fun g a w => ∃ (k47 : Nat) (rest48 : List Formula) (s43 : ByteArray), (k47 ≤ x0.formulas.length ∧ x0.formulas.drop k47 = rest48) ∧ rest48.length = g ∧ forL fl41 rest48 k47 s43 = some o37 ∧ Sk a 28 [(14, .int .i64 (k47 : Int)), (3, .string s43), (12, v11), (13, .int .i64 (x0.formulas.length : Int))] ∧ Sep [] B w0 w [] ∧ s43.size ≤ maxLen) x0.formulas.length ?_ ?_
  ·
   exact ⟨0, x0.formulas, (bstr []), ⟨Nat.zero_le _, rfl⟩, rfl, hR, F.sub (sc rfl (sc rfl (sc rfl (sc rfl sn)))), (H.s [] rfl rfl), (by decide)⟩
  intro g50 a w ⟨k47, rest48, s43, hd51, hg52, hR, F, H, i44⟩
  cases rest48 with
  | nil =>
   replace hR := forL_nil hR
   have hkk47 := drop_nil hd51.1 hd51.2
   have hlk47 := dec_no hkk47
   refine x_seq ?_
   refine x_reg ?_
   refine o_lss F rfl rfl rfl (fun a F => ?_)
   refine x_end ?_
   refine x_tn ?_
   refine x_seq ?_
   refine x_ifF F rfl hlk47 ?_
   refine x_exit ?_
   refine x_te ?_
   refine x_te ?_
   refine x_be ?_
   refine x_tn ?_
   exact ⟨s43, (Option.some.inj hR).symm, F.sub (sc rfl sn), H, i44⟩
  | cons x49 rest48 =>
   subst hg52
   replace hd51 := drop_cons hd51.2
   have hxk47 := ix_nat hd51.2.1
   obtain ⟨ck47, hR, hn40⟩ := forL_cons hR
   rw [hf42] at hR
   have hlk47 := dec_yes hd51.1
   refine x_seq ?_
   refine x_reg ?_
   refine o_lss F rfl rfl rfl (fun a F => ?_)
   refine x_end ?_
   refine x_tn ?_
   refine x_seq ?_
   refine x_ifT F rfl hlk47 ?_
   refine x_skip ?_
   refine x_tn ?_
   refine x_seq ?_
   have ikk47 := k64 (Nat.le_of_lt hd51.1) i16
   have ink47 := inc64 hd51.1 i16
   refine x_blk ?_
   refine x_seq ?_
   refine x_reg ?_
   refine oI Tryz.underlying22 Tryz.sizeOf34 F rfl rfl rfl h12 hxk47 (fun a p53 h54 F => ?_)
   refine olA Tryz.isAgg34 Tryz.sizeOf34 F rfl rfl H.sm h54 (fun a v55 h56 F => ?_)
   refine oA Tryz.zeroValue34 F rfl rfl H (fun a w b57 H F => ?_)
   obtain ⟨v60, rfl, i58, i59, h61⟩ := RFormula.o h56
   refine oWA (vs := [.int .i64 x49.free, .int .i64 x49.vars, v60]) Tryz.sizeOf34 F rfl rfl rfl H (oc rfl (oc rfl (oc (H.a h61).one on))) rfl rfl (fun w H => ?_)
   refine x_end ?_
   refine x_tn ?_
   refine x_seq ?_
   refine x_reg ?_
   refine oBA Tryz.isAgg34 Tryz.sizeOf34 F rfl rfl (H.b 0 rfl) rfl rfl (fun a F => ?_)
   obtain ⟨z62, c63, hR⟩ := bnd_some hR
   refine oG F rfl Tryz.call25 rfl (impl_FormulaText_c z62 c63 _ aA (hG.go H.bl) (RFormula.m i58 i59 (H.a h61))) (fun a vv w ⟨hv65, S, i64⟩ F => ?_)
   subst vv
   have H := H.r0 S
   refine o_assign F rfl rfl (fun a F => ?_)
   refine x_end ?_
   refine x_tn ?_
   refine x_seq ?_
   refine x_seq ?_
   refine x_reg ?_
   refine o_move F rfl rfl (fun a F => ?_)
   refine o_seql F rfl rfl rfl (fun a F => ?_)
   refine x_end ?_
   refine x_tn ?_
   refine x_if F rfl (fun hb66 => ?_) (fun hb66 => ?_)
   ·
    replace hR := ifT hb66 hR
    refine x_seq ?_
    refine x_reg ?_
    refine o_assign F rfl rfl (fun a F => ?_)
    refine x_end ?_
    refine x_tn ?_
    refine x_ret ?_
    refine x_tr ?_
    refine x_br ?_
    refine x_tr ?_
    refine x_tr ?_
    replace hR := l_ret hR hn40
    refine x_br ?_
    refine x_tr ?_
    replace hR := j_ret hR hk38
    refine x_tr ?_
    refine x_res1 F rfl (rv_t F rfl) ?_
    obtain rfl := Option.some.inj hR
    exact ⟨_, rfl, rfl, (H.s [] rfl rfl), (by decide)⟩
   replace hR := ifF hb66 hR
   refine x_skip ?_
   refine x_tn ?_
   refine x_reg ?_
   refine o_move F rfl rfl (fun a F => ?_)
   refine o_move F rfl rfl (fun a F => ?_)
   obtain ⟨z67, c68, hR⟩ := bnd_some hR
   refine o_scat F rfl rfl rfl c68 (fun a F => ?_)
   obtain ⟨z69, c70, hR⟩ := bnd_some hR
   refine o_scat F rfl rfl rfl c70 (fun a F => ?_)
   refine o_assign F rfl rfl (fun a F => ?_)
   refine x_end ?_
   refine x_bn ?_
   refine x_tn ?_
   refine x_reg ?_
   refine o_inc F rfl rfl rfl ink47 (fun a F => ?_)
   refine o_move F rfl rfl (fun a F => ?_)
   refine x_end ?_
   refine x_tn ?_
   replace hR := l_go hR hn40
   exact ⟨_, Nat.lt_succ_self _, k47 + 1, rest48, z69, ⟨hd51.1, hd51.2.2⟩, rfl, hR, F.sub (sc rfl (sc rfl (sc rfl (sc rfl sn)))), (H.s [] rfl rfl), (scat_sz c70)⟩
 intro a w ⟨s45, ho39, F, H, i46⟩
 subst ho39
 have hR := then_nx hk38
 refine x_tn ?_
 refine x_seq ?_
 refine x_reg ?_
 refine o_move F rfl rfl (fun a F => ?_)
 refine o_assign F rfl rfl (fun a F => ?_)
 refine x_end ?_
 refine x_tn ?_
 refine x_ret ?_
 refine x_res1 F rfl (rv_t F rfl) ?_
 obtain rfl := Option.some.inj hR
 exact ⟨_, rfl, rfl, H, i46⟩

def impl_ReadGadgets (x0 : ByteArray) : Option (Gadgets × Int) :=
 if (decide (20000 < (x0.size : Int))) then
  some ((Gadgets.mk ([])), 2)
 else
  if (sEq x0 (bstr [])) then
   some ((Gadgets.mk ([])), 0)
  else
   bnd (strings_TrimSuffix x0 (bstr [10])) fun z17 =>
   bnd (strings_Split z17 (bstr [10])) fun z21 =>
   thn (σ := (List Formula)) (
    forL (σ := (List Formula)) (ρ := Gadgets × Int) (fun (k85 : Nat) (x87 : ByteArray) (s79 : (List Formula)) =>
     bnd (impl_ReadFormula x87) fun z94 =>
     if (z94.2 != 0) then
      some (.ret ((Gadgets.mk ([])), 5))
     else
      bnd (ap s79 ([(Formula.mk z94.1.free z94.1.vars z94.1.atoms)])) fun z108 =>
      some (.go z108)) z21 0 []) fun s82 =>
   bnd (impl_GadgetsText (Gadgets.mk s82)) fun z113 =>
   if (!sEq z113 x0) then
    some ((Gadgets.mk ([])), 5)
   else
    some ((Gadgets.mk s82), 0)
set_option maxHeartbeats 1000000 in
theorem impl_ReadGadgets_c {B : Nat → Prop} {x0 : ByteArray} (r : Gadgets × Int) (hR : impl_ReadGadgets x0 = some r)  (w0 : World) (hN : ∀ c, B c → c < w0.heap.size) (hG : GloE w0) (hx0 : x0.size ≤ maxLen) : Calls Tryz.prog 5 #[.string x0] w0 (Gv (fun v w' => ∃ (v1' : Value), v = .tuple #[.agg #[v1'], .int .i64 r.2] ∧ Sep [] B w0 w' [rl 3 RFormula 34 v1' r.1.formulas] ∧ I64 r.2)) := by
 unfold impl_ReadGadgets at hR
 refine x_enter (L := [(0, .string x0)]) Tryz.func5 rfl rfl rfl (sc rfl sn) (fun a F => ?_)
 have H := Sep.start hN
 refine x_seq ?_
 refine x_reg ?_
 refine oA Tryz.zeroValue24 F rfl rfl H (fun a w b11 H F => ?_)
 refine o_assign F rfl rfl (fun a F => ?_)
 refine x_end ?_
 refine x_tn ?_
 refine x_seq ?_
 refine x_seq ?_
 refine x_reg ?_
 refine o_move F rfl rfl (fun a F => ?_)
 refine o_lenStr Tryz.underlying9 F rfl rfl (fun a F => ?_)
 refine o_gtr F rfl rfl rfl (fun a F => ?_)
 refine x_end ?_
 refine x_tn ?_
 refine x_if F rfl (fun hb12 => ?_) (fun hb12 => ?_)
 ·
  replace hR := ifT hb12 hR
  refine x_seq ?_
  refine x_reg ?_
  refine o_build Tryz.underlying24 Tryz.zeroValue24 (fun w => by simp [Tryz.sizeOf22]; rfl) F rfl rfl rfl rfl rfl on rfl rfl (fun a F => ?_)
  refine oWA (vs := [(.slice none 0 0)]) Tryz.sizeOf24 F rfl rfl rfl H (oc rfl on) rfl rfl (fun w H => ?_)
  refine o_assign F rfl rfl (fun a F => ?_)
  refine x_end ?_
  refine x_tn ?_
  refine x_ret ?_
  refine x_tr ?_
  refine x_res2 F rfl (rv_cA (arr := #[(.slice none 0 0)]) F Tryz.isAgg24 Tryz.sizeOf24 rfl (H.b 0 rfl)) (rv_t F rfl) ?_
  obtain rfl := Option.some.inj hR
  exact ⟨_, rfl, (.slice none 0 0), rfl, ((H.nl 3 RFormula 34).s [0] rfl rfl), (show I64 (2) by decide)⟩
 replace hR := ifF hb12 hR
 refine x_skip ?_
 refine x_tn ?_
 refine x_seq ?_
 refine x_reg ?_
 refine o_build Tryz.underlying24 Tryz.zeroValue24 (fun w => by simp [Tryz.sizeOf22]; rfl) F rfl rfl rfl rfl rfl on rfl rfl (fun a F => ?_)
 refine oA Tryz.zeroValue24 F rfl rfl H (fun a w b14 H F => ?_)
 refine oWA (vs := [(.slice none 0 0)]) Tryz.sizeOf24 F rfl rfl rfl H (oc rfl on) rfl rfl (fun w H => ?_)
 refine x_end ?_
 refine x_tn ?_
 refine x_seq ?_
 refine x_seq ?_
 refine x_reg ?_
 refine o_move F rfl rfl (fun a F => ?_)
 refine o_seql F rfl rfl rfl (fun a F => ?_)
 refine x_end ?_
 refine x_tn ?_
 refine x_if F rfl (fun hb15 => ?_) (fun hb15 => ?_)
 ·
  replace hR := ifT hb15 hR
  refine x_seq ?_
  refine x_reg ?_
  refine oBA Tryz.isAgg24 Tryz.sizeOf24 F rfl rfl (H.b 0 rfl) rfl rfl (fun a F => ?_)
  refine oWA (vs := [(.slice none 0 0)]) Tryz.sizeOf24 F rfl rfl rfl (H.s [1, 0] rfl rfl) (oc rfl on) rfl rfl (fun w H => ?_)
  refine o_assign F rfl rfl (fun a F => ?_)
  refine x_end ?_
  refine x_tn ?_
  refine x_ret ?_
  refine x_tr ?_
  refine x_res2 F rfl (rv_cA (arr := #[(.slice none 0 0)]) F Tryz.isAgg24 Tryz.sizeOf24 rfl (H.b 0 rfl)) (rv_t F rfl) ?_
  obtain rfl := Option.some.inj hR
  exact ⟨_, rfl, (.slice none 0 0), rfl, ((H.nl 3 RFormula 34).s [0] rfl rfl), (show I64 (0) by decide)⟩
 replace hR := ifF hb15 hR
 refine x_skip ?_
 refine x_tn ?_
 refine x_seq ?_
 refine x_seq ?_
 refine x_reg ?_
 refine o_move F rfl rfl (fun a F => ?_)
 obtain ⟨z17, c18, hR⟩ := bnd_some hR
 refine oG F rfl Tryz.call12 rfl (strings_TrimSuffix_c z17 c18 _ aA hx0 (by decide)) (fun a vv w ⟨hv20, S, i19⟩ F => ?_)
 subst vv
 have H := H.r0 S
 obtain ⟨z21, c22, hR⟩ := bnd_some hR
 refine oG F rfl Tryz.call11 rfl (strings_Split_s z21 c22 _ aA (hG.go H.bl).toGlo i19 (by decide)) (fun a vv w ⟨v23, hv25, S⟩ F => ?_)
 subst vv
 have H := H.r1 S n0
 refine oL Tryz.underlying30 F rfl rfl (H.l 0 rfl) (fun a i26 F => ?_)
 refine o_move F rfl rfl (fun a F => ?_)
 refine x_end ?_
 refine x_tn ?_
 obtain ⟨o73, hR, hk74⟩ := thn_some hR
 refine x_cutQ (fun a w => ∃ (s82 : List Formula) (v84 : Value), o73 = .nx s82 ∧ Sk a 46 [(0, .string x0), (2, .pointer (some ⟨b11, 0, none⟩)), (4, .pointer (some ⟨b14, 0, none⟩))] ∧ Sep [] B w0 w [rl 3 RFormula 34 v84 s82, bx b14 [v84] 24, bx b11 [(.slice none 0 0)] 24]) ?_ ?_
 ·
  refine x_blk ?_
  obtain ⟨fl77, hf78, hR⟩ := forL_gen hR
  refine x_loop (fun g a w => ∃ (k85 : Nat) (rest86 : List ByteArray) (s79 : List Formula) (v81 : Value), (k85 ≤ z21.length ∧ z21.drop k85 = rest86) ∧ rest86.length = g ∧ forL fl77 rest86 k85 s79 = some o73 ∧ Sk a 46 [(21, .int .i64 (k85 : Int)), (0, .string x0), (2, .pointer (some ⟨b11, 0, none⟩)), (4, .pointer (some ⟨b14, 0, none⟩)), (19, v23), (20, .int .i64 (z21.length : Int))] ∧ Sep [] B w0 w [rl 3 RFormula 34 v81 s79, rl 1 RStr 9 v23 z21, bx b14 [v81] 24, bx b11 [(.slice none 0 0)] 24]) z21.length ?_ ?_
  ·
   exact ⟨0, z21, [], (.slice none 0 0), ⟨Nat.zero_le _, rfl⟩, rfl, hR, F.sub (sc rfl (sc rfl (sc rfl (sc rfl (sc rfl (sc rfl sn)))))), (H.nl 3 RFormula 34)⟩
  intro g88 a w ⟨k85, rest86, s79, v81, hd89, hg90, hR, F, H⟩
  cases rest86 with
  | nil =>
   replace hR := forL_nil hR
   have hkk85 := drop_nil hd89.1 hd89.2
   have hlk85 := dec_no hkk85
   refine x_seq ?_
   refine x_reg ?_
   refine o_lss F rfl rfl rfl (fun a F => ?_)
   refine x_end ?_
   refine x_tn ?_
   refine x_seq ?_
   refine x_ifF F rfl hlk85 ?_
   refine x_exit ?_
   refine x_te ?_
   refine x_te ?_
   refine x_be ?_
   refine x_tn ?_
   exact ⟨s79, v81, (Option.some.inj hR).symm, F.sub (sc rfl (sc rfl (sc rfl sn))), (H.s [0, 2, 3] rfl rfl)⟩
  | cons x87 rest86 =>
   subst hg90
   replace hd89 := drop_cons hd89.2
   have hxk85 := ix_nat hd89.2.1
   obtain ⟨ck85, hR, hn76⟩ := forL_cons hR
   rw [hf78] at hR
   have hlk85 := dec_yes hd89.1
   refine x_seq ?_
   refine x_reg ?_
   refine o_lss F rfl rfl rfl (fun a F => ?_)
   refine x_end ?_
   refine x_tn ?_
   refine x_seq ?_
   refine x_ifT F rfl hlk85 ?_
   refine x_skip ?_
   refine x_tn ?_
   refine x_seq ?_
   have ikk85 := k64 (Nat.le_of_lt hd89.1) i26
   have ink85 := inc64 hd89.1 i26
   refine x_blk ?_
   refine x_seq ?_
   refine x_reg ?_
   refine oI Tryz.underlying30 Tryz.sizeOf9 F rfl rfl rfl (H.l 1 rfl) hxk85 (fun a p91 h92 F => ?_)
   refine olT Tryz.isAgg9 F rfl rfl (Sm.refl _ _) h92 (fun a i93 F => ?_)
   refine o_assign F rfl rfl (fun a F => ?_)
   refine x_end ?_
   refine x_tn ?_
   refine x_seq ?_
   refine x_reg ?_
   refine o_move F rfl rfl (fun a F => ?_)
   obtain ⟨z94, c95, hR⟩ := bnd_some hR
   refine oG F rfl Tryz.call13 rfl (impl_ReadFormula_c z94 c95 _ aA (hG.go H.bl) i93) (fun a vv w ⟨v98, hv101, S, i96, i97, i100⟩ F => ?_)
   subst vv
   have H := H.r1 S n0
   refine o_move F rfl rfl (fun a F => ?_)
   refine o_extract F rfl rfl rfl (fun a F => ?_)
   refine o_extract F rfl rfl rfl (fun a F => ?_)
   refine oA Tryz.zeroValue34 F rfl rfl H (fun a w b102 H F => ?_)
   refine oWA (vs := [.int .i64 z94.1.free, .int .i64 z94.1.vars, v98]) Tryz.sizeOf34 F rfl rfl rfl H (oc rfl (oc rfl (oc (H.l 1 rfl).one on))) rfl rfl (fun w H => ?_)
   refine o_assign F rfl rfl (fun a F => ?_)
   refine x_end ?_
   refine x_tn ?_
   refine x_seq ?_
   refine x_seq ?_
   refine x_reg ?_
   refine o_move F rfl rfl (fun a F => ?_)
   refine o_neq F rfl rfl rfl (fun a F => ?_)
   refine x_end ?_
   refine x_tn ?_
   refine x_if F rfl (fun hb103 => ?_) (fun hb103 => ?_)
   ·
    replace hR := ifT hb103 hR
    refine x_seq ?_
    refine x_reg ?_
    refine o_build Tryz.underlying24 Tryz.zeroValue24 (fun w => by simp [Tryz.sizeOf22]; rfl) F rfl rfl rfl rfl rfl on rfl rfl (fun a F => ?_)
    refine oWA (vs := [(.slice none 0 0)]) Tryz.sizeOf24 F rfl rfl rfl (H.s [5, 0, 1, 2, 3, 4] rfl rfl) (oc rfl on) rfl rfl (fun w H => ?_)
    refine o_assign F rfl rfl (fun a F => ?_)
    refine x_end ?_
    refine x_tn ?_
    refine x_ret ?_
    refine x_tr ?_
    refine x_br ?_
    refine x_tr ?_
    refine x_tr ?_
    replace hR := l_ret hR hn76
    refine x_br ?_
    refine x_tr ?_
    replace hR := j_ret hR hk74
    refine x_tr ?_
    refine x_res2 F rfl (rv_cA (arr := #[(.slice none 0 0)]) F Tryz.isAgg24 Tryz.sizeOf24 rfl (H.b 0 rfl)) (rv_t F rfl) ?_
    obtain rfl := Option.some.inj hR
    exact ⟨_, rfl, (.slice none 0 0), rfl, ((H.nl 3 RFormula 34).s [0] rfl rfl), (show I64 (5) by decide)⟩
   replace hR := ifF hb103 hR
   refine x_skip ?_
   refine x_tn ?_
   refine x_reg ?_
   refine o_bfield fa24_0 F rfl rfl rfl (fun a F => ?_)
   refine oB Tryz.isAgg22 F rfl rfl (H.b 4 rfl) rfl (fun a F => ?_)
   refine oBA Tryz.isAgg34 Tryz.sizeOf34 F rfl rfl (H.b 0 rfl) rfl rfl (fun a F => ?_)
   have H := (RFormula.w i96 i97 (H.s [1, 0, 2, 3, 4, 5] rfl rfl))
   refine oR1L (R := RFormula) (y := (Formula.mk z94.1.free z94.1.vars z94.1.atoms)) Tryz.underlying22 Tryz.sizeOf34 Tryz.zeroValue34 rfl rfl F rfl rfl H El.agg (fun a w v105 H F => ?_)
   obtain ⟨z108, c109, hR⟩ := bnd_some hR
   refine oPL (sz := 3) (R := RFormula) (z := (.agg #[.int .i64 0, .int .i64 0, (.slice none 0 0)])) (bytes := 40) Tryz.underlying22 (by kernel_rfl) rfl rfl F rfl rfl rfl (H.s [2, 0, 1, 3, 4, 5] rfl rfl) c109 (fun a w v110 H F => ?_)
   refine o_bfield fa24_0 F rfl rfl rfl (fun a F => ?_)
   refine oW Tryz.sizeOf22 F rfl rfl rfl (H.s [3, 0, 1, 2, 4] rfl rfl) ((H.s [3, 0, 1, 2, 4] rfl rfl).l 1 rfl).one rfl rfl (fun w H => ?_)
   refine x_end ?_
   refine x_bn ?_
   refine x_tn ?_
   refine x_reg ?_
   refine o_inc F rfl rfl rfl ink85 (fun a F => ?_)
   refine o_move F rfl rfl (fun a F => ?_)
   refine x_end ?_
   refine x_tn ?_
   replace hR := l_go hR hn76
   exact ⟨_, Nat.lt_succ_self _, k85 + 1, rest86, z108, v110, ⟨hd89.1, hd89.2.2⟩, rfl, hR, F.sub (sc rfl (sc rfl (sc rfl (sc rfl (sc rfl (sc rfl sn)))))), (H.s [1, 3, 0, 4] rfl rfl)⟩
 intro a w ⟨s82, v84, ho75, F, H⟩
 subst ho75
 have hR := then_nx hk74
 refine x_tn ?_
 refine x_seq ?_
 refine x_seq ?_
 refine x_reg ?_
 refine oBA Tryz.isAgg24 Tryz.sizeOf24 F rfl rfl (H.b 1 rfl) rfl rfl (fun a F => ?_)
 obtain ⟨z113, c114, hR⟩ := bnd_some hR
 refine oG F rfl Tryz.call14 rfl (impl_GadgetsText_c z113 c114 _ aA (hG.go H.bl).toGlo (RGadgets.m (H.l 0 rfl))) (fun a vv w ⟨hv116, S, i115⟩ F => ?_)
 subst vv
 have H := H.r0 S
 refine o_move F rfl rfl (fun a F => ?_)
 refine o_sneq F rfl rfl rfl (fun a F => ?_)
 refine x_end ?_
 refine x_tn ?_
 refine x_if F rfl (fun hb117 => ?_) (fun hb117 => ?_)
 ·
  replace hR := ifT hb117 hR
  refine x_seq ?_
  refine x_reg ?_
  refine o_build Tryz.underlying24 Tryz.zeroValue24 (fun w => by simp [Tryz.sizeOf22]; rfl) F rfl rfl rfl rfl rfl on rfl rfl (fun a F => ?_)
  refine oWA (vs := [(.slice none 0 0)]) Tryz.sizeOf24 F rfl rfl rfl (H.s [2, 0, 1] rfl rfl) (oc rfl on) rfl rfl (fun w H => ?_)
  refine o_assign F rfl rfl (fun a F => ?_)
  refine x_end ?_
  refine x_tn ?_
  refine x_ret ?_
  refine x_tr ?_
  refine x_res2 F rfl (rv_cA (arr := #[(.slice none 0 0)]) F Tryz.isAgg24 Tryz.sizeOf24 rfl (H.b 0 rfl)) (rv_t F rfl) ?_
  obtain rfl := Option.some.inj hR
  exact ⟨_, rfl, (.slice none 0 0), rfl, ((H.nl 3 RFormula 34).s [0] rfl rfl), (show I64 (5) by decide)⟩
 replace hR := ifF hb117 hR
 refine x_skip ?_
 refine x_tn ?_
 refine x_seq ?_
 refine x_reg ?_
 refine oBA Tryz.isAgg24 Tryz.sizeOf24 F rfl rfl (H.b 1 rfl) rfl rfl (fun a F => ?_)
 refine oWA (vs := [v84]) Tryz.sizeOf24 F rfl rfl rfl (H.s [2, 0, 1] rfl rfl) (oc ((H.s [2, 0, 1] rfl rfl).l 1 rfl).one on) rfl rfl (fun w H => ?_)
 refine o_assign F rfl rfl (fun a F => ?_)
 refine x_end ?_
 refine x_tn ?_
 refine x_ret ?_
 refine x_res2 F rfl (rv_cA (arr := #[v84]) F Tryz.isAgg24 Tryz.sizeOf24 rfl (H.b 0 rfl)) (rv_t F rfl) ?_
 obtain rfl := Option.some.inj hR
 exact ⟨_, rfl, v84, rfl, (H.s [1] rfl rfl), (show I64 (0) by decide)⟩
end Go.Proofs.YtbgkhipclkhlcaaGreatDoor
