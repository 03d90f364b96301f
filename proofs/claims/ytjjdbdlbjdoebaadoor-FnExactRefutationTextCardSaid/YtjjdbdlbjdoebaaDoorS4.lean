/-
  Functions of the program as plain functions, and that they compute them. Printed by fxio.py.
-/
import Derived.Test.YtjjdbdlbjdoebaaDoorS1
import Derived.Test.YtjjdbdlbjdoebaaDoorBW
namespace Go.Proofs.YtjjdbdlbjdoebaaDoor
set_option linter.unusedVariables false
set_option linter.unusedSimpArgs false
set_option maxRecDepth 100000
open Go.RowKit
def spec_RefutationText (N : Nat) (x0 : List Line) : Option ByteArray :=
 if (decide (4000 < (x0.length : Int))) then
  some ((bstr []))
 else
  thn (σ := ByteArray) (
   forL (σ := ByteArray) (ρ := ByteArray) (fun (k46 : Nat) (x48 : Line) (s42 : ByteArray) =>
    bnd (spec_l08Line x48) fun z57 =>
    if (!z57) then
     some (.ret ((bstr [])))
    else
     bnd (spec_l08Text N x48) fun z64 =>
     bnd (scat z64 (bstr [10])) fun z68 =>
     bnd (scat s42 z68) fun z70 =>
     some (.go z70)) x0 0 (bstr [])) fun s44 =>
  some s44
set_option maxHeartbeats 1000000 in
theorem spec_RefutationText_c {N : Nat} {x0 : List Line} (r : ByteArray) (hR : spec_RefutationText N x0 = some r) {v0 : Value} {b0 : List Nat} (w0 : World) (A0 : Rd (Sl 4 RLine) w0 v0 x0 b0) : Calls Tryd.prog 13 #[v0] w0 (Gives (fun v w' => v = .string r ∧ r.size ≤ maxLen) w0) := by
 unfold spec_RefutationText at hR
 refine x_enter (L := [(0, v0)]) Tryd.func13 rfl rfl rfl (sc rfl sn) (fun a F => ?_)
 have hB := Below.refl w0.heap.size w0
 refine x_seq ?_
 refine x_reg ?_
 refine o_assign F rfl rfl (fun a F => ?_)
 refine x_end ?_
 refine x_tn ?_
 refine x_seq ?_
 refine x_seq ?_
 refine x_reg ?_
 refine o_move F rfl rfl (fun a F => ?_)
 refine o_len Tryd.underlying31 F rfl rfl (A0.go hB) (fun a F => ?_)
 have i11 := ((A0.go hB)).r.len64
 refine o_gtr F rfl rfl rfl (fun a F => ?_)
 refine x_end ?_
 refine x_tn ?_
 refine x_if F rfl (fun hb12 => ?_) (fun hb12 => ?_)
 ·
  replace hR := ifT hb12 hR
  refine x_seq ?_
  refine x_reg ?_
  refine o_assign F rfl rfl (fun a F => ?_)
  refine x_end ?_
  refine x_tn ?_
  refine x_ret ?_
  refine x_tr ?_
  refine x_res1 F rfl (rv_t F rfl) ?_
  obtain rfl := Option.some.inj hR
  exact ⟨_, rfl, hB, rfl, (by decide)⟩
 replace hR := ifF hb12 hR
 refine x_skip ?_
 refine x_tn ?_
 refine x_seq ?_
 refine x_reg ?_
 refine o_assign F rfl rfl (fun a F => ?_)
 refine x_end ?_
 refine x_tn ?_
 refine x_seq ?_
 refine x_seq ?_
 refine x_reg ?_
 refine o_assign F rfl rfl (fun a F => ?_)
 refine x_end ?_
 refine x_tn ?_
 obtain ⟨o36, hR, hk37⟩ := thn_some hR
 refine x_cutQ (fun a w => ∃ (s44 : ByteArray), o36 = .nx s44 ∧ Sk a 27 [(3, .string s44)] ∧ Below w0.heap.size w0 w ∧ s44.size ≤ maxLen) ?_ ?_
 ·
  refine x_blk ?_
  obtain ⟨fl40, hf41, hR⟩ := forL_gen hR
  refine x_loop (fun g a w => ∃ (k46 : Nat) (rest47 : List Line) (s42 : ByteArray), (k46 ≤ x0.length ∧ x0.drop k46 = rest47) ∧ rest47.length = g ∧ forL fl40 rest47 k46 s42 = some o36 ∧ Sk a 27 [(4, .int .i64 (k46 : Int)), (0, v0), (3, .string s42)] ∧ Below w0.heap.size w0 w ∧ s42.size ≤ maxLen) x0.length ?_ ?_
  ·
   exact ⟨0, x0, (bstr []), ⟨Nat.zero_le _, rfl⟩, rfl, hR, F.sub (sc rfl (sc rfl (sc rfl sn))), hB, (by decide)⟩
  intro g49 a w ⟨k46, rest47, s42, hd50, hg51, hR, F, hB, i43⟩
  cases rest47 with
  | nil =>
   replace hR := forL_nil hR
   have hkk46 := drop_nil hd50.1 hd50.2
   have hlk46 := dec_no hkk46
   refine x_seq ?_
   refine x_seq ?_
   refine x_reg ?_
   refine o_move F rfl rfl (fun a F => ?_)
   refine o_move F rfl rfl (fun a F => ?_)
   refine o_len Tryd.underlying31 F rfl rfl (A0.go hB) (fun a F => ?_)
   have i72 := ((A0.go hB)).r.len64
   refine o_lss F rfl rfl rfl (fun a F => ?_)
   refine x_end ?_
   refine x_tn ?_
   refine x_ifF F rfl hlk46 ?_
   refine x_exit ?_
   refine x_te ?_
   refine x_te ?_
   refine x_be ?_
   refine x_tn ?_
   exact ⟨s42, (Option.some.inj hR).symm, F.sub (sc rfl sn), hB, i43⟩
  | cons x48 rest47 =>
   subst hg51
   replace hd50 := drop_cons hd50.2
   have hxk46 := ix_nat hd50.2.1
   obtain ⟨ck46, hR, hn39⟩ := forL_cons hR
   rw [hf41] at hR
   have hlk46 := dec_yes hd50.1
   refine x_seq ?_
   refine x_seq ?_
   refine x_reg ?_
   refine o_move F rfl rfl (fun a F => ?_)
   refine o_move F rfl rfl (fun a F => ?_)
   refine o_len Tryd.underlying31 F rfl rfl (A0.go hB) (fun a F => ?_)
   have i52 := ((A0.go hB)).r.len64
   refine o_lss F rfl rfl rfl (fun a F => ?_)
   refine x_end ?_
   refine x_tn ?_
   refine x_ifT F rfl hlk46 ?_
   refine x_skip ?_
   refine x_tn ?_
   refine x_seq ?_
   have ikk46 := k64 (Nat.le_of_lt hd50.1) i52
   have ink46 := inc64 hd50.1 i52
   refine x_blk ?_
   refine x_seq ?_
   refine x_seq ?_
   refine x_reg ?_
   refine o_move F rfl rfl (fun a F => ?_)
   refine o_move F rfl rfl (fun a F => ?_)
   refine o_index Tryd.underlying31 Tryd.sizeOf25 F rfl rfl rfl (A0.go hB) hxk46 (fun a p53 b54 h55 s56 F => ?_)
   obtain ⟨z57, c58, hR⟩ := bnd_some hR
   refine o_says F rfl Tryd.call31 rfl (spec_l08Line_c z57 c58 _ h55) (fun a w l F => ?_)
   replace hB := Below.through l hB
   refine o_not F rfl rfl (fun a F => ?_)
   refine x_end ?_
   refine x_tn ?_
   refine x_if F rfl (fun hb59 => ?_) (fun hb59 => ?_)
   ·
    replace hR := ifT hb59 hR
    refine x_seq ?_
    refine x_reg ?_
    refine o_assign F rfl rfl (fun a F => ?_)
    refine x_end ?_
    refine x_tn ?_
    refine x_ret ?_
    refine x_tr ?_
    refine x_br ?_
    refine x_tr ?_
    refine x_tr ?_
    replace hR := l_ret hR hn39
    refine x_br ?_
    refine x_tr ?_
    replace hR := j_ret hR hk37
    refine x_tr ?_
    refine x_res1 F rfl (rv_t F rfl) ?_
    obtain rfl := Option.some.inj hR
    exact ⟨_, rfl, hB, rfl, (by decide)⟩
   replace hR := ifF hb59 hR
   refine x_skip ?_
   refine x_tn ?_
   refine x_reg ?_
   refine o_move F rfl rfl (fun a F => ?_)
   refine o_move F rfl rfl (fun a F => ?_)
   refine o_move F rfl rfl (fun a F => ?_)
   refine o_index Tryd.underlying31 Tryd.sizeOf25 F rfl rfl rfl (A0.go hB) hxk46 (fun a p60 b61 h62 s63 F => ?_)
   obtain ⟨z64, c65, hR⟩ := bnd_some hR
   refine o_gives F rfl Tryd.call32 rfl (spec_l08Text_c z64 c65 _ h62) (fun a vv w l ⟨hv67, i66⟩ F => ?_)
   subst vv
   replace hB := Below.through l hB
   obtain ⟨z68, c69, hR⟩ := bnd_some hR
   refine o_scat F rfl rfl rfl c69 (fun a F => ?_)
   obtain ⟨z70, c71, hR⟩ := bnd_some hR
   refine o_scat F rfl rfl rfl c71 (fun a F => ?_)
   refine o_assign F rfl rfl (fun a F => ?_)
   refine x_end ?_
   refine x_bn ?_
   refine x_tn ?_
   refine x_reg ?_
   refine o_move F rfl rfl (fun a F => ?_)
   refine o_inc F rfl rfl rfl ink46 (fun a F => ?_)
   refine o_assign F rfl rfl (fun a F => ?_)
   refine x_end ?_
   refine x_tn ?_
   replace hR := l_go hR hn39
   exact ⟨_, Nat.lt_succ_self _, k46 + 1, rest47, z70, ⟨hd50.1, hd50.2.2⟩, rfl, hR, F.sub (sc rfl (sc rfl (sc rfl sn))), hB, (scat_sz c71)⟩
 intro a w ⟨s44, ho38, F, hB, i45⟩
 subst ho38
 have hR := then_nx hk37
 refine x_tn ?_
 refine x_seq ?_
 refine x_reg ?_
 refine o_move F rfl rfl (fun a F => ?_)
 refine o_assign F rfl rfl (fun a F => ?_)
 refine x_end ?_
 refine x_tn ?_
 refine x_ret ?_
 refine x_res1 F rfl (rv_t F rfl) ?_
 obtain rfl := Option.some.inj hR
 exact ⟨_, rfl, hB, rfl, i45⟩

def impl_RefutationText (x0 : List Line) : Option ByteArray :=
 if (decide (4000 < (x0.length : Int))) then
  some ((bstr []))
 else
  thn (σ := ByteArray) (
   forL (σ := ByteArray) (ρ := ByteArray) (fun (k84 : Nat) (x86 : Line) (s80 : ByteArray) =>
    bnd (impl_LineText (Line.mk x86.kind x86.var x86.value x86.con)) fun z109 =>
    if (sEq z109 (bstr [])) then
     some (.ret ((bstr [])))
    else
     bnd (scat z109 (bstr [10])) fun z114 =>
     bnd (bw s80 z114) fun z116 =>
     some (.go z116)) x0 0 (bstr [])) fun s82 =>
  some s82
set_option maxHeartbeats 1000000 in
theorem impl_RefutationText_c {x0 : List Line} (r : ByteArray) (hR : impl_RefutationText x0 = some r) {v0 : Value} {b0 : List Nat} (w0 : World) (hG : Glo w0) (A0 : Rd (Sl 4 RLine) w0 v0 x0 b0) : Calls Tryd.prog 15 #[v0] w0 (Gives (fun v w' => v = .string r ∧ r.size ≤ maxLen) w0) := by
 unfold impl_RefutationText at hR
 refine x_enter (L := [(0, v0)]) Tryd.func15 rfl rfl rfl (sc rfl sn) (fun a F => ?_)
 have hB := Below.refl w0.heap.size w0
 refine x_seq ?_
 refine x_reg ?_
 refine o_assign F rfl rfl (fun a F => ?_)
 refine x_end ?_
 refine x_tn ?_
 refine x_seq ?_
 refine x_seq ?_
 refine x_reg ?_
 refine o_move F rfl rfl (fun a F => ?_)
 refine o_len Tryd.underlying31 F rfl rfl (A0.go hB) (fun a F => ?_)
 have i11 := ((A0.go hB)).r.len64
 refine o_gtr F rfl rfl rfl (fun a F => ?_)
 refine x_end ?_
 refine x_tn ?_
 refine x_if F rfl (fun hb12 => ?_) (fun hb12 => ?_)
 ·
  replace hR := ifT hb12 hR
  refine x_seq ?_
  refine x_reg ?_
  refine o_assign F rfl rfl (fun a F => ?_)
  refine x_end ?_
  refine x_tn ?_
  refine x_ret ?_
  refine x_tr ?_
  refine x_res1 F rfl (rv_t F rfl) ?_
  obtain rfl := Option.some.inj hR
  exact ⟨_, rfl, hB, rfl, (by decide)⟩
 replace hR := ifF hb12 hR
 refine x_skip ?_
 refine x_tn ?_
 refine x_seq ?_
 refine x_reg ?_
 refine o_alloc Tryd.zeroValue71 F rfl rfl (fun a w b13 K14 l BK14 F => ?_)
 have CK14 := Nat.le_trans hB.size BK14
 replace hB := Below.through l hB
 replace K14 := Bld.zero K14 CK14 hB.size
 refine x_end ?_
 refine x_tn ?_
 refine x_seq ?_
 refine x_seq ?_
 refine x_reg ?_
 refine o_move F rfl rfl (fun a F => ?_)
 refine o_len Tryd.underlying31 F rfl rfl (A0.go hB) (fun a F => ?_)
 have i15 := ((A0.go hB)).r.len64
 refine o_move F rfl rfl (fun a F => ?_)
 refine x_end ?_
 refine x_tn ?_
 obtain ⟨o74, hR, hk75⟩ := thn_some hR
 refine x_cutQ (fun a w => ∃ (s82 : ByteArray), o74 = .nx s82 ∧ Sk a 25 [(3, .pointer (some ⟨b13, 0, none⟩))] ∧ Below w0.heap.size w0 w ∧ s82.size ≤ maxLen ∧ Bld w0.heap.size w b13 s82 []) ?_ ?_
 ·
  refine x_blk ?_
  obtain ⟨fl78, hf79, hR⟩ := forL_gen hR
  refine x_loop (fun g a w => ∃ (k84 : Nat) (rest85 : List Line) (s80 : ByteArray), (k84 ≤ x0.length ∧ x0.drop k84 = rest85) ∧ rest85.length = g ∧ forL fl78 rest85 k84 s80 = some o74 ∧ Sk a 25 [(12, .int .i64 (k84 : Int)), (3, .pointer (some ⟨b13, 0, none⟩)), (10, v0), (11, .int .i64 (x0.length : Int))] ∧ Below w0.heap.size w0 w ∧ s80.size ≤ maxLen ∧ Bld w0.heap.size w b13 s80 []) x0.length ?_ ?_
  ·
   exact ⟨0, x0, (bstr []), ⟨Nat.zero_le _, rfl⟩, rfl, hR, F.sub (sc rfl (sc rfl (sc rfl (sc rfl sn)))), hB, (by decide), K14⟩
  intro g87 a w ⟨k84, rest85, s80, hd88, hg89, hR, F, hB, i81, K14⟩
  cases rest85 with
  | nil =>
   replace hR := forL_nil hR
   have hkk84 := drop_nil hd88.1 hd88.2
   have hlk84 := dec_no hkk84
   refine x_seq ?_
   refine x_reg ?_
   refine o_lss F rfl rfl rfl (fun a F => ?_)
   refine x_end ?_
   refine x_tn ?_
   refine x_seq ?_
   refine x_ifF F rfl hlk84 ?_
   refine x_exit ?_
   refine x_te ?_
   refine x_te ?_
   refine x_be ?_
   refine x_tn ?_
   exact ⟨s80, (Option.some.inj hR).symm, F.sub (sc rfl sn), hB, i81, K14⟩
  | cons x86 rest85 =>
   subst hg89
   replace hd88 := drop_cons hd88.2
   have hxk84 := ix_nat hd88.2.1
   obtain ⟨ck84, hR, hn77⟩ := forL_cons hR
   rw [hf79] at hR
   have hlk84 := dec_yes hd88.1
   refine x_seq ?_
   refine x_reg ?_
   refine o_lss F rfl rfl rfl (fun a F => ?_)
   refine x_end ?_
   refine x_tn ?_
   refine x_seq ?_
   refine x_ifT F rfl hlk84 ?_
   refine x_skip ?_
   refine x_tn ?_
   refine x_seq ?_
   have ikk84 := k64 (Nat.le_of_lt hd88.1) i15
   have ink84 := inc64 hd88.1 i15
   refine x_blk ?_
   refine x_seq ?_
   refine x_reg ?_
   refine o_index Tryd.underlying31 Tryd.sizeOf25 F rfl rfl rfl (A0.go hB) hxk84 (fun a p90 b91 h92 s93 F => ?_)
   refine o_loadA Tryd.isAgg25 Tryd.sizeOf25 F rfl rfl h92 (fun a v94 b95 h96 s97 F => ?_)
   refine o_alloc Tryd.zeroValue25 F rfl rfl (fun a w b98 K99 l BK99 F => ?_)
   replace K14 := K14.av BK99
   have d100 := (dj1 h92.m BK99).symm
   have d101 := (dj1 h96.m BK99).symm
   have CK99 := Nat.le_trans hB.size BK99
   replace hB := Below.through l hB
   replace h96 := h96.go l
   replace K14 := K14.thru l
   obtain ⟨e107, i103, i104, i105, i106, eb102⟩ := RLine.rd h96
   subst e107
   refine o_bstoreA (vs := [.int .i64 x86.kind, .int .i64 x86.var, .int .i64 x86.value, .int .i64 x86.con]) Tryd.sizeOf25 F rfl rfl rfl K99 (oc rfl (oc rfl (oc rfl (oc rfl on)))) (Nat.le_of_ble_eq_true rfl) rfl (fun w K99 l => ?_)
   replace hB := hB.o l (fun c hc => by rw [List.mem_singleton] at hc; rw [hc]; exact CK99) hB.size
   replace K14 := K14.only l (by simp)
   refine x_end ?_
   refine x_tn ?_
   refine x_seq ?_
   refine x_reg ?_
   refine o_bloadA (cs := [.int .i64 x86.kind, .int .i64 x86.var, .int .i64 x86.value, .int .i64 x86.con]) Tryd.isAgg25 Tryd.sizeOf25 F rfl rfl K99 rfl (fun j hj => by match j, hj with | 0, _ => rfl | 1, _ => rfl | 2, _ => rfl | 3, _ => rfl) (fun a F => ?_)
   have h108 := RLine.mk2 (w := w) i103 i104 i105 i106
   obtain ⟨z109, c110, hR⟩ := bnd_some hR
   refine o_gives F rfl Tryd.call11 rfl (impl_LineText_c z109 c110 _ (hG.go hB) h108) (fun a vv w l ⟨hv112, i111⟩ F => ?_)
   subst vv
   replace hB := Below.through l hB
   replace K14 := K14.thru l
   refine o_assign F rfl rfl (fun a F => ?_)
   refine x_end ?_
   refine x_tn ?_
   refine x_seq ?_
   refine x_seq ?_
   refine x_reg ?_
   refine o_move F rfl rfl (fun a F => ?_)
   refine o_seql F rfl rfl rfl (fun a F => ?_)
   refine x_end ?_
   refine x_tn ?_
   refine x_if F rfl (fun hb113 => ?_) (fun hb113 => ?_)
   ·
    replace hR := ifT hb113 hR
    refine x_seq ?_
    refine x_reg ?_
    refine o_assign F rfl rfl (fun a F => ?_)
    refine x_end ?_
    refine x_tn ?_
    refine x_ret ?_
    refine x_tr ?_
    refine x_br ?_
    refine x_tr ?_
    refine x_tr ?_
    replace hR := l_ret hR hn77
    refine x_br ?_
    refine x_tr ?_
    replace hR := j_ret hR hk75
    refine x_tr ?_
    refine x_res1 F rfl (rv_t F rfl) ?_
    obtain rfl := Option.some.inj hR
    exact ⟨_, rfl, hB, rfl, (by decide)⟩
   replace hR := ifF hb113 hR
   refine x_skip ?_
   refine x_tn ?_
   refine x_reg ?_
   refine o_move F rfl rfl (fun a F => ?_)
   obtain ⟨z114, c115, hR⟩ := bnd_some hR
   refine o_scat F rfl rfl rfl c115 (fun a F => ?_)
   obtain ⟨z116, c117, hR⟩ := bnd_some hR
   refine o_bldW F rfl Tryd.call37 rfl rfl K14 c117 (fun a v w l K14 F => ?_)
   replace hB := hB.trans l
   refine x_end ?_
   refine x_bn ?_
   refine x_tn ?_
   refine x_reg ?_
   refine o_inc F rfl rfl rfl ink84 (fun a F => ?_)
   refine o_move F rfl rfl (fun a F => ?_)
   refine x_end ?_
   refine x_tn ?_
   replace hR := l_go hR hn77
   exact ⟨_, Nat.lt_succ_self _, k84 + 1, rest85, z116, ⟨hd88.1, hd88.2.2⟩, rfl, hR, F.sub (sc rfl (sc rfl (sc rfl (sc rfl sn)))), hB, (bw_sz c117), K14⟩
 intro a w ⟨s82, ho76, F, hB, i83, K14⟩
 subst ho76
 have hR := then_nx hk75
 refine x_tn ?_
 refine x_seq ?_
 refine x_reg ?_
 refine o_bldS F rfl Tryd.call38 rfl rfl K14 (fun a w l F => ?_)
 replace hB := hB.trans l
 refine o_assign F rfl rfl (fun a F => ?_)
 refine x_end ?_
 refine x_tn ?_
 refine x_ret ?_
 refine x_res1 F rfl (rv_t F rfl) ?_
 obtain rfl := Option.some.inj hR
 exact ⟨_, rfl, hB, rfl, i83⟩
end Go.Proofs.YtjjdbdlbjdoebaaDoor
