/-
  Functions of the program as plain functions, and that they compute them. Printed by fxio.py.
-/
import Derived.Test.YtjjdbdlbjdoebaaDoorS1
namespace Go.Proofs.YtjjdbdlbjdoebaaDoor
set_option linter.unusedVariables false
set_option linter.unusedSimpArgs false
set_option maxRecDepth 100000
open Go.RowKit
def spec_l10Words : Option ((List ByteArray) × (List Int)) :=
 some ([(bstr []), (bstr [103, 105, 118, 101]), (bstr [119, 111, 114, 107]), (bstr [100, 101, 108, 105, 118, 101, 114]), (bstr [99, 111, 112, 121]), (bstr [100, 114, 111, 112]), (bstr [115, 112, 111, 105, 108]), (bstr [115, 97, 118, 101]), (bstr [99, 114, 97, 115, 104])], [0, 2, 1, 1, 1, 1, 1, 0, 0])
set_option maxHeartbeats 1000000 in
theorem spec_l10Words_c (r : (List ByteArray) × (List Int)) (hR : spec_l10Words = some r)  (w0 : World) : Calls Tryd.prog 40 #[] w0 (Gives (fun v w' => ∃ (v1' : Value) (rb2' : List Nat) (v4' : Value) (rb5' : List Nat), v = .tuple #[v1', v4'] ∧ Row 1 RStr 9 w0.heap.size w' v1' r.1 rb2' [] ∧ Row 1 RInt 3 w0.heap.size w' v4' r.2 rb5' [] ∧ Dj (rb2' ++ []) (rb5' ++ [])) w0) := by
 unfold spec_l10Words at hR
 refine x_enter (L := []) Tryd.func40 rfl rfl rfl sn (fun a F => ?_)
 have hB := Below.refl w0.heap.size w0
 refine x_seq ?_
 refine x_reg ?_
 refine o_assign F rfl rfl (fun a F => ?_)
 refine o_assign F rfl rfl (fun a F => ?_)
 refine x_end ?_
 refine x_tn ?_
 refine x_seq ?_
 refine x_reg ?_
 refine o_litE Value.string _ litStr (fun _ => rfl) (xs := [.const (.string (bstr [])), .const (.string (bstr [103, 105, 118, 101])), .const (.string (bstr [119, 111, 114, 107])), .const (.string (bstr [100, 101, 108, 105, 118, 101, 114])), .const (.string (bstr [99, 111, 112, 121])), .const (.string (bstr [100, 114, 111, 112])), .const (.string (bstr [115, 112, 111, 105, 108])), .const (.string (bstr [115, 97, 118, 101])), .const (.string (bstr [99, 114, 97, 115, 104]))]) (l := [(bstr []), (bstr [103, 105, 118, 101]), (bstr [119, 111, 114, 107]), (bstr [100, 101, 108, 105, 118, 101, 114]), (bstr [99, 111, 112, 121]), (bstr [100, 114, 111, 112]), (bstr [115, 112, 111, 105, 108]), (bstr [115, 97, 118, 101]), (bstr [99, 114, 97, 115, 104])]) Tryd.underlying63 Tryd.sizeOf9 Tryd.zeroValue9 rfl F rfl rfl rfl (by simp) (by simp) rfl (by simp only [List.forall_mem_cons, List.not_mem_nil, false_implies, implies_true, and_true]; exact ⟨(by decide), (by decide), (by decide), (by decide), (by decide), (by decide), (by decide), (by decide), (by decide)⟩) (fun a w v11 rb12 h13 l F => ?_)
 replace h13 := h13.base hB.size
 replace hB := Below.through l hB
 refine o_litI (xs := [.const (.int .i64 0), .const (.int .i64 2), .const (.int .i64 1), .const (.int .i64 1), .const (.int .i64 1), .const (.int .i64 1), .const (.int .i64 1), .const (.int .i64 0), .const (.int .i64 0)]) (l := [0, 2, 1, 1, 1, 1, 1, 0, 0]) Tryd.underlying78 Tryd.sizeOf3 Tryd.zeroValue3 rfl F rfl rfl rfl (by decide) (by decide) rfl (by simp only [List.forall_mem_cons, List.not_mem_nil, false_implies, implies_true, and_true]; exact ⟨(show I64 (0) by decide), (show I64 (2) by decide), (show I64 (1) by decide), (show I64 (1) by decide), (show I64 (1) by decide), (show I64 (1) by decide), (show I64 (1) by decide), (show I64 (0) by decide), (show I64 (0) by decide)⟩) (fun a w v15 rb16 h17 l F => ?_)
 have d19 := Dj.new h13.rd.m h17.ownR (Nat.le_refl _)
 have d20 := Dj.app' (Dj.new h13.memR h17.ownR (Nat.le_refl _)).symm (Dj.nil' _)
 replace h17 := h17.base hB.size
 replace hB := Below.through l hB
 replace h13 := h13.go l
 refine o_assign F rfl rfl (fun a F => ?_)
 refine o_assign F rfl rfl (fun a F => ?_)
 refine x_end ?_
 refine x_tn ?_
 refine x_ret ?_
 refine x_res2 F rfl (rv_t F rfl) (rv_t F rfl) ?_
 obtain rfl := Option.some.inj hR
 exact ⟨_, rfl, hB, v11, rb12, v15, rb16, rfl, h13, h17, (Dj.app d19 (Dj.nil _))⟩

def spec_l10Deed (x0 : Deed) : Option Bool :=
 thn (σ := Bool) (
  bnd (spec_l00In x0.kind 1 8) fun z30 =>
  if (!z30) then  some (.nx true) else  bnd (spec_l00In x0.a 0 999) fun z33 =>
   if (!z33) then  some (.nx true) else  bnd (spec_l00In x0.b 0 999) fun z36 =>
    some (.nx (!z36))) fun s29 =>
 if s29 then
  some false
 else
  bnd (spec_l10Words) fun z39 =>
  thn (σ := Bool) (
   bnd (ix z39.2 x0.kind) fun z83 =>
   if (decide (0 < z83)) then  if (decide (1 < z83)) then  some (.nx true) else  some (.nx (x0.b == 0)) else  if (x0.a == 0) then  if (decide (1 < z83)) then  some (.nx true) else  some (.nx (x0.b == 0)) else  some (.nx false)) fun s82 =>
  some s82
set_option maxHeartbeats 1000000 in
theorem spec_l10Deed_c {x0 : Deed} (r : Bool) (hR : spec_l10Deed x0 = some r) {v0 : Value} {b0 : List Nat} (w0 : World) (A0 : Rd (Agg 3 RDeed) w0 v0 x0 b0) : Calls Tryd.prog 39 #[v0] w0 (Says (.bool r) w0) := by
 unfold spec_l10Deed at hR
 refine x_enter (L := [(0, v0)]) Tryd.func39 rfl rfl rfl (sc rfl sn) (fun a F => ?_)
 have hB := Below.refl w0.heap.size w0
 refine x_seq ?_
 refine x_reg ?_
 obtain ⟨e17, i14, i15, i16, eb13⟩ := RDeed.rd (A0.go hB)
 subst e17
 refine o_box F rfl rfl rfl (fun a w b11 K12 l BK12 F => ?_)
 have CK12 := Nat.le_trans hB.size BK12
 replace hB := Below.through l hB
 refine o_assign F rfl rfl (fun a F => ?_)
 refine x_end ?_
 refine x_tn ?_
 refine x_seq ?_
 refine x_seq ?_
 obtain ⟨o26, hR, hk27⟩ := thn_some hR
 refine x_cutQ (fun a w => ∃ (s29 : Bool), o26 = .nx s29 ∧ Sk a 49 [(1, .pointer (some ⟨b11, 0, none⟩)), (20, .bool s29)] ∧ Below w0.heap.size w0 w ∧ Blk w b11 #[.int .i64 x0.kind, .int .i64 x0.a, .int .i64 x0.b] 38) ?_ ?_
 ·
  refine x_reg ?_
  refine o_bfield fa38_0 F rfl rfl rfl (fun a F => ?_)
  refine o_bload Tryd.isAgg2 F rfl rfl K12 rfl (fun a F => ?_)
  obtain ⟨z30, c31, hR⟩ := bnd_some hR
  refine o_says F rfl Tryd.call60 rfl (spec_l00In_c z30 c31 _ i14 (show I64 (1) by decide) (show I64 (8) by decide)) (fun a w l F => ?_)
  replace hB := Below.through l hB
  replace K12 := K12.thru l
  refine o_not F rfl rfl (fun a F => ?_)
  refine o_move F rfl rfl (fun a F => ?_)
  rcases bcases (!z30) with hb32 | hb32
  ·
   replace hR := ifT hb32 hR
   have F := F.eq (t := 9) rfl (congrArg Value.bool hb32)
   refine o_no F rfl rfl (fun a F => ?_)
   refine o_no F rfl rfl (fun a F => ?_)
   refine o_no F rfl rfl (fun a F => ?_)
   refine o_no F rfl rfl (fun a F => ?_)
   refine o_pickt F rfl rfl rfl (fun a F => ?_)
   refine o_move F rfl rfl (fun a F => ?_)
   refine o_no F rfl rfl (fun a F => ?_)
   refine o_no F rfl rfl (fun a F => ?_)
   refine o_no F rfl rfl (fun a F => ?_)
   refine o_no F rfl rfl (fun a F => ?_)
   refine o_pickt F rfl rfl rfl (fun a F => ?_)
   refine x_end ?_
   refine x_tn ?_
   exact ⟨true, (Option.some.inj hR).symm, F.sub (sc rfl (sc rfl sn)), hB, K12⟩
  replace hR := ifF hb32 hR
  have F := F.eq (t := 9) rfl (congrArg Value.bool hb32)
  refine o_bfield fa38_1 F rfl rfl rfl (fun a F => ?_)
  refine o_bload Tryd.isAgg2 F rfl rfl K12 rfl (fun a F => ?_)
  obtain ⟨z33, c34, hR⟩ := bnd_some hR
  refine o_says F rfl Tryd.call60 rfl (spec_l00In_c z33 c34 _ i15 (show I64 (0) by decide) (show I64 (999) by decide)) (fun a w l F => ?_)
  replace hB := Below.through l hB
  replace K12 := K12.thru l
  refine o_not F rfl rfl (fun a F => ?_)
  refine o_pickf F rfl rfl rfl (fun a F => ?_)
  refine o_move F rfl rfl (fun a F => ?_)
  rcases bcases (!z33) with hb35 | hb35
  ·
   replace hR := ifT hb35 hR
   have F := F.eq (t := 15) rfl (congrArg Value.bool hb35)
   refine o_no F rfl rfl (fun a F => ?_)
   refine o_no F rfl rfl (fun a F => ?_)
   refine o_no F rfl rfl (fun a F => ?_)
   refine o_no F rfl rfl (fun a F => ?_)
   refine o_pickt F rfl rfl rfl (fun a F => ?_)
   refine x_end ?_
   refine x_tn ?_
   exact ⟨true, (Option.some.inj hR).symm, F.sub (sc rfl (sc rfl sn)), hB, K12⟩
  replace hR := ifF hb35 hR
  have F := F.eq (t := 15) rfl (congrArg Value.bool hb35)
  refine o_bfield fa38_2 F rfl rfl rfl (fun a F => ?_)
  refine o_bload Tryd.isAgg2 F rfl rfl K12 rfl (fun a F => ?_)
  obtain ⟨z36, c37, hR⟩ := bnd_some hR
  refine o_says F rfl Tryd.call60 rfl (spec_l00In_c z36 c37 _ i16 (show I64 (0) by decide) (show I64 (999) by decide)) (fun a w l F => ?_)
  replace hB := Below.through l hB
  replace K12 := K12.thru l
  refine o_not F rfl rfl (fun a F => ?_)
  refine o_pickf F rfl rfl rfl (fun a F => ?_)
  refine x_end ?_
  refine x_tn ?_
  exact ⟨(!z36), (Option.some.inj hR).symm, F.sub (sc rfl (sc rfl sn)), hB, K12⟩
 intro a w ⟨s29, ho28, F, hB, K12⟩
 subst ho28
 have hR := then_nx hk27
 refine x_tn ?_
 refine x_if F rfl (fun hb38 => ?_) (fun hb38 => ?_)
 ·
  replace hR := ifT hb38 hR
  refine x_seq ?_
  refine x_reg ?_
  refine o_assign F rfl rfl (fun a F => ?_)
  refine x_end ?_
  refine x_tn ?_
  refine x_ret ?_
  refine x_tr ?_
  refine x_res1 F rfl (rv_t F rfl) ?_
  obtain rfl := Option.some.inj hR
  exact ⟨rfl, hB⟩
 replace hR := ifF hb38 hR
 refine x_skip ?_
 refine x_tn ?_
 refine x_seq ?_
 refine x_reg ?_
 obtain ⟨z39, c40, hR⟩ := bnd_some hR
 refine o_gives F rfl Tryd.call40 rfl (spec_l10Words_c z39 c40 _) (fun a vv w l ⟨v41, rb42, v45, rb46, hv49, h44, h48, dj50⟩ F => ?_)
 subst vv
 have d52 := Dj.new (inm1 K12) h44.ownR (Nat.le_refl _)
 replace h44 := h44.base hB.size
 have d54 := Dj.new (inm1 K12) h48.ownR (Nat.le_refl _)
 replace h48 := h48.base hB.size
 replace hB := Below.through l hB
 replace K12 := K12.thru l
 refine o_move F rfl rfl (fun a F => ?_)
 refine o_extract F rfl rfl rfl (fun a F => ?_)
 refine o_extract F rfl rfl rfl (fun a F => ?_)
 refine o_assign F rfl rfl (fun a F => ?_)
 refine o_assign F rfl rfl (fun a F => ?_)
 refine x_end ?_
 refine x_tn ?_
 refine x_seq ?_
 obtain ⟨o79, hR, hk80⟩ := thn_some hR
 refine x_cutQ (fun a w => ∃ (s82 : Bool), o79 = .nx s82 ∧ Sk a 49 [(2, .bool s82)] ∧ Below w0.heap.size w0 w) ?_ ?_
 ·
  refine x_reg ?_
  refine o_move F rfl rfl (fun a F => ?_)
  refine o_bfield fa38_0 F rfl rfl rfl (fun a F => ?_)
  refine o_bload Tryd.isAgg2 F rfl rfl K12 rfl (fun a F => ?_)
  obtain ⟨z83, c84, hR⟩ := bnd_some hR
  refine o_rindex Tryd.underlying78 Tryd.sizeOf3 F rfl rfl rfl h48 c84 (fun a p85 b86 h87 s88 rp89 F => ?_)
  have i90 := (h87).i64
  refine o_loadI Tryd.isAgg3 F rfl rfl h87 (fun a F => ?_)
  refine o_gtr F rfl rfl rfl (fun a F => ?_)
  refine o_move F rfl rfl (fun a F => ?_)
  rcases bcases (decide (0 < z83)) with hb91 | hb91
  ·
   replace hR := ifT hb91 hR
   have F := F.eq (t := 31) rfl (congrArg Value.bool hb91)
   refine o_no F rfl rfl (fun a F => ?_)
   refine o_no F rfl rfl (fun a F => ?_)
   refine o_no F rfl rfl (fun a F => ?_)
   refine o_pickt F rfl rfl rfl (fun a F => ?_)
   refine o_move F rfl rfl (fun a F => ?_)
   refine o_move F rfl rfl (fun a F => ?_)
   refine o_bfield fa38_0 F rfl rfl rfl (fun a F => ?_)
   refine o_bload Tryd.isAgg2 F rfl rfl K12 rfl (fun a F => ?_)
   refine o_rindex Tryd.underlying78 Tryd.sizeOf3 F rfl rfl rfl h48 c84 (fun a p92 b93 h94 s95 rp96 F => ?_)
   have i97 := (h94).i64
   refine o_loadI Tryd.isAgg3 F rfl rfl h94 (fun a F => ?_)
   refine o_gtr F rfl rfl rfl (fun a F => ?_)
   refine o_move F rfl rfl (fun a F => ?_)
   rcases bcases (decide (1 < z83)) with hb98 | hb98
   ·
    replace hR := ifT hb98 hR
    have F := F.eq (t := 43) rfl (congrArg Value.bool hb98)
    refine o_no F rfl rfl (fun a F => ?_)
    refine o_no F rfl rfl (fun a F => ?_)
    refine o_no F rfl rfl (fun a F => ?_)
    refine o_pickt F rfl rfl rfl (fun a F => ?_)
    refine o_pickt F rfl rfl rfl (fun a F => ?_)
    refine o_assign F rfl rfl (fun a F => ?_)
    refine x_end ?_
    refine x_tn ?_
    exact ⟨true, (Option.some.inj hR).symm, F.sub (sc rfl sn), hB⟩
   replace hR := ifF hb98 hR
   have F := F.eq (t := 43) rfl (congrArg Value.bool hb98)
   refine o_bfield fa38_2 F rfl rfl rfl (fun a F => ?_)
   refine o_bload Tryd.isAgg2 F rfl rfl K12 rfl (fun a F => ?_)
   refine o_eql F rfl rfl rfl (fun a F => ?_)
   refine o_pickf F rfl rfl rfl (fun a F => ?_)
   refine o_pickt F rfl rfl rfl (fun a F => ?_)
   refine o_assign F rfl rfl (fun a F => ?_)
   refine x_end ?_
   refine x_tn ?_
   exact ⟨(x0.b == 0), (Option.some.inj hR).symm, F.sub (sc rfl sn), hB⟩
  replace hR := ifF hb91 hR
  have F := F.eq (t := 31) rfl (congrArg Value.bool hb91)
  refine o_bfield fa38_1 F rfl rfl rfl (fun a F => ?_)
  refine o_bload Tryd.isAgg2 F rfl rfl K12 rfl (fun a F => ?_)
  refine o_eql F rfl rfl rfl (fun a F => ?_)
  refine o_pickf F rfl rfl rfl (fun a F => ?_)
  refine o_move F rfl rfl (fun a F => ?_)
  rcases bcases (x0.a == 0) with hb99 | hb99
  ·
   replace hR := ifT hb99 hR
   have F := F.eq (t := 36) rfl (congrArg Value.bool hb99)
   refine o_move F rfl rfl (fun a F => ?_)
   refine o_bfield fa38_0 F rfl rfl rfl (fun a F => ?_)
   refine o_bload Tryd.isAgg2 F rfl rfl K12 rfl (fun a F => ?_)
   refine o_rindex Tryd.underlying78 Tryd.sizeOf3 F rfl rfl rfl h48 c84 (fun a p100 b101 h102 s103 rp104 F => ?_)
   have i105 := (h102).i64
   refine o_loadI Tryd.isAgg3 F rfl rfl h102 (fun a F => ?_)
   refine o_gtr F rfl rfl rfl (fun a F => ?_)
   refine o_move F rfl rfl (fun a F => ?_)
   rcases bcases (decide (1 < z83)) with hb106 | hb106
   ·
    replace hR := ifT hb106 hR
    have F := F.eq (t := 43) rfl (congrArg Value.bool hb106)
    refine o_no F rfl rfl (fun a F => ?_)
    refine o_no F rfl rfl (fun a F => ?_)
    refine o_no F rfl rfl (fun a F => ?_)
    refine o_pickt F rfl rfl rfl (fun a F => ?_)
    refine o_pickt F rfl rfl rfl (fun a F => ?_)
    refine o_assign F rfl rfl (fun a F => ?_)
    refine x_end ?_
    refine x_tn ?_
    exact ⟨true, (Option.some.inj hR).symm, F.sub (sc rfl sn), hB⟩
   replace hR := ifF hb106 hR
   have F := F.eq (t := 43) rfl (congrArg Value.bool hb106)
   refine o_bfield fa38_2 F rfl rfl rfl (fun a F => ?_)
   refine o_bload Tryd.isAgg2 F rfl rfl K12 rfl (fun a F => ?_)
   refine o_eql F rfl rfl rfl (fun a F => ?_)
   refine o_pickf F rfl rfl rfl (fun a F => ?_)
   refine o_pickt F rfl rfl rfl (fun a F => ?_)
   refine o_assign F rfl rfl (fun a F => ?_)
   refine x_end ?_
   refine x_tn ?_
   exact ⟨(x0.b == 0), (Option.some.inj hR).symm, F.sub (sc rfl sn), hB⟩
  replace hR := ifF hb99 hR
  have F := F.eq (t := 36) rfl (congrArg Value.bool hb99)
  refine o_no F rfl rfl (fun a F => ?_)
  refine o_no F rfl rfl (fun a F => ?_)
  refine o_no F rfl rfl (fun a F => ?_)
  refine o_no F rfl rfl (fun a F => ?_)
  refine o_no F rfl rfl (fun a F => ?_)
  refine o_no F rfl rfl (fun a F => ?_)
  refine o_no F rfl rfl (fun a F => ?_)
  refine o_no F rfl rfl (fun a F => ?_)
  refine o_no F rfl rfl (fun a F => ?_)
  refine o_no F rfl rfl (fun a F => ?_)
  refine o_no F rfl rfl (fun a F => ?_)
  refine o_pickf F rfl rfl rfl (fun a F => ?_)
  refine o_assign F rfl rfl (fun a F => ?_)
  refine x_end ?_
  refine x_tn ?_
  exact ⟨false, (Option.some.inj hR).symm, F.sub (sc rfl sn), hB⟩
 intro a w ⟨s82, ho81, F, hB⟩
 subst ho81
 have hR := then_nx hk80
 refine x_tn ?_
 refine x_ret ?_
 refine x_res1 F rfl (rv_t F rfl) ?_
 obtain rfl := Option.some.inj hR
 exact ⟨rfl, hB⟩

def spec_DeedText (N : Nat) (x0 : Deed) : Option ByteArray :=
 bnd (spec_l10Deed (Deed.mk x0.kind x0.a x0.b)) fun z19 =>
 if (!z19) then
  some ((bstr []))
 else
  bnd (spec_l10Words) fun z22 =>
  bnd (ix z22.1 x0.kind) fun z38 =>
  bnd (ix z22.2 x0.kind) fun z46 =>
  thn (σ := ByteArray) (
   if (decide (0 < z46)) then
    bnd (spec_Decimal N x0.a) fun z69 =>
    bnd (scat (bstr [32]) z69) fun z73 =>
    bnd (scat z38 z73) fun z75 =>
    some (.nx z75)
   else
    some (.nx z38)) fun s66 =>
  if (decide (1 < z46)) then
   bnd (spec_Decimal N x0.b) fun z84 =>
   bnd (scat (bstr [32]) z84) fun z88 =>
   bnd (scat s66 z88) fun z90 =>
   some z90
  else
   some s66
set_option maxHeartbeats 1000000 in
theorem spec_DeedText_c {N : Nat} {x0 : Deed} (r : ByteArray) (hR : spec_DeedText N x0 = some r) {v0 : Value} {b0 : List Nat} (w0 : World) (A0 : Rd (Agg 3 RDeed) w0 v0 x0 b0) : Calls Tryd.prog 17 #[v0] w0 (Gives (fun v w' => v = .string r ∧ r.size ≤ maxLen) w0) := by
 unfold spec_DeedText at hR
 refine x_enter (L := [(0, v0)]) Tryd.func17 rfl rfl rfl (sc rfl sn) (fun a F => ?_)
 have hB := Below.refl w0.heap.size w0
 refine x_seq ?_
 refine x_reg ?_
 obtain ⟨e17, i14, i15, i16, eb13⟩ := RDeed.rd (A0.go hB)
 subst e17
 refine o_box F rfl rfl rfl (fun a w b11 K12 l BK12 F => ?_)
 have CK12 := Nat.le_trans hB.size BK12
 replace hB := Below.through l hB
 refine o_assign F rfl rfl (fun a F => ?_)
 refine x_end ?_
 refine x_tn ?_
 refine x_seq ?_
 refine x_seq ?_
 refine x_reg ?_
 refine o_bloadA (cs := [.int .i64 x0.kind, .int .i64 x0.a, .int .i64 x0.b]) Tryd.isAgg38 Tryd.sizeOf38 F rfl rfl K12 rfl (fun j hj => by match j, hj with | 0, _ => rfl | 1, _ => rfl | 2, _ => rfl) (fun a F => ?_)
 have h18 := RDeed.mk2 (w := w) i14 i15 i16
 obtain ⟨z19, c20, hR⟩ := bnd_some hR
 refine o_says F rfl Tryd.call39 rfl (spec_l10Deed_c z19 c20 _ h18) (fun a w l F => ?_)
 replace hB := Below.through l hB
 replace K12 := K12.thru l
 refine o_not F rfl rfl (fun a F => ?_)
 refine x_end ?_
 refine x_tn ?_
 refine x_if F rfl (fun hb21 => ?_) (fun hb21 => ?_)
 ·
  replace hR := ifT hb21 hR
  refine x_seq ?_
  refine x_reg ?_
  refine o_assign F rfl rfl (fun a F => ?_)
  refine x_end ?_
  refine x_tn ?_
  refine x_ret ?_
  refine x_tr ?_
  refine x_res1 F rfl (rv_t F rfl) ?_
  obtain rfl := Option.some.inj hR
  exact ⟨_, rfl, hB, rfl, (by decide)⟩
 replace hR := ifF hb21 hR
 refine x_skip ?_
 refine x_tn ?_
 refine x_seq ?_
 refine x_reg ?_
 obtain ⟨z22, c23, hR⟩ := bnd_some hR
 refine o_gives F rfl Tryd.call40 rfl (spec_l10Words_c z22 c23 _) (fun a vv w l ⟨v24, rb25, v28, rb29, hv32, h27, h31, dj33⟩ F => ?_)
 subst vv
 have d35 := Dj.new (inm1 K12) h27.ownR (Nat.le_refl _)
 replace h27 := h27.base hB.size
 have d37 := Dj.new (inm1 K12) h31.ownR (Nat.le_refl _)
 replace h31 := h31.base hB.size
 replace hB := Below.through l hB
 replace K12 := K12.thru l
 refine o_move F rfl rfl (fun a F => ?_)
 refine o_extract F rfl rfl rfl (fun a F => ?_)
 refine o_extract F rfl rfl rfl (fun a F => ?_)
 refine o_assign F rfl rfl (fun a F => ?_)
 refine o_assign F rfl rfl (fun a F => ?_)
 refine x_end ?_
 refine x_tn ?_
 refine x_seq ?_
 refine x_reg ?_
 refine o_move F rfl rfl (fun a F => ?_)
 refine o_bfield fa38_0 F rfl rfl rfl (fun a F => ?_)
 refine o_bload Tryd.isAgg2 F rfl rfl K12 rfl (fun a F => ?_)
 obtain ⟨z38, c39, hR⟩ := bnd_some hR
 refine o_rindex Tryd.underlying63 Tryd.sizeOf9 F rfl rfl rfl h27 c39 (fun a p40 b41 h42 s43 rp44 F => ?_)
 have i45 := (h42).str
 refine o_loadT Tryd.isAgg9 F rfl rfl h42 (fun a F => ?_)
 refine o_assign F rfl rfl (fun a F => ?_)
 refine x_end ?_
 refine x_tn ?_
 refine x_seq ?_
 refine x_seq ?_
 refine x_reg ?_
 refine o_move F rfl rfl (fun a F => ?_)
 refine o_bfield fa38_0 F rfl rfl rfl (fun a F => ?_)
 refine o_bload Tryd.isAgg2 F rfl rfl K12 rfl (fun a F => ?_)
 obtain ⟨z46, c47, hR⟩ := bnd_some hR
 refine o_rindex Tryd.underlying78 Tryd.sizeOf3 F rfl rfl rfl h31 c47 (fun a p48 b49 h50 s51 rp52 F => ?_)
 have i53 := (h50).i64
 refine o_loadI Tryd.isAgg3 F rfl rfl h50 (fun a F => ?_)
 refine o_gtr F rfl rfl rfl (fun a F => ?_)
 refine x_end ?_
 refine x_tn ?_
 obtain ⟨o63, hR, hk64⟩ := thn_some hR
 refine x_cutQ (fun a w => ∃ (s66 : ByteArray), o63 = .nx s66 ∧ Sk a 43 [(1, .pointer (some ⟨b11, 0, none⟩)), (4, v28), (5, .string s66)] ∧ Below w0.heap.size w0 w ∧ s66.size ≤ maxLen ∧ Row 1 RInt 3 w0.heap.size w v28 z22.2 rb29 ([]) ∧ Blk w b11 #[.int .i64 x0.kind, .int .i64 x0.a, .int .i64 x0.b] 38) ?_ ?_
 ·
  refine x_if F rfl (fun hb68 => ?_) (fun hb68 => ?_)
  ·
   replace hR := ifT hb68 hR
   refine x_reg ?_
   refine o_move F rfl rfl (fun a F => ?_)
   refine o_bfield fa38_1 F rfl rfl rfl (fun a F => ?_)
   refine o_bload Tryd.isAgg2 F rfl rfl K12 rfl (fun a F => ?_)
   obtain ⟨z69, c70, hR⟩ := bnd_some hR
   refine o_gives F rfl Tryd.call41 rfl (spec_Decimal_c z69 c70 _ i15) (fun a vv w l ⟨hv72, i71⟩ F => ?_)
   subst vv
   replace hB := Below.through l hB
   replace h31 := h31.go l
   replace K12 := K12.thru l
   obtain ⟨z73, c74, hR⟩ := bnd_some hR
   refine o_scat F rfl rfl rfl c74 (fun a F => ?_)
   obtain ⟨z75, c76, hR⟩ := bnd_some hR
   refine o_scat F rfl rfl rfl c76 (fun a F => ?_)
   refine o_assign F rfl rfl (fun a F => ?_)
   refine x_end ?_
   refine x_tn ?_
   exact ⟨z75, (Option.some.inj hR).symm, F.sub (sc rfl (sc rfl (sc rfl sn))), hB, (scat_sz c76), h31, K12⟩
  replace hR := ifF hb68 hR
  refine x_skip ?_
  refine x_tn ?_
  exact ⟨z38, (Option.some.inj hR).symm, F.sub (sc rfl (sc rfl (sc rfl sn))), hB, i45, h31, K12⟩
 intro a w ⟨s66, ho65, F, hB, i67, h31, K12⟩
 subst ho65
 have hR := then_nx hk64
 refine x_tn ?_
 refine x_seq ?_
 refine x_seq ?_
 refine x_reg ?_
 refine o_move F rfl rfl (fun a F => ?_)
 refine o_bfield fa38_0 F rfl rfl rfl (fun a F => ?_)
 refine o_bload Tryd.isAgg2 F rfl rfl K12 rfl (fun a F => ?_)
 refine o_rindex Tryd.underlying78 Tryd.sizeOf3 F rfl rfl rfl h31 c47 (fun a p77 b78 h79 s80 rp81 F => ?_)
 have i82 := (h79).i64
 refine o_loadI Tryd.isAgg3 F rfl rfl h79 (fun a F => ?_)
 refine o_gtr F rfl rfl rfl (fun a F => ?_)
 refine x_end ?_
 refine x_tn ?_
 refine x_if F rfl (fun hb83 => ?_) (fun hb83 => ?_)
 ·
  replace hR := ifT hb83 hR
  refine x_reg ?_
  refine o_move F rfl rfl (fun a F => ?_)
  refine o_bfield fa38_2 F rfl rfl rfl (fun a F => ?_)
  refine o_bload Tryd.isAgg2 F rfl rfl K12 rfl (fun a F => ?_)
  obtain ⟨z84, c85, hR⟩ := bnd_some hR
  refine o_gives F rfl Tryd.call41 rfl (spec_Decimal_c z84 c85 _ i16) (fun a vv w l ⟨hv87, i86⟩ F => ?_)
  subst vv
  replace hB := Below.through l hB
  obtain ⟨z88, c89, hR⟩ := bnd_some hR
  refine o_scat F rfl rfl rfl c89 (fun a F => ?_)
  obtain ⟨z90, c91, hR⟩ := bnd_some hR
  refine o_scat F rfl rfl rfl c91 (fun a F => ?_)
  refine o_assign F rfl rfl (fun a F => ?_)
  refine x_end ?_
  refine x_tn ?_
  refine x_seq ?_
  refine x_reg ?_
  refine o_move F rfl rfl (fun a F => ?_)
  refine o_assign F rfl rfl (fun a F => ?_)
  refine x_end ?_
  refine x_tn ?_
  refine x_ret ?_
  refine x_res1 F rfl (rv_t F rfl) ?_
  obtain rfl := Option.some.inj hR
  exact ⟨_, rfl, hB, rfl, (scat_sz c91)⟩
 replace hR := ifF hb83 hR
 refine x_skip ?_
 refine x_tn ?_
 refine x_seq ?_
 refine x_reg ?_
 refine o_move F rfl rfl (fun a F => ?_)
 refine o_assign F rfl rfl (fun a F => ?_)
 refine x_end ?_
 refine x_tn ?_
 refine x_ret ?_
 refine x_res1 F rfl (rv_t F rfl) ?_
 obtain rfl := Option.some.inj hR
 exact ⟨_, rfl, hB, rfl, i67⟩

def impl_Deed_mentioned (x0 : Deed) : Option (List Int) :=
 bnd (ck (x0.kind - 1)) fun z18 =>
 bnd (ix ([2, 1, 1, 1, 1, 1, 0, 0]) z18) fun z30 =>
 bnd (sl ([x0.a, x0.b]) 0 z30) fun z37 =>
 some z37
set_option maxHeartbeats 1000000 in
theorem impl_Deed_mentioned_c {x0 : Deed} (r : (List Int)) (hR : impl_Deed_mentioned x0 = some r) {v0 : Value} {b0 : List Nat} (w0 : World) (A0 : Rd (Agg 3 RDeed) w0 v0 x0 b0) : Calls Tryd.prog 44 #[v0] w0 (Gives (fun v w' => ∃ (v1' : Value) (b2' : List Nat), v = v1' ∧ Rd (Sl 1 RInt) w' v1' r b2') w0) := by
 unfold impl_Deed_mentioned at hR
 refine x_enter (L := [(0, v0)]) Tryd.func44 rfl rfl rfl (sc rfl sn) (fun a F => ?_)
 have hB := Below.refl w0.heap.size w0
 refine x_seq ?_
 refine x_reg ?_
 obtain ⟨e17, i14, i15, i16, eb13⟩ := RDeed.rd (A0.go hB)
 subst e17
 refine o_box F rfl rfl rfl (fun a w b11 K12 l BK12 F => ?_)
 have CK12 := Nat.le_trans hB.size BK12
 replace hB := Below.through l hB
 refine o_assign F rfl rfl (fun a F => ?_)
 refine x_end ?_
 refine x_tn ?_
 refine x_seq ?_
 obtain ⟨z18, c19, hR⟩ := bnd_some hR
 obtain ⟨z30, c31, hR⟩ := bnd_some hR
 obtain ⟨z37, c38, hR⟩ := bnd_some hR
 refine x_drawn (by kernel_rfl) (fun w l => ?_)
 replace hB := Below.through l hB
 replace K12 := K12.thru l
 refine dp (fun G => ∀ (v72 : Value) (rb73 : List Nat) (a : Act) (w : World), Sk a 15 [(2, (.slice none 0 0)), (7, v72), (13, .int .i64 z30)] → Below w0.heap.size w0 w → Row 1 RInt 2 w0.heap.size w v72 ([x0.a, x0.b]) rb73 ([]) → I64 z30 → ∀ ls, ls = #[true, true, true, true, true, true, true, true, true, true, true, false, false] → G 2 ls a w) ?_ (fun H77 => ?_)
 ·
  intro v72 rb73 a w F hB h74 i76 ls hls
  subst hls
  refine b_q 11 (by kernel_rfl) rfl (by kernel_rfl) (by kernel_rfl) (by kernel_rfl) (by kernel_rfl) ?_
  refine v_sliceh Tryd.underlying66 Tryd.sizeOf2 F rfl rfl rfl h74.rd c38 (fun a v78 b79 h80 s81 F => ?_)
  refine b_q0 12 rfl (by kernel_rfl) (by kernel_rfl) (by kernel_rfl) ?_
  refine v_val F rfl (fun w l => r_assign F rfl) (fun a F => ?_)
  refine b_end (by kernel_rfl) ?_
  refine x_tn ?_
  refine x_ret ?_
  refine x_res1 F rfl (rv_t F rfl) ?_
  obtain rfl := Option.some.inj hR
  exact ⟨_, rfl, hB, v78, b79, rfl, h80⟩
 refine b_q 0 (by kernel_rfl) rfl (by kernel_rfl) (by kernel_rfl) (by kernel_rfl) (by kernel_rfl) ?_
 refine v_val F rfl (fun w l => r_bfield fa38_1 F rfl rfl) (fun a F => ?_)
 refine b_q 1 (by kernel_rfl) rfl (by kernel_rfl) (by kernel_rfl) (by kernel_rfl) (by kernel_rfl) ?_
 refine v_val F rfl (fun w l => r_load1 Tryd.isAgg2 F rfl (((K12.thru l).cell _).trans rfl)) (fun a F => ?_)
 refine b_q 2 (by kernel_rfl) rfl (by kernel_rfl) (by kernel_rfl) (by kernel_rfl) (by kernel_rfl) ?_
 refine v_val F rfl (fun w l => r_bfield fa38_2 F rfl rfl) (fun a F => ?_)
 refine b_q 3 (by kernel_rfl) rfl (by kernel_rfl) (by kernel_rfl) (by kernel_rfl) (by kernel_rfl) ?_
 refine v_val F rfl (fun w l => r_load1 Tryd.isAgg2 F rfl (((K12.thru l).cell _).trans rfl)) (fun a F => ?_)
 refine b_q 6 (by kernel_rfl) rfl (by kernel_rfl) (by kernel_rfl) (by kernel_rfl) (by kernel_rfl) ?_
 refine v_val F rfl (fun w l => r_bfield fa38_0 F rfl rfl) (fun a F => ?_)
 refine b_q 7 (by kernel_rfl) rfl (by kernel_rfl) (by kernel_rfl) (by kernel_rfl) (by kernel_rfl) ?_
 refine v_val F rfl (fun w l => r_load1 Tryd.isAgg2 F rfl (((K12.thru l).cell _).trans rfl)) (fun a F => ?_)
 refine b_q0 8 rfl (by kernel_rfl) (by kernel_rfl) (by kernel_rfl) ?_
 refine v_val F rfl (fun w l => r_sub F rfl rfl c19) (fun a F => ?_)
 refine b_es [4, 5] (by kernel_rfl) (by simp) ⟨⟨_, rfl, ?_⟩, ⟨_, rfl, ?_⟩, trivial⟩
 ·
  refine o_litI (xs := [.tmp 4, .tmp 6]) (l := [x0.a, x0.b]) Tryd.underlying66 Tryd.sizeOf2 Tryd.zeroValue2 rfl F rfl rfl rfl (by simp) (by simp) rfl (by simp only [List.forall_mem_cons, List.not_mem_nil, false_implies, implies_true, and_true]; exact ⟨i15, i16⟩) (fun a w v43 rb44 h45 l F => ?_)
  replace h45 := h45.base hB.size
  replace hB := Below.through l hB
  refine x_end ?_
  refine x_tn ?_
  refine ⟨.inl l, ?_⟩
  refine b_e 5 rfl (by kernel_rfl) ?_
  refine o_litI (xs := [.const (.int .i64 2), .const (.int .i64 1), .const (.int .i64 1), .const (.int .i64 1), .const (.int .i64 1), .const (.int .i64 1), .const (.int .i64 0), .const (.int .i64 0)]) (l := [2, 1, 1, 1, 1, 1, 0, 0]) Tryd.underlying78 Tryd.sizeOf3 Tryd.zeroValue3 rfl F rfl rfl rfl (by decide) (by decide) rfl (by simp only [List.forall_mem_cons, List.not_mem_nil, false_implies, implies_true, and_true]; exact ⟨(show I64 (2) by decide), (show I64 (1) by decide), (show I64 (1) by decide), (show I64 (1) by decide), (show I64 (1) by decide), (show I64 (1) by decide), (show I64 (0) by decide), (show I64 (0) by decide)⟩) (fun a w v47 rb48 h49 l F => ?_)
  have d51 := Dj.new h45.rd.m h49.ownR (Nat.le_refl _)
  have d52 := Dj.app' (Dj.new h45.memR h49.ownR (Nat.le_refl _)).symm (Dj.nil' _)
  replace h49 := h49.base hB.size
  replace hB := Below.through l hB
  replace h45 := h45.go l
  refine x_end ?_
  refine x_tn ?_
  refine ⟨.inl l, ?_⟩
  refine b_q 9 (by kernel_rfl) rfl (by kernel_rfl) (by kernel_rfl) (by kernel_rfl) (by kernel_rfl) ?_
  refine v_index Tryd.underlying78 Tryd.sizeOf3 F rfl rfl rfl h49.rd c31 (fun a p53 b54 h55 s56 F => ?_)
  refine b_q 10 (by kernel_rfl) rfl (by kernel_rfl) (by kernel_rfl) (by kernel_rfl) (by kernel_rfl) ?_
  have i57 := (h55).i64
  refine v_val F rfl (fun w l => r_loadI Tryd.isAgg3 F rfl ((h55).go l)) (fun a F => ?_)
  exact H77 v43 rb44 _ _ (F.sub (sc rfl (sc rfl (sc rfl sn)))) hB h45 i57 _ (by kernel_rfl)
 refine o_litI (xs := [.const (.int .i64 2), .const (.int .i64 1), .const (.int .i64 1), .const (.int .i64 1), .const (.int .i64 1), .const (.int .i64 1), .const (.int .i64 0), .const (.int .i64 0)]) (l := [2, 1, 1, 1, 1, 1, 0, 0]) Tryd.underlying78 Tryd.sizeOf3 Tryd.zeroValue3 rfl F rfl rfl rfl (by decide) (by decide) rfl (by simp only [List.forall_mem_cons, List.not_mem_nil, false_implies, implies_true, and_true]; exact ⟨(show I64 (2) by decide), (show I64 (1) by decide), (show I64 (1) by decide), (show I64 (1) by decide), (show I64 (1) by decide), (show I64 (1) by decide), (show I64 (0) by decide), (show I64 (0) by decide)⟩) (fun a w v58 rb59 h60 l F => ?_)
 replace h60 := h60.base hB.size
 replace hB := Below.through l hB
 refine x_end ?_
 refine x_tn ?_
 refine ⟨.inl l, ?_⟩
 refine b_q 9 (by kernel_rfl) rfl (by kernel_rfl) (by kernel_rfl) (by kernel_rfl) (by kernel_rfl) ?_
 refine v_index Tryd.underlying78 Tryd.sizeOf3 F rfl rfl rfl h60.rd c31 (fun a p62 b63 h64 s65 F => ?_)
 refine b_q 10 (by kernel_rfl) rfl (by kernel_rfl) (by kernel_rfl) (by kernel_rfl) (by kernel_rfl) ?_
 have i66 := (h64).i64
 refine v_val F rfl (fun w l => r_loadI Tryd.isAgg3 F rfl ((h64).go l)) (fun a F => ?_)
 refine b_e 4 rfl (by kernel_rfl) ?_
 refine o_litI (xs := [.tmp 4, .tmp 6]) (l := [x0.a, x0.b]) Tryd.underlying66 Tryd.sizeOf2 Tryd.zeroValue2 rfl F rfl rfl rfl (by simp) (by simp) rfl (by simp only [List.forall_mem_cons, List.not_mem_nil, false_implies, implies_true, and_true]; exact ⟨i15, i16⟩) (fun a w v67 rb68 h69 l F => ?_)
 have d71 := Dj.app' (Dj.new h60.memR h69.ownR (Nat.le_refl _)).symm (Dj.nil' _)
 replace h69 := h69.base hB.size
 replace hB := Below.through l hB
 refine x_end ?_
 refine x_tn ?_
 refine ⟨.inl l, ?_⟩
 exact H77 v67 rb68 _ _ (F.sub (sc rfl (sc rfl (sc rfl sn)))) hB h69 i66 _ (by kernel_rfl)

def impl_ValidDeed_1 (x0 : Int) : Option Bool :=
 some ((x0 != 0))
set_option maxHeartbeats 1000000 in
theorem impl_ValidDeed_1_c {x0 : Int} (r : Bool) (hR : impl_ValidDeed_1 x0 = some r)  (w0 : World) (hx0 : I64 x0) : Calls Tryd.prog 67 #[.int .i64 x0] w0 (Says (.bool r) w0) := by
 unfold impl_ValidDeed_1 at hR
 refine x_enter (L := [(0, .int .i64 x0)]) Tryd.func67 rfl rfl rfl (sc rfl sn) (fun a F => ?_)
 have hB := Below.refl w0.heap.size w0
 refine x_seq ?_
 refine x_reg ?_
 refine o_assign F rfl rfl (fun a F => ?_)
 refine x_end ?_
 refine x_tn ?_
 refine x_seq ?_
 refine x_reg ?_
 refine o_move F rfl rfl (fun a F => ?_)
 refine o_neq F rfl rfl rfl (fun a F => ?_)
 refine o_assign F rfl rfl (fun a F => ?_)
 refine x_end ?_
 refine x_tn ?_
 refine x_ret ?_
 refine x_res1 F rfl (rv_t F rfl) ?_
 obtain rfl := Option.some.inj hR
 exact ⟨rfl, hB⟩

def impl_ValidDeed (x0 : Deed) : Option Bool :=
 thn (σ := Bool) (
  bnd (impl_within x0.kind 1 8) fun z32 =>
  if (!z32) then  some (.nx true) else  bnd (impl_areValues 1000 ([x0.a, x0.b]) 2) fun z35 =>
   some (.nx (!z35))) fun s31 =>
 if s31 then
  some false
 else
  bnd (impl_Deed_mentioned (Deed.mk x0.kind x0.a x0.b)) fun z39 =>
  bnd (sl ([x0.a, x0.b]) (z39.length : Int) (([x0.a, x0.b]).length : Int)) fun z46 =>
  bnd (slices_ContainsFunc_s_int64_int64 z46 (fun a0 => impl_ValidDeed_1 a0)) fun z52 =>
  some ((!z52))
set_option maxHeartbeats 1000000 in
theorem impl_ValidDeed_c {x0 : Deed} (r : Bool) (hR : impl_ValidDeed x0 = some r) {v0 : Value} {b0 : List Nat} (w0 : World) (A0 : Rd (Agg 3 RDeed) w0 v0 x0 b0) : Calls Tryd.prog 42 #[v0] w0 (Says (.bool r) w0) := by
 unfold impl_ValidDeed at hR
 refine x_enter (L := [(0, v0)]) Tryd.func42 rfl rfl rfl (sc rfl sn) (fun a F => ?_)
 have hB := Below.refl w0.heap.size w0
 refine x_seq ?_
 refine x_reg ?_
 obtain ⟨e17, i14, i15, i16, eb13⟩ := RDeed.rd (A0.go hB)
 subst e17
 refine o_box F rfl rfl rfl (fun a w b11 K12 l BK12 F => ?_)
 have CK12 := Nat.le_trans hB.size BK12
 replace hB := Below.through l hB
 refine o_assign F rfl rfl (fun a F => ?_)
 refine x_end ?_
 refine x_tn ?_
 refine x_seq ?_
 refine x_reg ?_
 refine o_bfield fa38_1 F rfl rfl rfl (fun a F => ?_)
 refine o_bload Tryd.isAgg2 F rfl rfl K12 rfl (fun a F => ?_)
 refine o_bfield fa38_2 F rfl rfl rfl (fun a F => ?_)
 refine o_bload Tryd.isAgg2 F rfl rfl K12 rfl (fun a F => ?_)
 refine o_litI (xs := [.tmp 5, .tmp 7]) (l := [x0.a, x0.b]) Tryd.underlying66 Tryd.sizeOf2 Tryd.zeroValue2 rfl F rfl rfl rfl (by simp) (by simp) rfl (by simp only [List.forall_mem_cons, List.not_mem_nil, false_implies, implies_true, and_true]; exact ⟨i15, i16⟩) (fun a w v18 rb19 h20 l F => ?_)
 have d22 := Dj.new (inm1 K12) h20.ownR (Nat.le_refl _)
 replace h20 := h20.base hB.size
 replace hB := Below.through l hB
 replace K12 := K12.thru l
 refine o_assign F rfl rfl (fun a F => ?_)
 refine x_end ?_
 refine x_tn ?_
 refine x_seq ?_
 refine x_seq ?_
 obtain ⟨o28, hR, hk29⟩ := thn_some hR
 refine x_cutQ (fun a w => ∃ (s31 : Bool), o28 = .nx s31 ∧ Sk a 25 [(1, .pointer (some ⟨b11, 0, none⟩)), (3, v18), (17, .bool s31)] ∧ Below w0.heap.size w0 w ∧ Row 1 RInt 2 w0.heap.size w v18 ([x0.a, x0.b]) rb19 ([]) ∧ Blk w b11 #[.int .i64 x0.kind, .int .i64 x0.a, .int .i64 x0.b] 38) ?_ ?_
 ·
  refine x_reg ?_
  refine o_bfield fa38_0 F rfl rfl rfl (fun a F => ?_)
  refine o_bload Tryd.isAgg2 F rfl rfl K12 rfl (fun a F => ?_)
  obtain ⟨z32, c33, hR⟩ := bnd_some hR
  refine o_says F rfl Tryd.call61 rfl (impl_within_c z32 c33 _ i14 (show I64 (1) by decide) (show I64 (8) by decide)) (fun a w l F => ?_)
  replace hB := Below.through l hB
  replace h20 := h20.go l
  replace K12 := K12.thru l
  refine o_not F rfl rfl (fun a F => ?_)
  refine o_move F rfl rfl (fun a F => ?_)
  rcases bcases (!z32) with hb34 | hb34
  ·
   replace hR := ifT hb34 hR
   have F := F.eq (t := 13) rfl (congrArg Value.bool hb34)
   refine o_no F rfl rfl (fun a F => ?_)
   refine o_no F rfl rfl (fun a F => ?_)
   refine o_no F rfl rfl (fun a F => ?_)
   refine o_pickt F rfl rfl rfl (fun a F => ?_)
   refine x_end ?_
   refine x_tn ?_
   exact ⟨true, (Option.some.inj hR).symm, F.sub (sc rfl (sc rfl (sc rfl sn))), hB, h20, K12⟩
  replace hR := ifF hb34 hR
  have F := F.eq (t := 13) rfl (congrArg Value.bool hb34)
  refine o_move F rfl rfl (fun a F => ?_)
  obtain ⟨z35, c36, hR⟩ := bnd_some hR
  refine o_says F rfl Tryd.call62 rfl (impl_areValues_c z35 c36 _ (show I64 (1000) by decide) h20.rd (show I64 (2) by decide)) (fun a w l F => ?_)
  replace hB := Below.through l hB
  replace h20 := h20.go l
  replace K12 := K12.thru l
  refine o_not F rfl rfl (fun a F => ?_)
  refine o_pickf F rfl rfl rfl (fun a F => ?_)
  refine x_end ?_
  refine x_tn ?_
  exact ⟨(!z35), (Option.some.inj hR).symm, F.sub (sc rfl (sc rfl (sc rfl sn))), hB, h20, K12⟩
 intro a w ⟨s31, ho30, F, hB, h20, K12⟩
 subst ho30
 have hR := then_nx hk29
 refine x_tn ?_
 refine x_if F rfl (fun hb37 => ?_) (fun hb37 => ?_)
 ·
  replace hR := ifT hb37 hR
  refine x_seq ?_
  refine x_reg ?_
  refine o_assign F rfl rfl (fun a F => ?_)
  refine x_end ?_
  refine x_tn ?_
  refine x_ret ?_
  refine x_tr ?_
  refine x_res1 F rfl (rv_t F rfl) ?_
  obtain rfl := Option.some.inj hR
  exact ⟨rfl, hB⟩
 replace hR := ifF hb37 hR
 refine x_skip ?_
 refine x_tn ?_
 refine x_seq ?_
 refine x_reg ?_
 refine o_move F rfl rfl (fun a F => ?_)
 refine o_bloadA (cs := [.int .i64 x0.kind, .int .i64 x0.a, .int .i64 x0.b]) Tryd.isAgg38 Tryd.sizeOf38 F rfl rfl K12 rfl (fun j hj => by match j, hj with | 0, _ => rfl | 1, _ => rfl | 2, _ => rfl) (fun a F => ?_)
 have h38 := RDeed.mk2 (w := w) i14 i15 i16
 obtain ⟨z39, c40, hR⟩ := bnd_some hR
 refine o_gives F rfl Tryd.call44 rfl (impl_Deed_mentioned_c z39 c40 _ h38) (fun a vv w l ⟨v41, b42, hv44, h43⟩ F => ?_)
 subst vv
 replace hB := Below.through l hB
 replace h20 := h20.go l
 refine o_len Tryd.underlying66 F rfl rfl h43 (fun a F => ?_)
 have i45 := (h43).r.len64
 obtain ⟨z46, c47, hR⟩ := bnd_some hR
 refine o_slicel Tryd.underlying66 Tryd.sizeOf2 F rfl rfl rfl h20.rd c47 (fun a v48 b49 h50 s51 F => ?_)
 obtain ⟨z52, c53, hR⟩ := bnd_some hR
 refine o_says F rfl Tryd.call63 rfl (slices_ContainsFunc_s_int64_int64_c z52 c53 _ h50 Tryd.call67 (fun a0 r h W l f0 => impl_ValidDeed_1_c r h W f0)) (fun a w l F => ?_)
 replace hB := Below.through l hB
 refine o_not F rfl rfl (fun a F => ?_)
 refine o_assign F rfl rfl (fun a F => ?_)
 refine x_end ?_
 refine x_tn ?_
 refine x_ret ?_
 refine x_res1 F rfl (rv_t F rfl) ?_
 obtain rfl := Option.some.inj hR
 exact ⟨rfl, hB⟩

def impl_deedWords : Option (List ByteArray) :=
 bnd (strings_Split (bstr [103, 105, 118, 101, 32, 119, 111, 114, 107, 32, 100, 101, 108, 105, 118, 101, 114, 32, 99, 111, 112, 121, 32, 100, 114, 111, 112, 32, 115, 112, 111, 105, 108, 32, 115, 97, 118, 101, 32, 99, 114, 97, 115, 104]) (bstr [32])) fun z11 =>
 some z11
set_option maxHeartbeats 1000000 in
theorem impl_deedWords_c (r : (List ByteArray)) (hR : impl_deedWords = some r)  (w0 : World) (hG : Glo w0) : Calls Tryd.prog 43 #[] w0 (Gives (fun v w' => ∃ (v1' : Value) (rb2' : List Nat), v = v1' ∧ Row 1 RStr 9 w0.heap.size w' v1' r rb2' []) w0) := by
 unfold impl_deedWords at hR
 refine x_enter (L := []) Tryd.func43 rfl rfl rfl sn (fun a F => ?_)
 have hB := Below.refl w0.heap.size w0
 refine x_seq ?_
 refine x_reg ?_
 refine o_assign F rfl rfl (fun a F => ?_)
 refine x_end ?_
 refine x_tn ?_
 refine x_seq ?_
 refine x_reg ?_
 obtain ⟨z11, c12, hR⟩ := bnd_some hR
 refine o_gives F rfl Tryd.call54 rfl (strings_Split_c z11 c12 _ (hG.go hB) (by decide) (by decide)) (fun a vv w l ⟨v13, rb14, hv17, h16⟩ F => ?_)
 subst vv
 replace h16 := h16.base hB.size
 replace hB := Below.through l hB
 refine o_assign F rfl rfl (fun a F => ?_)
 refine x_end ?_
 refine x_tn ?_
 refine x_ret ?_
 refine x_res1 F rfl (rv_t F rfl) ?_
 obtain rfl := Option.some.inj hR
 exact ⟨_, rfl, hB, v13, rb14, rfl, h16⟩

def impl_DeedText (x0 : Deed) : Option ByteArray :=
 bnd (impl_ValidDeed (Deed.mk x0.kind x0.a x0.b)) fun z19 =>
 if (!z19) then
  some ((bstr []))
 else
  bnd (ck (x0.kind - 1)) fun z22 =>
  bnd (impl_deedWords) fun z24 =>
  bnd (ix z24 z22) fun z33 =>
  bnd (impl_Deed_mentioned (Deed.mk x0.kind x0.a x0.b)) fun z41 =>
  thn (σ := ByteArray) (
   forL (σ := ByteArray) (ρ := ByteArray) (fun (k73 : Nat) (x75 : Int) (s69 : ByteArray) =>
    bnd (impl_dec x75) fun z84 =>
    bnd (scat (bstr [32]) z84) fun z88 =>
    bnd (scat s69 z88) fun z90 =>
    some (.go z90)) z41 0 z33) fun s71 =>
  some s71
set_option maxHeartbeats 1000000 in
theorem impl_DeedText_c {x0 : Deed} (r : ByteArray) (hR : impl_DeedText x0 = some r) {v0 : Value} {b0 : List Nat} (w0 : World) (hG : Glo w0) (A0 : Rd (Agg 3 RDeed) w0 v0 x0 b0) : Calls Tryd.prog 19 #[v0] w0 (Gives (fun v w' => v = .string r ∧ r.size ≤ maxLen) w0) := by
 unfold impl_DeedText at hR
 refine x_enter (L := [(0, v0)]) Tryd.func19 rfl rfl rfl (sc rfl sn) (fun a F => ?_)
 have hB := Below.refl w0.heap.size w0
 refine x_seq ?_
 refine x_reg ?_
 obtain ⟨e17, i14, i15, i16, eb13⟩ := RDeed.rd (A0.go hB)
 subst e17
 refine o_box F rfl rfl rfl (fun a w b11 K12 l BK12 F => ?_)
 have CK12 := Nat.le_trans hB.size BK12
 replace hB := Below.through l hB
 refine o_assign F rfl rfl (fun a F => ?_)
 refine x_end ?_
 refine x_tn ?_
 refine x_seq ?_
 refine x_seq ?_
 refine x_reg ?_
 refine o_bloadA (cs := [.int .i64 x0.kind, .int .i64 x0.a, .int .i64 x0.b]) Tryd.isAgg38 Tryd.sizeOf38 F rfl rfl K12 rfl (fun j hj => by match j, hj with | 0, _ => rfl | 1, _ => rfl | 2, _ => rfl) (fun a F => ?_)
 have h18 := RDeed.mk2 (w := w) i14 i15 i16
 obtain ⟨z19, c20, hR⟩ := bnd_some hR
 refine o_says F rfl Tryd.call42 rfl (impl_ValidDeed_c z19 c20 _ h18) (fun a w l F => ?_)
 replace hB := Below.through l hB
 replace K12 := K12.thru l
 refine o_not F rfl rfl (fun a F => ?_)
 refine x_end ?_
 refine x_tn ?_
 refine x_if F rfl (fun hb21 => ?_) (fun hb21 => ?_)
 ·
  replace hR := ifT hb21 hR
  refine x_seq ?_
  refine x_reg ?_
  refine o_assign F rfl rfl (fun a F => ?_)
  refine x_end ?_
  refine x_tn ?_
  refine x_ret ?_
  refine x_tr ?_
  refine x_res1 F rfl (rv_t F rfl) ?_
  obtain rfl := Option.some.inj hR
  exact ⟨_, rfl, hB, rfl, (by decide)⟩
 replace hR := ifF hb21 hR
 refine x_skip ?_
 refine x_tn ?_
 refine x_seq ?_
 refine x_drawn (by kernel_rfl) (fun w l => ?_)
 replace hB := Below.through l hB
 replace K12 := K12.thru l
 refine b_q 1 (by kernel_rfl) rfl (by kernel_rfl) (by kernel_rfl) (by kernel_rfl) (by kernel_rfl) ?_
 refine v_val F rfl (fun w l => r_bfield fa38_0 F rfl rfl) (fun a F => ?_)
 refine b_q 2 (by kernel_rfl) rfl (by kernel_rfl) (by kernel_rfl) (by kernel_rfl) (by kernel_rfl) ?_
 refine v_val F rfl (fun w l => r_load1 Tryd.isAgg2 F rfl (((K12.thru l).cell _).trans rfl)) (fun a F => ?_)
 refine b_q0 3 rfl (by kernel_rfl) (by kernel_rfl) (by kernel_rfl) ?_
 obtain ⟨z22, c23, hR⟩ := bnd_some hR
 refine v_val F rfl (fun w l => r_sub F rfl rfl c23) (fun a F => ?_)
 refine b_e 0 rfl (by kernel_rfl) ?_
 obtain ⟨z24, c25, hR⟩ := bnd_some hR
 refine o_gives F rfl Tryd.call43 rfl (impl_deedWords_c z24 c25 _ (hG.go hB)) (fun a vv w l ⟨v26, rb27, hv30, h29⟩ F => ?_)
 subst vv
 have d32 := Dj.new (inm1 K12) h29.ownR (Nat.le_refl _)
 replace h29 := h29.base hB.size
 replace hB := Below.through l hB
 replace K12 := K12.thru l
 refine x_end ?_
 refine x_tn ?_
 refine ⟨.inl l, ?_⟩
 refine b_q 4 (by kernel_rfl) rfl (by kernel_rfl) (by kernel_rfl) (by kernel_rfl) (by kernel_rfl) ?_
 obtain ⟨z33, c34, hR⟩ := bnd_some hR
 refine v_index Tryd.underlying63 Tryd.sizeOf9 F rfl rfl rfl h29.rd c34 (fun a p35 b36 h37 s38 F => ?_)
 refine b_q 5 (by kernel_rfl) rfl (by kernel_rfl) (by kernel_rfl) (by kernel_rfl) (by kernel_rfl) ?_
 have i39 := (h37).str
 refine v_val F rfl (fun w l => r_loadT Tryd.isAgg9 F rfl ((h37).go l)) (fun a F => ?_)
 refine b_q0 6 rfl (by kernel_rfl) (by kernel_rfl) (by kernel_rfl) ?_
 refine v_val F rfl (fun w l => r_assign F rfl) (fun a F => ?_)
 refine b_end (by kernel_rfl) ?_
 refine x_tn ?_
 refine x_seq ?_
 refine x_seq ?_
 refine x_reg ?_
 refine o_bloadA (cs := [.int .i64 x0.kind, .int .i64 x0.a, .int .i64 x0.b]) Tryd.isAgg38 Tryd.sizeOf38 F rfl rfl K12 rfl (fun j hj => by match j, hj with | 0, _ => rfl | 1, _ => rfl | 2, _ => rfl) (fun a F => ?_)
 have h40 := RDeed.mk2 (w := w) i14 i15 i16
 obtain ⟨z41, c42, hR⟩ := bnd_some hR
 refine o_gives F rfl Tryd.call44 rfl (impl_Deed_mentioned_c z41 c42 _ h40) (fun a vv w l ⟨v43, b44, hv46, h45⟩ F => ?_)
 subst vv
 replace hB := Below.through l hB
 refine o_len Tryd.underlying66 F rfl rfl h45 (fun a F => ?_)
 have i47 := (h45).r.len64
 refine o_move F rfl rfl (fun a F => ?_)
 refine x_end ?_
 refine x_tn ?_
 obtain ⟨o63, hR, hk64⟩ := thn_some hR
 refine x_cutQ (fun a w => ∃ (s71 : ByteArray), o63 = .nx s71 ∧ Sk a 29 [(3, .string s71)] ∧ Below w0.heap.size w0 w ∧ s71.size ≤ maxLen) ?_ ?_
 ·
  refine x_blk ?_
  obtain ⟨fl67, hf68, hR⟩ := forL_gen hR
  refine x_loop (fun g a w => ∃ (k73 : Nat) (rest74 : List Int) (s69 : ByteArray), (k73 ≤ z41.length ∧ z41.drop k73 = rest74) ∧ rest74.length = g ∧ forL fl67 rest74 k73 s69 = some o63 ∧ Sk a 29 [(18, .int .i64 (k73 : Int)), (3, .string s69), (16, v43), (17, .int .i64 (z41.length : Int))] ∧ Below w0.heap.size w0 w ∧ s69.size ≤ maxLen ∧ Rd (Sl 1 RInt) w v43 z41 b44) z41.length ?_ ?_
  ·
   exact ⟨0, z41, z33, ⟨Nat.zero_le _, rfl⟩, rfl, hR, F.sub (sc rfl (sc rfl (sc rfl (sc rfl sn)))), hB, i39, h45⟩
  intro g76 a w ⟨k73, rest74, s69, hd77, hg78, hR, F, hB, i70, h45⟩
  cases rest74 with
  | nil =>
   replace hR := forL_nil hR
   have hkk73 := drop_nil hd77.1 hd77.2
   have hlk73 := dec_no hkk73
   refine x_seq ?_
   refine x_reg ?_
   refine o_lss F rfl rfl rfl (fun a F => ?_)
   refine x_end ?_
   refine x_tn ?_
   refine x_seq ?_
   refine x_ifF F rfl hlk73 ?_
   refine x_exit ?_
   refine x_te ?_
   refine x_te ?_
   refine x_be ?_
   refine x_tn ?_
   exact ⟨s69, (Option.some.inj hR).symm, F.sub (sc rfl sn), hB, i70⟩
  | cons x75 rest74 =>
   subst hg78
   replace hd77 := drop_cons hd77.2
   have hxk73 := ix_nat hd77.2.1
   obtain ⟨ck73, hR, hn66⟩ := forL_cons hR
   rw [hf68] at hR
   have hlk73 := dec_yes hd77.1
   refine x_seq ?_
   refine x_reg ?_
   refine o_lss F rfl rfl rfl (fun a F => ?_)
   refine x_end ?_
   refine x_tn ?_
   refine x_seq ?_
   refine x_ifT F rfl hlk73 ?_
   refine x_skip ?_
   refine x_tn ?_
   refine x_seq ?_
   have ikk73 := k64 (Nat.le_of_lt hd77.1) i47
   have ink73 := inc64 hd77.1 i47
   refine x_blk ?_
   refine x_seq ?_
   refine x_reg ?_
   refine o_index Tryd.underlying66 Tryd.sizeOf2 F rfl rfl rfl h45 hxk73 (fun a p79 b80 h81 s82 F => ?_)
   have i83 := (h81).i64
   refine o_loadI Tryd.isAgg2 F rfl rfl h81 (fun a F => ?_)
   refine o_assign F rfl rfl (fun a F => ?_)
   refine x_end ?_
   refine x_tn ?_
   refine x_reg ?_
   refine o_move F rfl rfl (fun a F => ?_)
   refine o_move F rfl rfl (fun a F => ?_)
   obtain ⟨z84, c85, hR⟩ := bnd_some hR
   refine o_gives F rfl Tryd.call45 rfl (impl_dec_c z84 c85 _ (hG.go hB) i83) (fun a vv w l ⟨hv87, i86⟩ F => ?_)
   subst vv
   replace hB := Below.through l hB
   replace h45 := h45.go l
   obtain ⟨z88, c89, hR⟩ := bnd_some hR
   refine o_scat F rfl rfl rfl c89 (fun a F => ?_)
   obtain ⟨z90, c91, hR⟩ := bnd_some hR
   refine o_scat F rfl rfl rfl c91 (fun a F => ?_)
   refine o_assign F rfl rfl (fun a F => ?_)
   refine x_end ?_
   refine x_bn ?_
   refine x_tn ?_
   refine x_reg ?_
   refine o_inc F rfl rfl rfl ink73 (fun a F => ?_)
   refine o_move F rfl rfl (fun a F => ?_)
   refine x_end ?_
   refine x_tn ?_
   replace hR := l_go hR hn66
   exact ⟨_, Nat.lt_succ_self _, k73 + 1, rest74, z90, ⟨hd77.1, hd77.2.2⟩, rfl, hR, F.sub (sc rfl (sc rfl (sc rfl (sc rfl sn)))), hB, (scat_sz c91), h45⟩
 intro a w ⟨s71, ho65, F, hB, i72⟩
 subst ho65
 have hR := then_nx hk64
 refine x_tn ?_
 refine x_seq ?_
 refine x_reg ?_
 refine o_move F rfl rfl (fun a F => ?_)
 refine o_assign F rfl rfl (fun a F => ?_)
 refine x_end ?_
 refine x_tn ?_
 refine x_ret ?_
 refine x_res1 F rfl (rv_t F rfl) ?_
 obtain rfl := Option.some.inj hR
 exact ⟨_, rfl, hB, rfl, i72⟩
end Go.Proofs.YtjjdbdlbjdoebaaDoor
