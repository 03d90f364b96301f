/-
  Functions of the program as plain functions, and that they compute them. Printed by sg.py.
-/
import Derived.Test.YtmgdjaiaekhkgaaGreatZ
import Derived.Test.YtmgdjaiaekhkgaaGreatNF
namespace Go.Proofs.YtmgdjaiaekhkgaaGreat
open Go.Proofs.Tryz
set_option maxHeartbeats 1000000
set_option linter.unusedVariables false
set_option linter.unusedSimpArgs false
set_option maxRecDepth 100000
open Go.RowKit
def spec_l00In (x0 : Int) (x1 : Int) (x2 : Int) : Option Bool :=
 kJ (σ := Bool) (
  if (decide (x1 ≤ x0)) then  some (.nx (decide (x0 ≤ x2))) else  some (.nx false)) fun s15 =>
 some s15
theorem spec_l00In_c {B : Nat → Prop} {x0 : Int} {x1 : Int} {x2 : Int} (r : Bool) (hR : spec_l00In x0 x1 x2 = some r)  (w0 : World) (hN : ∀ c, B c → c < w0.heap.size) (hx0 : xY x0) (hx1 : xY x1) (hx2 : xY x2) : Calls Tryz.prog 133 #[.int .i64 x0, .int .i64 x1, .int .i64 x2] w0 (vR (.bool r) w0) := by
 unfold spec_l00In at hR
 refine oD (L := [(0, .int .i64 x0), (1, .int .i64 x1), (2, .int .i64 x2)]) func133 rfl rfl rfl (sc rfl (sc rfl (sc rfl sn))) (fun a F => ?_)
 have H := Sep.start hN
 refine xC (xH (xA F rfl rfl fun a F => xF (xG (xC ?_))))
 obtain ⟨o12, hR, hk13⟩ := xS hR
 refine oQ (fun a w => ∃ (s15 : Bool), o12 = .nx s15 ∧ Sk a 15 [(6, .bool s15)] ∧ Sep [] B w0 w []) ?_ ?_
 ·
  refine xH (xB F rfl rfl fun a F => xB F rfl rfl fun a F => o_geq F rfl rfl rfl fun a F => xB F rfl rfl (fun a F => ?_))
  rcases vD (decide (x1 ≤ x0)) with hb16 | hb16
  ·
   replace hR := zD hb16 hR
   have F := F.eq (t := 10) rfl (congrArg Value.bool hb16)
   refine xB F rfl rfl fun a F => xB F rfl rfl fun a F => o_leq F rfl rfl rfl fun a F => vH F rfl rfl rfl fun a F => xA F rfl rfl fun a F => xF (xG ?_)
   exact ⟨(decide (x0 ≤ x2)), (Option.some.inj hR).symm, F.sub (sc rfl sn), H⟩
  replace hR := zE hb16 hR
  have F := F.eq (t := 10) rfl (congrArg Value.bool hb16)
  refine oH F rfl rfl fun a F => oH F rfl rfl fun a F => oH F rfl rfl fun a F => qZ F rfl rfl rfl fun a F => xA F rfl rfl fun a F => xF (xG ?_)
  exact ⟨false, (Option.some.inj hR).symm, F.sub (sc rfl sn), H⟩
 intro a w ⟨s15, ho14, F, H⟩
 subst ho14
 have hR := xZ hk13
 refine xG (xW (xR F rfl (oO F rfl) ?_))
 obtain rfl := Option.some.inj hR
 exact ⟨rfl, H.bl⟩

def spec_l01Size (x0 : Int) : Option Bool :=
 oJ (spec_l00In x0 1 4) fun z11 =>
 some z11
theorem spec_l01Size_c {B : Nat → Prop} {x0 : Int} (r : Bool) (hR : spec_l01Size x0 = some r)  (w0 : World) (hN : ∀ c, B c → c < w0.heap.size) (hx0 : xY x0) : Calls Tryz.prog 191 #[.int .i64 x0] w0 (vR (.bool r) w0) := by
 unfold spec_l01Size at hR
 refine oD (L := [(0, .int .i64 x0)]) func191 rfl rfl rfl (sc rfl sn) (fun a F => ?_)
 have H := Sep.start hN
 refine xC (xH (xA F rfl rfl fun a F => xF (xG (xC (xH (xB F rfl rfl (fun a F => ?_)))))))
 obtain ⟨z11, c12, hR⟩ := xI hR
 refine oK F rfl call133 rfl H (spec_l00In_c z11 c12 _ aA hx0 (show xY (1) by decide) (show xY (4) by decide)) fun a w H F => xA F rfl rfl fun a F => xF (xG (xW (xR F rfl (oO F rfl) ?_)))
 obtain rfl := Option.some.inj hR
 exact ⟨rfl, H.bl⟩

def spec_l01Arity (x0 : Int) : Option Bool :=
 oJ (spec_l00In x0 1 4) fun z11 =>
 some z11
theorem spec_l01Arity_c {B : Nat → Prop} {x0 : Int} (r : Bool) (hR : spec_l01Arity x0 = some r)  (w0 : World) (hN : ∀ c, B c → c < w0.heap.size) (hx0 : xY x0) : Calls Tryz.prog 229 #[.int .i64 x0] w0 (vR (.bool r) w0) := by
 unfold spec_l01Arity at hR
 refine oD (L := [(0, .int .i64 x0)]) func229 rfl rfl rfl (sc rfl sn) (fun a F => ?_)
 have H := Sep.start hN
 refine xC (xH (xA F rfl rfl fun a F => xF (xG (xC (xH (xB F rfl rfl (fun a F => ?_)))))))
 obtain ⟨z11, c12, hR⟩ := xI hR
 refine oK F rfl call133 rfl H (spec_l00In_c z11 c12 _ aA hx0 (show xY (1) by decide) (show xY (4) by decide)) fun a w H F => xA F rfl rfl fun a F => xF (xG (xW (xR F rfl (oO F rfl) ?_)))
 obtain rfl := Option.some.inj hR
 exact ⟨rfl, H.bl⟩

def spec_l01Tuple (x0 : Int) (x1 : Int) (x2 : List Int) : Option Bool :=
 kJ (σ := Unit) (
  qT (σ := Unit) (ρ := Bool) (fun (k27 : Nat) (x29 : Int) (s : Unit) =>
    match s with
    | _ =>
    oJ (ck (x0 - 1)) fun z37 =>
    oJ (spec_l00In x29 0 z37) fun z39 =>
    if (!z39) then
     some (.ret false)
    else
     some (.go ())) x2 0 ()) fun _ =>
 some (((x2.length : Int) == x1))
theorem spec_l01Tuple_c {B : Nat → Prop} {x0 : Int} {x1 : Int} {x2 : List Int} (r : Bool) (hR : spec_l01Tuple x0 x1 x2 = some r) {v2 : Value} (w0 : World) (hN : ∀ c, B c → c < w0.heap.size) (hx0 : xY x0) (hx1 : xY x1) (A2 : Bo B w0 (Sl 1 xK) v2 x2) : Calls Tryz.prog 72 #[.int .i64 x0, .int .i64 x1, v2] w0 (vR (.bool r) w0) := by
 unfold spec_l01Tuple at hR
 refine oD (L := [(0, .int .i64 x0), (1, .int .i64 x1), (2, v2)]) func72 rfl rfl rfl (sc rfl (sc rfl (sc rfl sn))) (fun a F => ?_)
 have H := Sep.start hN
 refine xC (xH (xA F rfl rfl fun a F => xF (xG (xC (xC (xH (xA F rfl rfl fun a F => xF (xG ?_))))))))
 obtain ⟨o21, hR, hk22⟩ := xS hR
 refine oQ (fun a w => o21 = .nx () ∧ Sk a 26 [(1, .int .i64 x1), (2, v2)] ∧ Sep [] B w0 w []) ?_ ?_
 ·
  refine oU ?_
  obtain ⟨fl25, hf26, hR⟩ := qP hR
  refine qU (fun g a w => ∃ (k27 : Nat) (rest28 : List Int), (k27 ≤ x2.length ∧ x2.drop k27 = rest28) ∧ rest28.length = g ∧ qT fl25 rest28 k27 () = some o21 ∧ Sk a 26 [(7, .int .i64 (k27 : Int)), (0, .int .i64 x0), (1, .int .i64 x1), (2, v2)] ∧ Sep [] B w0 w []) x2.length ?_ ?_
  ·
   exact ⟨0, x2, ⟨Nat.zero_le _, rfl⟩, rfl, hR, F.sub (sc rfl (sc rfl (sc rfl (sc rfl sn)))), H⟩
  intro g30 a w ⟨k27, rest28, hd31, hg32, hR, F, H⟩
  cases rest28 with
  | nil =>
   replace hR := qS hR
   have hkk27 := qR hd31.1 hd31.2
   have hlk27 := vW hkk27
   refine xC (xC (xH (xB F rfl rfl fun a F => xB F rfl rfl fun a F => oL underlying42 F rfl rfl A2 fun a i42 F => oR F rfl rfl rfl fun a F => xF (xG (vV F rfl hlk27 (qK ?_))))))
   refine qQ (qQ (zT (xG ?_)))
   exact ⟨(Option.some.inj hR).symm, F.sub (sc rfl (sc rfl sn)), H⟩
  | cons x29 rest28 =>
   subst hg32
   replace hd31 := qD hd31.2
   have hxk27 := qG hd31.2.1
   obtain ⟨ck27, hR, hn24⟩ := qC hR
   rw [hf26] at hR
   have hlk27 := vA hd31.1
   refine xC (xC (xH (xB F rfl rfl fun a F => xB F rfl rfl fun a F => oL underlying42 F rfl rfl A2 fun a i33 F => oR F rfl rfl rfl fun a F => xF (xG (vZ F rfl hlk27 (xO ?_))))))
   refine xG (xC ?_)
   have ikk27 := k64 (Nat.le_of_lt hd31.1) i33
   have ink27 := zW hd31.1 i33
   refine oU (xC (xH (xB F rfl rfl fun a F => xB F rfl rfl fun a F => oI underlying42 sizeOf2 F rfl rfl rfl A2 hxk27 fun a p34 h35 F => olI isAgg2 F rfl rfl H.sm h35 fun a i36 F => xB F rfl rfl (fun a F => ?_))))
   obtain ⟨z37, c38, hR⟩ := xI hR
   refine o_sub F rfl rfl rfl c38 (fun a F => ?_)
   obtain ⟨z39, c40, hR⟩ := xI hR
   refine oK F rfl call133 rfl H (spec_l00In_c z39 c40 _ aA i36 (show xY (0) by decide) (ck64 c38)) fun a w H F => kE F rfl rfl fun a F => xF (xG (vC F rfl (fun hb41 => ?_) (fun hb41 => ?_)))
   ·
    replace hR := zD hb41 hR
    refine xC (xH (xA F rfl rfl fun a F => xF (xG (xW (kB (oV (oV ?_)))))))
    replace hR := l_ret hR hn24
    refine kB (oV ?_)
    replace hR := j_ret hR hk22
    refine oV (xR F rfl (oO F rfl) ?_)
    obtain rfl := Option.some.inj hR
    exact ⟨rfl, H.bl⟩
   replace hR := zE hb41 hR
   refine xO (zN (xG (xH (xB F rfl rfl fun a F => vM F rfl rfl rfl ink27 fun a F => xA F rfl rfl fun a F => xF (xG ?_)))))
   replace hR := zH hR hn24
   exact ⟨_, Nat.lt_succ_self _, k27 + 1, rest28, ⟨hd31.1, hd31.2.2⟩, rfl, hR, F.sub (sc rfl (sc rfl (sc rfl (sc rfl sn)))), H⟩
 intro a w ⟨ho23, F, H⟩
 subst ho23
 have hR := xZ hk22
 refine xG (xC (xH (xB F rfl rfl fun a F => oL underlying42 F rfl rfl A2 fun a i43 F => xB F rfl rfl fun a F => o_eql F rfl rfl rfl fun a F => xA F rfl rfl fun a F => xF (xG (xW ?_)))))
 refine xR F rfl (oO F rfl) ?_
 obtain rfl := Option.some.inj hR
 exact ⟨rfl, H.bl⟩

def spec_l01Before (x0 : List Int) (x1 : List Int) : Option Bool :=
 kJ (σ := Unit) (
  qT (σ := Unit) (ρ := Bool) (fun (k34 : Nat) (x36 : Int) (s : Unit) =>
    match s with
    | _ =>
    oJ (ix x1 (k34 : Int)) fun z44 =>
    if (x36 != z44) then
     some (.ret ((decide (x36 < z44))))
    else
     some (.go ())) x0 0 ()) fun _ =>
 some false
theorem spec_l01Before_c {B : Nat → Prop} {x0 : List Int} {x1 : List Int} (r : Bool) (hR : spec_l01Before x0 x1 = some r) {v0 : Value} {v1 : Value} (w0 : World) (hN : ∀ c, B c → c < w0.heap.size) (A0 : Bo B w0 (Sl 1 xK) v0 x0) (A1 : Bo B w0 (Sl 1 xK) v1 x1) : Calls Tryz.prog 230 #[v0, v1] w0 (vR (.bool r) w0) := by
 unfold spec_l01Before at hR
 refine oD (L := [(0, v0), (1, v1)]) func230 rfl rfl rfl (sc rfl (sc rfl sn)) (fun a F => ?_)
 have H := Sep.start hN
 refine xC (xH (xA F rfl rfl fun a F => xF (xG (xC (xC (xH (xA F rfl rfl fun a F => xF (xG ?_))))))))
 obtain ⟨o28, hR, hk29⟩ := xS hR
 refine oQ (fun a w => o28 = .nx () ∧ Sk a 30 [] ∧ Sep [] B w0 w []) ?_ ?_
 ·
  refine oU ?_
  obtain ⟨fl32, hf33, hR⟩ := qP hR
  refine qU (fun g a w => ∃ (k34 : Nat) (rest35 : List Int), (k34 ≤ x0.length ∧ x0.drop k34 = rest35) ∧ rest35.length = g ∧ qT fl32 rest35 k34 () = some o28 ∧ Sk a 30 [(5, .int .i64 (k34 : Int)), (0, v0), (1, v1)] ∧ Sep [] B w0 w []) x0.length ?_ ?_
  ·
   exact ⟨0, x0, ⟨Nat.zero_le _, rfl⟩, rfl, hR, F.sub (sc rfl (sc rfl (sc rfl sn))), H⟩
  intro g37 a w ⟨k34, rest35, hd38, hg39, hR, F, H⟩
  cases rest35 with
  | nil =>
   replace hR := qS hR
   have hkk34 := qR hd38.1 hd38.2
   have hlk34 := vW hkk34
   refine xC (xC (xH (xB F rfl rfl fun a F => xB F rfl rfl fun a F => oL underlying42 F rfl rfl A0 fun a i56 F => oR F rfl rfl rfl fun a F => xF (xG (vV F rfl hlk34 (qK ?_))))))
   refine qQ (qQ (zT (xG ?_)))
   exact ⟨(Option.some.inj hR).symm, F.sub sn, H⟩
  | cons x36 rest35 =>
   subst hg39
   replace hd38 := qD hd38.2
   have hxk34 := qG hd38.2.1
   obtain ⟨ck34, hR, hn31⟩ := qC hR
   rw [hf33] at hR
   have hlk34 := vA hd38.1
   refine xC (xC (xH (xB F rfl rfl fun a F => xB F rfl rfl fun a F => oL underlying42 F rfl rfl A0 fun a i40 F => oR F rfl rfl rfl fun a F => xF (xG (vZ F rfl hlk34 (xO ?_))))))
   refine xG (xC ?_)
   have ikk34 := k64 (Nat.le_of_lt hd38.1) i40
   have ink34 := zW hd38.1 i40
   refine oU (xC (xQ H (by kernel_rfl) (by kernel_rfl) (xN F rfl (fun w l => xP F rfl) fun a F => xN F rfl (fun w l => xP F rfl) fun a F => qI underlying42 sizeOf2 F rfl rfl rfl A0 hxk34 fun a p41 h42 F => qlI isAgg2 F rfl rfl H.q h42 fun a i43 F => xN F rfl (fun w l => xP F rfl) fun a F => xN F rfl (fun w l => xP F rfl) (fun a F => ?_))))
   obtain ⟨z44, c45, hR⟩ := xI hR
   refine qI underlying42 sizeOf2 F rfl rfl rfl A1 c45 fun a p46 h47 F => qlI isAgg2 F rfl rfl H.q h47 fun a i48 F => xN F rfl (fun w l => r_neq F rfl rfl) fun a F => kA fun w H => xG (vC F rfl (fun hb49 => ?_) (fun hb49 => ?_))
   ·
    replace hR := zD hb49 hR
    refine xC (xQ H (by kernel_rfl) (by kernel_rfl) (xN F rfl (fun w l => xP F rfl) fun a F => xN F rfl (fun w l => xP F rfl) fun a F => qI underlying42 sizeOf2 F rfl rfl rfl A0 hxk34 fun a p50 h51 F => qlI isAgg2 F rfl rfl H.q h51 fun a i52 F => xN F rfl (fun w l => xP F rfl) fun a F => xN F rfl (fun w l => xP F rfl) fun a F => qI underlying42 sizeOf2 F rfl rfl rfl A1 c45 fun a p53 h54 F => qlI isAgg2 F rfl rfl H.q h54 fun a i55 F => xN F rfl (fun w l => r_lss F rfl rfl) (fun a F => ?_)))
    refine xN F rfl (fun w l => vO F rfl) fun a F => kA fun w H => xG (xW (kB (oV (oV ?_))))
    replace hR := l_ret hR hn31
    refine kB (oV ?_)
    replace hR := j_ret hR hk29
    refine oV (xR F rfl (oO F rfl) ?_)
    obtain rfl := Option.some.inj hR
    exact ⟨rfl, H.bl⟩
   replace hR := zE hb49 hR
   refine xO (zN (xG (xH (xB F rfl rfl fun a F => vM F rfl rfl rfl ink34 fun a F => xA F rfl rfl fun a F => xF (xG ?_)))))
   replace hR := zH hR hn31
   exact ⟨_, Nat.lt_succ_self _, k34 + 1, rest35, ⟨hd38.1, hd38.2.2⟩, rfl, hR, F.sub (sc rfl (sc rfl (sc rfl sn))), H⟩
 intro a w ⟨ho30, F, H⟩
 subst ho30
 have hR := xZ hk29
 refine xG (xC (xH (xA F rfl rfl fun a F => xF (xG (xW (xR F rfl (oO F rfl) ?_))))))
 obtain rfl := Option.some.inj hR
 exact ⟨rfl, H.bl⟩

def spec_l01Ok (x0 : Int) (x1 : Rel) : Option Bool :=
 kJ (σ := Bool) (
  oJ (spec_l01Size x0) fun z23 =>
  if (!z23) then  some (.nx true) else  oJ (spec_l01Arity x1.arity) fun z29 =>
   some (.nx (!z29))) fun s22 =>
 if s22 then
  some false
 else
  kJ (σ := Unit) (
   qT (σ := Unit) (ρ := Bool) (fun (k127 : Nat) (x129 : (List Int)) (s : Unit) =>
     match s with
     | _ =>
     kJ (σ := Bool) (
      oJ (spec_l01Tuple x0 x1.arity x129) fun z190 =>
      if (!z190) then  some (.nx true) else  if (decide (0 < (k127 : Int))) then  oJ (ck ((k127 : Int) - 1)) fun z198 =>
        oJ (ix x1.tuples z198) fun z200 =>
        oJ (spec_l01Before z200 x129) fun z214 =>
        some (.nx (!z214)) else  some (.nx false)) fun s178 =>
     if s178 then
      some (.ret false)
     else
      some (.go ())) x1.tuples 0 ()) fun _ =>
  some true
theorem spec_l01Ok_c {B : Nat → Prop} {x0 : Int} {x1 : Rel} (r : Bool) (hR : spec_l01Ok x0 x1 = some r) {v1 : Value} (w0 : World) (hN : ∀ c, B c → c < w0.heap.size) (hx0 : xY x0) (A1 : Bo B w0 (Pt 2 qE) v1 x1) : Calls Tryz.prog 190 #[.int .i64 x0, v1] w0 (vR (.bool r) w0) := by
 unfold spec_l01Ok at hR
 refine oD (L := [(0, .int .i64 x0), (1, v1)]) func190 rfl rfl rfl (sc rfl (sc rfl sn)) (fun a F => ?_)
 have H := Sep.start hN
 refine xC (xH (xA F rfl rfl fun a F => xF (xG (xC (xC ?_)))))
 obtain ⟨o19, hR, hk20⟩ := xS hR
 refine oQ (fun a w => ∃ (s22 : Bool), o19 = .nx s22 ∧ Sk a 63 [(0, .int .i64 x0), (1, v1), (16, .bool s22)] ∧ Sep [] B w0 w []) ?_ ?_
 ·
  refine xH (xB F rfl rfl (fun a F => ?_))
  obtain ⟨z23, c24, hR⟩ := xI hR
  refine oK F rfl call191 rfl H (spec_l01Size_c z23 c24 _ aA hx0) fun a w H F => kE F rfl rfl fun a F => xB F rfl rfl (fun a F => ?_)
  rcases vD (!z23) with hb25 | hb25
  ·
   replace hR := zD hb25 hR
   have F := F.eq (t := 9) rfl (congrArg Value.bool hb25)
   refine oH F rfl rfl fun a F => oH F rfl rfl fun a F => oH F rfl rfl fun a F => oH F rfl rfl fun a F => oH F rfl rfl fun a F => oH F rfl rfl fun a F => vH F rfl rfl rfl fun a F => xF (xG ?_)
   exact ⟨true, (Option.some.inj hR).symm, F.sub (sc rfl (sc rfl (sc rfl sn))), H⟩
  replace hR := zE hb25 hR
  have F := F.eq (t := 9) rfl (congrArg Value.bool hb25)
  refine xB F rfl rfl fun a F => oN F rfl rfl A1 fun a F => oF (s' := 1) fa84_0 F rfl rfl A1 qE.f0 fun a p26 h27 F => olI isAgg2 F rfl rfl H.sm h27 (fun a i28 F => ?_)
  obtain ⟨z29, c30, hR⟩ := xI hR
  refine oK F rfl call229 rfl H (spec_l01Arity_c z29 c30 _ aA i28) fun a w H F => kE F rfl rfl fun a F => qZ F rfl rfl rfl fun a F => xF (xG ?_)
  exact ⟨(!z29), (Option.some.inj hR).symm, F.sub (sc rfl (sc rfl (sc rfl sn))), H⟩
 intro a w ⟨s22, ho21, F, H⟩
 subst ho21
 have hR := xZ hk20
 refine xG (vC F rfl (fun hb31 => ?_) (fun hb31 => ?_))
 ·
  replace hR := zD hb31 hR
  refine xC (xH (xA F rfl rfl fun a F => xF (xG (xW (oV (xR F rfl (oO F rfl) ?_))))))
  obtain rfl := Option.some.inj hR
  exact ⟨rfl, H.bl⟩
 replace hR := zE hb31 hR
 refine xO (xG (xC (xC (xH (xA F rfl rfl fun a F => xF (xG ?_))))))
 obtain ⟨o121, hR, hk122⟩ := xS hR
 refine oQ (fun a w => o121 = .nx () ∧ Sk a 63 [] ∧ Sep [] B w0 w []) ?_ ?_
 ·
  refine oU ?_
  obtain ⟨fl125, hf126, hR⟩ := qP hR
  refine qU (fun g a w => ∃ (k127 : Nat) (rest128 : List (List Int)), (k127 ≤ x1.tuples.length ∧ x1.tuples.drop k127 = rest128) ∧ rest128.length = g ∧ qT fl125 rest128 k127 () = some o121 ∧ Sk a 63 [(5, .int .i64 (k127 : Int)), (0, .int .i64 x0), (1, v1)] ∧ Sep [] B w0 w []) x1.tuples.length ?_ ?_
  ·
   exact ⟨0, x1.tuples, ⟨Nat.zero_le _, rfl⟩, rfl, hR, F.sub (sc rfl (sc rfl (sc rfl sn))), H⟩
  intro g130 a w ⟨k127, rest128, hd131, hg132, hR, F, H⟩
  cases rest128 with
  | nil =>
   replace hR := qS hR
   have hkk127 := qR hd131.1 hd131.2
   have hlk127 := vW hkk127
   refine xC (xC (xH (xB F rfl rfl fun a F => xB F rfl rfl fun a F => oN F rfl rfl A1 fun a F => oF (s' := 1) fa84_1 F rfl rfl A1 qE.f1 fun a p217 h218 F => olS isAgg82 F rfl rfl H.sm h218 fun a v219 h220 F => oL underlying82 F rfl rfl h220 fun a i221 F => oR F rfl rfl rfl fun a F => xF ?_)))
   refine xG (vV F rfl hlk127 (qK (qQ (qQ (zT (xG ?_))))))
   exact ⟨(Option.some.inj hR).symm, F.sub sn, H⟩
  | cons x129 rest128 =>
   subst hg132
   replace hd131 := qD hd131.2
   have hxk127 := qG hd131.2.1
   obtain ⟨ck127, hR, hn124⟩ := qC hR
   rw [hf126] at hR
   have hlk127 := vA hd131.1
   refine xC (xC (xH (xB F rfl rfl fun a F => xB F rfl rfl fun a F => oN F rfl rfl A1 fun a F => oF (s' := 1) fa84_1 F rfl rfl A1 qE.f1 fun a p133 h134 F => olS isAgg82 F rfl rfl H.sm h134 fun a v135 h136 F => oL underlying82 F rfl rfl h136 fun a i137 F => oR F rfl rfl rfl fun a F => xF ?_)))
   refine xG (vZ F rfl hlk127 (xO (xG (xC ?_))))
   have ikk127 := k64 (Nat.le_of_lt hd131.1) i137
   have ink127 := zW hd131.1 i137
   refine oU (xC ?_)
   obtain ⟨o175, hR, hk176⟩ := xS hR
   refine oQ (fun a w => ∃ (s178 : Bool), o175 = .nx s178 ∧ Sk a 63 [(0, .int .i64 x0), (1, v1), (5, .int .i64 (k127 : Int)), (62, .bool s178)] ∧ Sep [] B w0 w []) ?_ ?_
   ·
    refine xQ H (by kernel_rfl) (by kernel_rfl) (xN F rfl (fun w l => xP F rfl) fun a F => xN F rfl (fun w l => xP F rfl) fun a F => qN F rfl rfl A1 fun a F => qF (s' := 1) fa84_0 F rfl rfl A1 qE.f0 fun a p179 h180 F => qlI isAgg2 F rfl rfl H.q h180 fun a i181 F => xN F rfl (fun w l => xP F rfl) fun a F => qN F rfl rfl A1 fun a F => qF (s' := 1) fa84_1 F rfl rfl A1 qE.f1 fun a p182 h183 F => qlS isAgg82 F rfl rfl H.q h183 fun a v184 h185 F => xN F rfl (fun w l => xP F rfl) (fun a F => ?_))
    refine qI underlying82 sizeOf42 F rfl rfl rfl h185 hxk127 fun a p186 h187 F => qlS isAgg42 F rfl rfl H.q h187 (fun a v188 h189 F => ?_)
    obtain ⟨z190, c191, hR⟩ := xI hR
    refine q_says F rfl call72 rfl (fun w w' h l => l.through h) (fun w l => spec_l01Tuple_c z190 c191 w aA hx0 i181 ((H.go l).a h189)) fun a F => xN F rfl (fun w l => r_not F rfl) fun a F => xN F rfl (fun w l => xP F rfl) (fun a F => ?_)
    rcases vD (!z190) with hb192 | hb192
    ·
     replace hR := zD hb192 hR
     have F := F.eq (t := 40) rfl (congrArg Value.bool hb192)
     refine oE F rfl rfl fun a F => oE F rfl rfl fun a F => oE F rfl rfl fun a F => oE F rfl rfl fun a F => oE F rfl rfl fun a F => oE F rfl rfl fun a F => oE F rfl rfl fun a F => oE F rfl rfl fun a F => oE F rfl rfl fun a F => oE F rfl rfl fun a F => oE F rfl rfl (fun a F => ?_)
     refine oE F rfl rfl fun a F => oE F rfl rfl fun a F => oE F rfl rfl fun a F => oE F rfl rfl fun a F => oE F rfl rfl fun a F => oE F rfl rfl fun a F => oE F rfl rfl fun a F => oE F rfl rfl fun a F => oE F rfl rfl fun a F => oE F rfl rfl fun a F => xN F rfl (fun w l => kM F rfl rfl) (fun a F => ?_)
     refine kA fun w H => xG ?_
     exact ⟨true, (Option.some.inj hR).symm, F.sub (sc rfl (sc rfl (sc rfl (sc rfl sn)))), H⟩
    replace hR := zE hb192 hR
    have F := F.eq (t := 40) rfl (congrArg Value.bool hb192)
    refine xN F rfl (fun w l => xP F rfl) fun a F => xN F rfl (fun w l => r_gtr F rfl rfl) fun a F => xN F rfl (fun w l => xP F rfl) (fun a F => ?_)
    rcases vD (decide (0 < (k127 : Int))) with hb193 | hb193
    ·
     replace hR := zD hb193 hR
     have F := F.eq (t := 43) rfl (congrArg Value.bool hb193)
     refine xN F rfl (fun w l => xP F rfl) fun a F => qN F rfl rfl A1 fun a F => qF (s' := 1) fa84_1 F rfl rfl A1 qE.f1 fun a p194 h195 F => qlS isAgg82 F rfl rfl H.q h195 fun a v196 h197 F => xN F rfl (fun w l => xP F rfl) (fun a F => ?_)
     obtain ⟨z198, c199, hR⟩ := xI hR
     refine xN F rfl (fun w l => r_sub F rfl rfl c199) (fun a F => ?_)
     obtain ⟨z200, c201, hR⟩ := xI hR
     refine qI underlying82 sizeOf42 F rfl rfl rfl h197 c201 fun a p202 h203 F => qlS isAgg42 F rfl rfl H.q h203 fun a v204 h205 F => xN F rfl (fun w l => xP F rfl) fun a F => qN F rfl rfl A1 fun a F => qF (s' := 1) fa84_1 F rfl rfl A1 qE.f1 fun a p206 h207 F => qlS isAgg82 F rfl rfl H.q h207 fun a v208 h209 F => xN F rfl (fun w l => xP F rfl) fun a F => qI underlying82 sizeOf42 F rfl rfl rfl h209 hxk127 fun a p210 h211 F => qlS isAgg42 F rfl rfl H.q h211 (fun a v212 h213 F => ?_)
     obtain ⟨z214, c215, hR⟩ := xI hR
     refine q_says F rfl call230 rfl (fun w w' h l => l.through h) (fun w l => spec_l01Before_c z214 c215 w aA ((H.go l).a h205) ((H.go l).a h213)) fun a F => xN F rfl (fun w l => r_not F rfl) fun a F => xN F rfl (fun w l => kM F rfl rfl) fun a F => xN F rfl (fun w l => r_pickf F rfl rfl) fun a F => kA fun w H => xG ?_
     exact ⟨(!z214), (Option.some.inj hR).symm, F.sub (sc rfl (sc rfl (sc rfl (sc rfl sn)))), H⟩
    replace hR := zE hb193 hR
    have F := F.eq (t := 43) rfl (congrArg Value.bool hb193)
    refine oE F rfl rfl fun a F => oE F rfl rfl fun a F => oE F rfl rfl fun a F => oE F rfl rfl fun a F => oE F rfl rfl fun a F => oE F rfl rfl fun a F => oE F rfl rfl fun a F => oE F rfl rfl fun a F => oE F rfl rfl fun a F => oE F rfl rfl fun a F => oE F rfl rfl (fun a F => ?_)
    refine oE F rfl rfl fun a F => oE F rfl rfl fun a F => oE F rfl rfl fun a F => oE F rfl rfl fun a F => oE F rfl rfl fun a F => oE F rfl rfl fun a F => xN F rfl (fun w l => r_pickf F rfl rfl) fun a F => xN F rfl (fun w l => r_pickf F rfl rfl) fun a F => kA fun w H => xG ?_
    exact ⟨false, (Option.some.inj hR).symm, F.sub (sc rfl (sc rfl (sc rfl (sc rfl sn)))), H⟩
   intro a w ⟨s178, ho177, F, H⟩
   subst ho177
   have hR := xZ hk176
   refine xG (vC F rfl (fun hb216 => ?_) (fun hb216 => ?_))
   ·
    replace hR := zD hb216 hR
    refine xC (xH (xA F rfl rfl fun a F => xF (xG (xW (kB (oV (oV ?_)))))))
    replace hR := l_ret hR hn124
    refine kB (oV ?_)
    replace hR := j_ret hR hk122
    refine oV (xR F rfl (oO F rfl) ?_)
    obtain rfl := Option.some.inj hR
    exact ⟨rfl, H.bl⟩
   replace hR := zE hb216 hR
   refine xO (zN (xG (xH (xB F rfl rfl fun a F => vM F rfl rfl rfl ink127 fun a F => xA F rfl rfl fun a F => xF (xG ?_)))))
   replace hR := zH hR hn124
   exact ⟨_, Nat.lt_succ_self _, k127 + 1, rest128, ⟨hd131.1, hd131.2.2⟩, rfl, hR, F.sub (sc rfl (sc rfl (sc rfl sn))), H⟩
 intro a w ⟨ho123, F, H⟩
 subst ho123
 have hR := xZ hk122
 refine xG (xC (xH (xA F rfl rfl fun a F => xF (xG (xW (xR F rfl (oO F rfl) ?_))))))
 obtain rfl := Option.some.inj hR
 exact ⟨rfl, H.bl⟩

def kI (x0 : Template) : Option Bool :=
 kJ (σ := Unit) (
  qT (σ := Unit) (ρ := Bool) (fun (k39 : Nat) (x41 : Rel) (s : Unit) =>
    match s with
    | _ =>
    oJ (spec_l01Ok x0.size x41) fun z59 =>
    if (!z59) then
     some (.ret false)
    else
     some (.go ())) x0.rels 0 ()) fun _ =>
 kJ (σ := Bool) (
  oJ (spec_l01Size x0.size) fun z85 =>
  if z85 then  some (.nx (decide ((x0.rels.length : Int) ≤ 6))) else  some (.nx false)) fun s81 =>
 some s81
theorem spec_l01Template_c {B : Nat → Prop} {x0 : Template} (r : Bool) (hR : kI x0 = some r) {v0 : Value} (w0 : World) (hN : ∀ c, B c → c < w0.heap.size) (A0 : Bo B w0 (Pt 2 xJ) v0 x0) : Calls Tryz.prog 108 #[v0] w0 (vR (.bool r) w0) := by
 unfold kI at hR
 refine oD (L := [(0, v0)]) func108 rfl rfl rfl (sc rfl sn) (fun a F => ?_)
 have H := Sep.start hN
 refine xC (xH (xA F rfl rfl fun a F => xF (xG (xC (xC (xH (xA F rfl rfl fun a F => xF (xG ?_))))))))
 obtain ⟨o33, hR, hk34⟩ := xS hR
 refine oQ (fun a w => o33 = .nx () ∧ Sk a 38 [(0, v0)] ∧ Sep [] B w0 w []) ?_ ?_
 ·
  refine oU ?_
  obtain ⟨fl37, hf38, hR⟩ := qP hR
  refine qU (fun g a w => ∃ (k39 : Nat) (rest40 : List Rel), (k39 ≤ x0.rels.length ∧ x0.rels.drop k39 = rest40) ∧ rest40.length = g ∧ qT fl37 rest40 k39 () = some o33 ∧ Sk a 38 [(3, .int .i64 (k39 : Int)), (0, v0)] ∧ Sep [] B w0 w []) x0.rels.length ?_ ?_
  ·
   exact ⟨0, x0.rels, ⟨Nat.zero_le _, rfl⟩, rfl, hR, F.sub (sc rfl (sc rfl sn)), H⟩
  intro g42 a w ⟨k39, rest40, hd43, hg44, hR, F, H⟩
  cases rest40 with
  | nil =>
   replace hR := qS hR
   have hkk39 := qR hd43.1 hd43.2
   have hlk39 := vW hkk39
   refine xC (xC (xH (xB F rfl rfl fun a F => xB F rfl rfl fun a F => oN F rfl rfl A0 fun a F => oF (s' := 1) fa33_1 F rfl rfl A0 xJ.f1 fun a p62 h63 F => olS isAgg31 F rfl rfl H.sm h63 fun a v64 h65 F => oL underlying31 F rfl rfl h65 fun a i66 F => oR F rfl rfl rfl fun a F => xF ?_)))
   refine xG (vV F rfl hlk39 (qK (qQ (qQ (zT (xG ?_))))))
   exact ⟨(Option.some.inj hR).symm, F.sub (sc rfl sn), H⟩
  | cons x41 rest40 =>
   subst hg44
   replace hd43 := qD hd43.2
   have hxk39 := qG hd43.2.1
   obtain ⟨ck39, hR, hn36⟩ := qC hR
   rw [hf38] at hR
   have hlk39 := vA hd43.1
   refine xC (xC (xH (xB F rfl rfl fun a F => xB F rfl rfl fun a F => oN F rfl rfl A0 fun a F => oF (s' := 1) fa33_1 F rfl rfl A0 xJ.f1 fun a p45 h46 F => olS isAgg31 F rfl rfl H.sm h46 fun a v47 h48 F => oL underlying31 F rfl rfl h48 fun a i49 F => oR F rfl rfl rfl fun a F => xF ?_)))
   refine xG (vZ F rfl hlk39 (xO (xG (xC ?_))))
   have ikk39 := k64 (Nat.le_of_lt hd43.1) i49
   have ink39 := zW hd43.1 i49
   refine oU (xC (xQ H (by kernel_rfl) (by kernel_rfl) (xN F rfl (fun w l => xP F rfl) fun a F => qN F rfl rfl A0 fun a F => qF (s' := 1) fa33_0 F rfl rfl A0 xJ.f0 fun a p50 h51 F => qlI isAgg2 F rfl rfl H.q h51 fun a i52 F => xN F rfl (fun w l => xP F rfl) fun a F => qN F rfl rfl A0 fun a F => qF (s' := 1) fa33_1 F rfl rfl A0 xJ.f1 fun a p53 h54 F => qlS isAgg31 F rfl rfl H.q h54 (fun a v55 h56 F => ?_))))
   refine xN F rfl (fun w l => xP F rfl) fun a F => qI underlying31 sizeOf84 F rfl rfl rfl h56 hxk39 (fun a p57 h58 F => ?_)
   obtain ⟨z59, c60, hR⟩ := xI hR
   refine q_says F rfl call190 rfl (fun w w' h l => l.through h) (fun w l => spec_l01Ok_c z59 c60 w aA i52 ((H.go l).a h58)) fun a F => xN F rfl (fun w l => r_not F rfl) fun a F => kA fun w H => xG (vC F rfl (fun hb61 => ?_) (fun hb61 => ?_))
   ·
    replace hR := zD hb61 hR
    refine xC (xH (xA F rfl rfl fun a F => xF (xG (xW (kB (oV (oV ?_)))))))
    replace hR := l_ret hR hn36
    refine kB (oV ?_)
    replace hR := j_ret hR hk34
    refine oV (xR F rfl (oO F rfl) ?_)
    obtain rfl := Option.some.inj hR
    exact ⟨rfl, H.bl⟩
   replace hR := zE hb61 hR
   refine xO (zN (xG (xH (xB F rfl rfl fun a F => vM F rfl rfl rfl ink39 fun a F => xA F rfl rfl fun a F => xF (xG ?_)))))
   replace hR := zH hR hn36
   exact ⟨_, Nat.lt_succ_self _, k39 + 1, rest40, ⟨hd43.1, hd43.2.2⟩, rfl, hR, F.sub (sc rfl (sc rfl sn)), H⟩
 intro a w ⟨ho35, F, H⟩
 subst ho35
 have hR := xZ hk34
 refine xG (xC ?_)
 obtain ⟨o78, hR, hk79⟩ := xS hR
 refine oQ (fun a w => ∃ (s81 : Bool), o78 = .nx s81 ∧ Sk a 38 [(2, .bool s81)] ∧ Sep [] B w0 w []) ?_ ?_
 ·
  refine xH (xB F rfl rfl fun a F => oN F rfl rfl A0 fun a F => oF (s' := 1) fa33_0 F rfl rfl A0 xJ.f0 fun a p82 h83 F => olI isAgg2 F rfl rfl H.sm h83 (fun a i84 F => ?_))
  obtain ⟨z85, c86, hR⟩ := xI hR
  refine oK F rfl call191 rfl H (spec_l01Size_c z85 c86 _ aA i84) fun a w H F => xB F rfl rfl (fun a F => ?_)
  rcases vD z85 with hb87 | hb87
  ·
   replace hR := zD hb87 hR
   have F := F.eq (t := 30) rfl (congrArg Value.bool hb87)
   refine xB F rfl rfl fun a F => oN F rfl rfl A0 fun a F => oF (s' := 1) fa33_1 F rfl rfl A0 xJ.f1 fun a p88 h89 F => olS isAgg31 F rfl rfl H.sm h89 fun a v90 h91 F => oL underlying31 F rfl rfl h91 fun a i92 F => o_leq F rfl rfl rfl fun a F => vH F rfl rfl rfl fun a F => xA F rfl rfl fun a F => xF (xG ?_)
   exact ⟨(decide ((x0.rels.length : Int) ≤ 6)), (Option.some.inj hR).symm, F.sub (sc rfl sn), H⟩
  replace hR := zE hb87 hR
  have F := F.eq (t := 30) rfl (congrArg Value.bool hb87)
  refine oH F rfl rfl fun a F => oH F rfl rfl fun a F => oH F rfl rfl fun a F => oH F rfl rfl fun a F => oH F rfl rfl fun a F => oH F rfl rfl fun a F => qZ F rfl rfl rfl fun a F => xA F rfl rfl fun a F => xF (xG ?_)
  exact ⟨false, (Option.some.inj hR).symm, F.sub (sc rfl sn), H⟩
 intro a w ⟨s81, ho80, F, H⟩
 subst ho80
 have hR := xZ hk79
 refine xG (xW (xR F rfl (oO F rfl) ?_))
 obtain rfl := Option.some.inj hR
 exact ⟨rfl, H.bl⟩

def spec_l03Counts (x0 : Formula) : Option Bool :=
 kJ (σ := Bool) (
  oJ (spec_l01Arity x0.free) fun z38 =>
  if z38 then  oJ (spec_l00In x0.vars x0.free 8) fun z47 =>
   if z47 then  some (.nx (decide ((x0.atoms.length : Int) ≤ 16))) else  some (.nx false) else  some (.nx false)) fun s34 =>
 some s34
theorem spec_l03Counts_c {B : Nat → Prop} {x0 : Formula} (r : Bool) (hR : spec_l03Counts x0 = some r) {v0 : Value} (w0 : World) (hN : ∀ c, B c → c < w0.heap.size) (A0 : Bo B w0 (Pt 3 xL) v0 x0) : Calls Tryz.prog 192 #[v0] w0 (vR (.bool r) w0) := by
 unfold spec_l03Counts at hR
 refine oD (L := [(0, v0)]) func192 rfl rfl rfl (sc rfl sn) (fun a F => ?_)
 have H := Sep.start hN
 refine xC (xH (xA F rfl rfl fun a F => xF (xG (xC ?_))))
 obtain ⟨o31, hR, hk32⟩ := xS hR
 refine oQ (fun a w => ∃ (s34 : Bool), o31 = .nx s34 ∧ Sk a 27 [(2, .bool s34)] ∧ Sep [] B w0 w []) ?_ ?_
 ·
  refine xQ H (by kernel_rfl) (by kernel_rfl) (xN F rfl (fun w l => xP F rfl) fun a F => qN F rfl rfl A0 fun a F => qF (s' := 1) fa95_0 F rfl rfl A0 xL.f0 fun a p35 h36 F => qlI isAgg2 F rfl rfl H.q h36 (fun a i37 F => ?_))
  obtain ⟨z38, c39, hR⟩ := xI hR
  refine q_says F rfl call229 rfl (fun w w' h l => l.through h) (fun w l => spec_l01Arity_c z38 c39 w aA i37) fun a F => xN F rfl (fun w l => xP F rfl) (fun a F => ?_)
  rcases vD z38 with hb40 | hb40
  ·
   replace hR := zD hb40 hR
   have F := F.eq (t := 8) rfl (congrArg Value.bool hb40)
   refine xN F rfl (fun w l => xP F rfl) fun a F => qN F rfl rfl A0 fun a F => qF (s' := 1) fa95_1 F rfl rfl A0 xL.f1 fun a p41 h42 F => qlI isAgg2 F rfl rfl H.q h42 fun a i43 F => xN F rfl (fun w l => xP F rfl) fun a F => qN F rfl rfl A0 fun a F => qF (s' := 1) fa95_0 F rfl rfl A0 xL.f0 fun a p44 h45 F => qlI isAgg2 F rfl rfl H.q h45 (fun a i46 F => ?_)
   obtain ⟨z47, c48, hR⟩ := xI hR
   refine q_says F rfl call133 rfl (fun w w' h l => l.through h) (fun w l => spec_l00In_c z47 c48 w aA i43 i46 (show xY (8) by decide)) fun a F => xN F rfl (fun w l => kM F rfl rfl) fun a F => xN F rfl (fun w l => xP F rfl) (fun a F => ?_)
   rcases vD z47 with hb49 | hb49
   ·
    replace hR := zD hb49 hR
    have F := F.eq (t := 19) rfl (congrArg Value.bool hb49)
    refine xN F rfl (fun w l => xP F rfl) fun a F => qN F rfl rfl A0 fun a F => qF (s' := 1) fa95_2 F rfl rfl A0 xL.f2 fun a p50 h51 F => qlS isAgg93 F rfl rfl H.q h51 fun a v52 h53 F => qL underlying93 F rfl rfl h53 fun a i54 F => xN F rfl (fun w l => r_leq F rfl rfl) fun a F => xN F rfl (fun w l => kM F rfl rfl) fun a F => xN F rfl (fun w l => vO F rfl) fun a F => kA fun w H => xG ?_
    exact ⟨(decide ((x0.atoms.length : Int) ≤ 16)), (Option.some.inj hR).symm, F.sub (sc rfl sn), H⟩
   replace hR := zE hb49 hR
   have F := F.eq (t := 19) rfl (congrArg Value.bool hb49)
   refine oE F rfl rfl fun a F => oE F rfl rfl fun a F => oE F rfl rfl fun a F => oE F rfl rfl fun a F => oE F rfl rfl fun a F => oE F rfl rfl fun a F => xN F rfl (fun w l => r_pickf F rfl rfl) fun a F => xN F rfl (fun w l => vO F rfl) fun a F => kA fun w H => xG ?_
   exact ⟨false, (Option.some.inj hR).symm, F.sub (sc rfl sn), H⟩
  replace hR := zE hb40 hR
  have F := F.eq (t := 8) rfl (congrArg Value.bool hb40)
  refine oE F rfl rfl fun a F => oE F rfl rfl fun a F => oE F rfl rfl fun a F => oE F rfl rfl fun a F => oE F rfl rfl fun a F => oE F rfl rfl fun a F => oE F rfl rfl fun a F => oE F rfl rfl fun a F => oE F rfl rfl fun a F => xN F rfl (fun w l => r_pickf F rfl rfl) fun a F => xN F rfl (fun w l => xP F rfl) (fun a F => ?_)
  refine oE F rfl rfl fun a F => oE F rfl rfl fun a F => oE F rfl rfl fun a F => oE F rfl rfl fun a F => oE F rfl rfl fun a F => oE F rfl rfl fun a F => xN F rfl (fun w l => r_pickf F rfl rfl) fun a F => xN F rfl (fun w l => vO F rfl) fun a F => kA fun w H => xG ?_
  exact ⟨false, (Option.some.inj hR).symm, F.sub (sc rfl sn), H⟩
 intro a w ⟨s34, ho33, F, H⟩
 subst ho33
 have hR := xZ hk32
 refine xG (xW (xR F rfl (oO F rfl) ?_))
 obtain rfl := Option.some.inj hR
 exact ⟨rfl, H.bl⟩

def spec_l03Arity (x0 : Template) (x1 : Int) : Option Int :=
 if (x1 == (-1)) then
  some 2
 else
  oJ (ck ((x0.rels.length : Int) - 1)) fun z17 =>
  oJ (spec_l00In x1 0 z17) fun z19 =>
  if (!z19) then
   some 0
  else
   oJ (ix x0.rels x1) fun z26 =>
   some z26.arity
theorem spec_l03Arity_c {B : Nat → Prop} {x0 : Template} {x1 : Int} (r : Int) (hR : spec_l03Arity x0 x1 = some r) {v0 : Value} (w0 : World) (hN : ∀ c, B c → c < w0.heap.size) (A0 : Bo B w0 (Pt 2 xJ) v0 x0) (hx1 : xY x1) : Calls Tryz.prog 193 #[v0, .int .i64 x1] w0 (SaysI r w0) := by
 unfold spec_l03Arity at hR
 refine oD (L := [(0, v0), (1, .int .i64 x1)]) func193 rfl rfl rfl (sc rfl (sc rfl sn)) (fun a F => ?_)
 have H := Sep.start hN
 refine xC (xH (xA F rfl rfl fun a F => xF (xG (xC (xC (xH (xB F rfl rfl fun a F => o_eql F rfl rfl rfl fun a F => xF ?_)))))))
 refine xG (vC F rfl (fun hb11 => ?_) (fun hb11 => ?_))
 ·
  replace hR := zD hb11 hR
  refine xC (xH (xA F rfl rfl fun a F => xF (xG (xW (oV (xR F rfl (oO F rfl) ?_))))))
  obtain rfl := Option.some.inj hR
  exact ⟨⟨rfl, H.bl⟩, (show xY (2) by decide)⟩
 replace hR := zE hb11 hR
 refine xO (xG (xC (xC (xH (xB F rfl rfl fun a F => xB F rfl rfl fun a F => oN F rfl rfl A0 fun a F => oF (s' := 1) fa33_1 F rfl rfl A0 xJ.f1 fun a p12 h13 F => olS isAgg31 F rfl rfl H.sm h13 fun a v14 h15 F => oL underlying31 F rfl rfl h15 (fun a i16 F => ?_))))))
 obtain ⟨z17, c18, hR⟩ := xI hR
 refine o_sub F rfl rfl rfl c18 (fun a F => ?_)
 obtain ⟨z19, c20, hR⟩ := xI hR
 refine oK F rfl call133 rfl H (spec_l00In_c z19 c20 _ aA hx1 (show xY (0) by decide) (ck64 c18)) fun a w H F => kE F rfl rfl fun a F => xF (xG (vC F rfl (fun hb21 => ?_) (fun hb21 => ?_)))
 ·
  replace hR := zD hb21 hR
  refine xC (xH (xA F rfl rfl fun a F => xF (xG (xW (oV (xR F rfl (oO F rfl) ?_))))))
  obtain rfl := Option.some.inj hR
  exact ⟨⟨rfl, H.bl⟩, (show xY (0) by decide)⟩
 replace hR := zE hb21 hR
 refine xO (xG (xC (xH (xB F rfl rfl fun a F => oN F rfl rfl A0 fun a F => oF (s' := 1) fa33_1 F rfl rfl A0 xJ.f1 fun a p22 h23 F => olS isAgg31 F rfl rfl H.sm h23 fun a v24 h25 F => xB F rfl rfl (fun a F => ?_)))))
 obtain ⟨z26, c27, hR⟩ := xI hR
 refine oI underlying31 sizeOf84 F rfl rfl rfl h25 c27 fun a p28 h29 F => oF (s' := 1) fa84_0 F rfl rfl h29 qE.f0 fun a p30 h31 F => olI isAgg2 F rfl rfl H.sm h31 fun a i32 F => xA F rfl rfl fun a F => xF (xG (xW (xR F rfl (oO F rfl) ?_)))
 obtain rfl := Option.some.inj hR
 exact ⟨⟨rfl, H.bl⟩, i32⟩

def spec_l01Places (x0 : List Int) (x1 : Int) : Option Bool :=
 kJ (σ := Unit) (
  qT (σ := Unit) (ρ := Bool) (fun (k27 : Nat) (x29 : Int) (s : Unit) =>
    match s with
    | _ =>
    oJ (ck (x1 - 1)) fun z37 =>
    oJ (spec_l00In x29 0 z37) fun z39 =>
    if (!z39) then
     some (.ret false)
    else
     some (.go ())) x0 0 ()) fun _ =>
 some true
theorem spec_l01Places_c {B : Nat → Prop} {x0 : List Int} {x1 : Int} (r : Bool) (hR : spec_l01Places x0 x1 = some r) {v0 : Value} (w0 : World) (hN : ∀ c, B c → c < w0.heap.size) (A0 : Bo B w0 (Sl 1 xK) v0 x0) (hx1 : xY x1) : Calls Tryz.prog 140 #[v0, .int .i64 x1] w0 (vR (.bool r) w0) := by
 unfold spec_l01Places at hR
 refine oD (L := [(0, v0), (1, .int .i64 x1)]) func140 rfl rfl rfl (sc rfl (sc rfl sn)) (fun a F => ?_)
 have H := Sep.start hN
 refine xC (xH (xA F rfl rfl fun a F => xF (xG (xC (xC (xH (xA F rfl rfl fun a F => xF (xG ?_))))))))
 obtain ⟨o21, hR, hk22⟩ := xS hR
 refine oQ (fun a w => o21 = .nx () ∧ Sk a 20 [] ∧ Sep [] B w0 w []) ?_ ?_
 ·
  refine oU ?_
  obtain ⟨fl25, hf26, hR⟩ := qP hR
  refine qU (fun g a w => ∃ (k27 : Nat) (rest28 : List Int), (k27 ≤ x0.length ∧ x0.drop k27 = rest28) ∧ rest28.length = g ∧ qT fl25 rest28 k27 () = some o21 ∧ Sk a 20 [(5, .int .i64 (k27 : Int)), (0, v0), (1, .int .i64 x1)] ∧ Sep [] B w0 w []) x0.length ?_ ?_
  ·
   exact ⟨0, x0, ⟨Nat.zero_le _, rfl⟩, rfl, hR, F.sub (sc rfl (sc rfl (sc rfl sn))), H⟩
  intro g30 a w ⟨k27, rest28, hd31, hg32, hR, F, H⟩
  cases rest28 with
  | nil =>
   replace hR := qS hR
   have hkk27 := qR hd31.1 hd31.2
   have hlk27 := vW hkk27
   refine xC (xC (xH (xB F rfl rfl fun a F => xB F rfl rfl fun a F => oL underlying42 F rfl rfl A0 fun a i42 F => oR F rfl rfl rfl fun a F => xF (xG (vV F rfl hlk27 (qK ?_))))))
   refine qQ (qQ (zT (xG ?_)))
   exact ⟨(Option.some.inj hR).symm, F.sub sn, H⟩
  | cons x29 rest28 =>
   subst hg32
   replace hd31 := qD hd31.2
   have hxk27 := qG hd31.2.1
   obtain ⟨ck27, hR, hn24⟩ := qC hR
   rw [hf26] at hR
   have hlk27 := vA hd31.1
   refine xC (xC (xH (xB F rfl rfl fun a F => xB F rfl rfl fun a F => oL underlying42 F rfl rfl A0 fun a i33 F => oR F rfl rfl rfl fun a F => xF (xG (vZ F rfl hlk27 (xO ?_))))))
   refine xG (xC ?_)
   have ikk27 := k64 (Nat.le_of_lt hd31.1) i33
   have ink27 := zW hd31.1 i33
   refine oU (xC (xH (xB F rfl rfl fun a F => xB F rfl rfl fun a F => oI underlying42 sizeOf2 F rfl rfl rfl A0 hxk27 fun a p34 h35 F => olI isAgg2 F rfl rfl H.sm h35 fun a i36 F => xB F rfl rfl (fun a F => ?_))))
   obtain ⟨z37, c38, hR⟩ := xI hR
   refine o_sub F rfl rfl rfl c38 (fun a F => ?_)
   obtain ⟨z39, c40, hR⟩ := xI hR
   refine oK F rfl call133 rfl H (spec_l00In_c z39 c40 _ aA i36 (show xY (0) by decide) (ck64 c38)) fun a w H F => kE F rfl rfl fun a F => xF (xG (vC F rfl (fun hb41 => ?_) (fun hb41 => ?_)))
   ·
    replace hR := zD hb41 hR
    refine xC (xH (xA F rfl rfl fun a F => xF (xG (xW (kB (oV (oV ?_)))))))
    replace hR := l_ret hR hn24
    refine kB (oV ?_)
    replace hR := j_ret hR hk22
    refine oV (xR F rfl (oO F rfl) ?_)
    obtain rfl := Option.some.inj hR
    exact ⟨rfl, H.bl⟩
   replace hR := zE hb41 hR
   refine xO (zN (xG (xH (xB F rfl rfl fun a F => vM F rfl rfl rfl ink27 fun a F => xA F rfl rfl fun a F => xF (xG ?_)))))
   replace hR := zH hR hn24
   exact ⟨_, Nat.lt_succ_self _, k27 + 1, rest28, ⟨hd31.1, hd31.2.2⟩, rfl, hR, F.sub (sc rfl (sc rfl (sc rfl sn))), H⟩
 intro a w ⟨ho23, F, H⟩
 subst ho23
 have hR := xZ hk22
 refine xG (xC (xH (xA F rfl rfl fun a F => xF (xG (xW (xR F rfl (oO F rfl) ?_))))))
 obtain rfl := Option.some.inj hR
 exact ⟨rfl, H.bl⟩

def spec_l03Ok (x0 : Template) (x1 : Formula) : Option Bool :=
 kJ (σ := Bool) (
  oJ (kI x0) fun z20 =>
  if (!z20) then  some (.nx true) else  oJ (spec_l03Counts x1) fun z23 =>
   some (.nx (!z23))) fun s19 =>
 if s19 then
  some false
 else
  kJ (σ := Unit) (
   qT (σ := Unit) (ρ := Bool) (fun (k114 : Nat) (x116 : Atom) (s : Unit) =>
     match s with
     | _ =>
     oJ (spec_l03Arity x0 x116.rel) fun z134 =>
     kJ (σ := Bool) (
      if (z134 == 0) then  some (.nx true) else  if ((x116.args.length : Int) != z134) then  some (.nx true) else  oJ (spec_l01Places x116.args x1.vars) fun z194 =>
        some (.nx (!z194))) fun s167 =>
     if s167 then
      some (.ret false)
     else
      some (.go ())) x1.atoms 0 ()) fun _ =>
  some true
theorem spec_l03Ok_c {B : Nat → Prop} {x0 : Template} {x1 : Formula} (r : Bool) (hR : spec_l03Ok x0 x1 = some r) {v0 : Value} {v1 : Value} (w0 : World) (hN : ∀ c, B c → c < w0.heap.size) (A0 : Bo B w0 (Pt 2 xJ) v0 x0) (A1 : Bo B w0 (Pt 3 xL) v1 x1) : Calls Tryz.prog 109 #[v0, v1] w0 (vR (.bool r) w0) := by
 unfold spec_l03Ok at hR
 refine oD (L := [(0, v0), (1, v1)]) func109 rfl rfl rfl (sc rfl (sc rfl sn)) (fun a F => ?_)
 have H := Sep.start hN
 refine xC (xH (xA F rfl rfl fun a F => xF (xG (xC (xC ?_)))))
 obtain ⟨o16, hR, hk17⟩ := xS hR
 refine oQ (fun a w => ∃ (s19 : Bool), o16 = .nx s19 ∧ Sk a 65 [(0, v0), (1, v1), (14, .bool s19)] ∧ Sep [] B w0 w []) ?_ ?_
 ·
  refine xH (xB F rfl rfl (fun a F => ?_))
  obtain ⟨z20, c21, hR⟩ := xI hR
  refine oK F rfl call108 rfl H (spec_l01Template_c z20 c21 _ aA (H.a A0)) fun a w H F => kE F rfl rfl fun a F => xB F rfl rfl (fun a F => ?_)
  rcases vD (!z20) with hb22 | hb22
  ·
   replace hR := zD hb22 hR
   have F := F.eq (t := 10) rfl (congrArg Value.bool hb22)
   refine oH F rfl rfl fun a F => oH F rfl rfl fun a F => oH F rfl rfl fun a F => vH F rfl rfl rfl fun a F => xF (xG ?_)
   exact ⟨true, (Option.some.inj hR).symm, F.sub (sc rfl (sc rfl (sc rfl sn))), H⟩
  replace hR := zE hb22 hR
  have F := F.eq (t := 10) rfl (congrArg Value.bool hb22)
  refine xB F rfl rfl (fun a F => ?_)
  obtain ⟨z23, c24, hR⟩ := xI hR
  refine oK F rfl call192 rfl H (spec_l03Counts_c z23 c24 _ aA (H.a A1)) fun a w H F => kE F rfl rfl fun a F => qZ F rfl rfl rfl fun a F => xF (xG ?_)
  exact ⟨(!z23), (Option.some.inj hR).symm, F.sub (sc rfl (sc rfl (sc rfl sn))), H⟩
 intro a w ⟨s19, ho18, F, H⟩
 subst ho18
 have hR := xZ hk17
 refine xG (vC F rfl (fun hb25 => ?_) (fun hb25 => ?_))
 ·
  replace hR := zD hb25 hR
  refine xC (xH (xA F rfl rfl fun a F => xF (xG (xW (oV (xR F rfl (oO F rfl) ?_))))))
  obtain rfl := Option.some.inj hR
  exact ⟨rfl, H.bl⟩
 replace hR := zE hb25 hR
 refine xO (xG (xC (xC (xH (xA F rfl rfl fun a F => xF (xG ?_))))))
 obtain ⟨o108, hR, hk109⟩ := xS hR
 refine oQ (fun a w => o108 = .nx () ∧ Sk a 65 [] ∧ Sep [] B w0 w []) ?_ ?_
 ·
  refine oU ?_
  obtain ⟨fl112, hf113, hR⟩ := qP hR
  refine qU (fun g a w => ∃ (k114 : Nat) (rest115 : List Atom), (k114 ≤ x1.atoms.length ∧ x1.atoms.drop k114 = rest115) ∧ rest115.length = g ∧ qT fl112 rest115 k114 () = some o108 ∧ Sk a 65 [(5, .int .i64 (k114 : Int)), (0, v0), (1, v1)] ∧ Sep [] B w0 w []) x1.atoms.length ?_ ?_
  ·
   exact ⟨0, x1.atoms, ⟨Nat.zero_le _, rfl⟩, rfl, hR, F.sub (sc rfl (sc rfl (sc rfl sn))), H⟩
  intro g117 a w ⟨k114, rest115, hd118, hg119, hR, F, H⟩
  cases rest115 with
  | nil =>
   replace hR := qS hR
   have hkk114 := qR hd118.1 hd118.2
   have hlk114 := vW hkk114
   refine xC (xC (xH (xB F rfl rfl fun a F => xB F rfl rfl fun a F => oN F rfl rfl A1 fun a F => oF (s' := 1) fa95_2 F rfl rfl A1 xL.f2 fun a p197 h198 F => olS isAgg93 F rfl rfl H.sm h198 fun a v199 h200 F => oL underlying93 F rfl rfl h200 fun a i201 F => oR F rfl rfl rfl fun a F => xF ?_)))
   refine xG (vV F rfl hlk114 (qK (qQ (qQ (zT (xG ?_))))))
   exact ⟨(Option.some.inj hR).symm, F.sub sn, H⟩
  | cons x116 rest115 =>
   subst hg119
   replace hd118 := qD hd118.2
   have hxk114 := qG hd118.2.1
   obtain ⟨ck114, hR, hn111⟩ := qC hR
   rw [hf113] at hR
   have hlk114 := vA hd118.1
   refine xC (xC (xH (xB F rfl rfl fun a F => xB F rfl rfl fun a F => oN F rfl rfl A1 fun a F => oF (s' := 1) fa95_2 F rfl rfl A1 xL.f2 fun a p120 h121 F => olS isAgg93 F rfl rfl H.sm h121 fun a v122 h123 F => oL underlying93 F rfl rfl h123 fun a i124 F => oR F rfl rfl rfl fun a F => xF ?_)))
   refine xG (vZ F rfl hlk114 (xO (xG (xC ?_))))
   have ikk114 := k64 (Nat.le_of_lt hd118.1) i124
   have ink114 := zW hd118.1 i124
   refine oU (xC (xH (xB F rfl rfl fun a F => xB F rfl rfl fun a F => oN F rfl rfl A1 fun a F => oF (s' := 1) fa95_2 F rfl rfl A1 xL.f2 fun a p125 h126 F => olS isAgg93 F rfl rfl H.sm h126 fun a v127 h128 F => xB F rfl rfl fun a F => oI underlying93 sizeOf158 F rfl rfl rfl h128 hxk114 fun a p129 h130 F => oF (s' := 1) fa158_0 F rfl rfl h130 xU.f0 (fun a p131 h132 F => ?_))))
   refine olI isAgg2 F rfl rfl H.sm h132 (fun a i133 F => ?_)
   obtain ⟨z134, c135, hR⟩ := xI hR
   refine oKI F rfl call193 rfl H (spec_l03Arity_c z134 c135 _ aA (H.a A0) i133) fun a w H iz134 F => xA F rfl rfl fun a F => xF (xG (xC ?_))
   obtain ⟨o164, hR, hk165⟩ := xS hR
   refine oQ (fun a w => ∃ (s167 : Bool), o164 = .nx s167 ∧ Sk a 65 [(0, v0), (1, v1), (5, .int .i64 (k114 : Int)), (64, .bool s167)] ∧ Sep [] B w0 w []) ?_ ?_
   ·
    refine xQ H (by kernel_rfl) (by kernel_rfl) (xN F rfl (fun w l => xP F rfl) fun a F => xN F rfl (fun w l => r_eql F rfl rfl) fun a F => xN F rfl (fun w l => xP F rfl) (fun a F => ?_))
    rcases vD (z134 == 0) with hb168 | hb168
    ·
     replace hR := zD hb168 hR
     have F := F.eq (t := 36) rfl (congrArg Value.bool hb168)
     refine oE F rfl rfl fun a F => oE F rfl rfl fun a F => oE F rfl rfl fun a F => oE F rfl rfl fun a F => oE F rfl rfl fun a F => oE F rfl rfl fun a F => oE F rfl rfl fun a F => oE F rfl rfl fun a F => oE F rfl rfl fun a F => oE F rfl rfl fun a F => oE F rfl rfl (fun a F => ?_)
     refine xN F rfl (fun w l => kM F rfl rfl) fun a F => xN F rfl (fun w l => xP F rfl) fun a F => oE F rfl rfl fun a F => oE F rfl rfl fun a F => oE F rfl rfl fun a F => oE F rfl rfl fun a F => oE F rfl rfl fun a F => oE F rfl rfl fun a F => oE F rfl rfl fun a F => oE F rfl rfl fun a F => oE F rfl rfl (fun a F => ?_)
     refine oE F rfl rfl fun a F => oE F rfl rfl fun a F => oE F rfl rfl fun a F => oE F rfl rfl fun a F => oE F rfl rfl fun a F => xN F rfl (fun w l => kM F rfl rfl) fun a F => kA fun w H => xG ?_
     exact ⟨true, (Option.some.inj hR).symm, F.sub (sc rfl (sc rfl (sc rfl (sc rfl sn)))), H⟩
    replace hR := zE hb168 hR
    have F := F.eq (t := 36) rfl (congrArg Value.bool hb168)
    refine xN F rfl (fun w l => xP F rfl) fun a F => qN F rfl rfl A1 fun a F => qF (s' := 1) fa95_2 F rfl rfl A1 xL.f2 fun a p169 h170 F => qlS isAgg93 F rfl rfl H.q h170 fun a v171 h172 F => xN F rfl (fun w l => xP F rfl) fun a F => qI underlying93 sizeOf158 F rfl rfl rfl h172 hxk114 fun a p173 h174 F => qF (s' := 1) fa158_1 F rfl rfl h174 xU.f1 fun a p175 h176 F => qlS isAgg42 F rfl rfl H.q h176 fun a v177 h178 F => qL underlying42 F rfl rfl h178 fun a i179 F => xN F rfl (fun w l => xP F rfl) fun a F => xN F rfl (fun w l => r_neq F rfl rfl) (fun a F => ?_)
    refine xN F rfl (fun w l => r_pickf F rfl rfl) fun a F => xN F rfl (fun w l => xP F rfl) (fun a F => ?_)
    rcases vD ((x116.args.length : Int) != z134) with hb180 | hb180
    ·
     replace hR := zD hb180 hR
     have F := F.eq (t := 49) rfl (congrArg Value.bool hb180)
     refine oE F rfl rfl fun a F => oE F rfl rfl fun a F => oE F rfl rfl fun a F => oE F rfl rfl fun a F => oE F rfl rfl fun a F => oE F rfl rfl fun a F => oE F rfl rfl fun a F => oE F rfl rfl fun a F => oE F rfl rfl fun a F => oE F rfl rfl fun a F => oE F rfl rfl (fun a F => ?_)
     refine oE F rfl rfl fun a F => oE F rfl rfl fun a F => oE F rfl rfl fun a F => xN F rfl (fun w l => kM F rfl rfl) fun a F => kA fun w H => xG ?_
     exact ⟨true, (Option.some.inj hR).symm, F.sub (sc rfl (sc rfl (sc rfl (sc rfl sn)))), H⟩
    replace hR := zE hb180 hR
    have F := F.eq (t := 49) rfl (congrArg Value.bool hb180)
    refine xN F rfl (fun w l => xP F rfl) fun a F => qN F rfl rfl A1 fun a F => qF (s' := 1) fa95_2 F rfl rfl A1 xL.f2 fun a p181 h182 F => qlS isAgg93 F rfl rfl H.q h182 fun a v183 h184 F => xN F rfl (fun w l => xP F rfl) fun a F => qI underlying93 sizeOf158 F rfl rfl rfl h184 hxk114 fun a p185 h186 F => qF (s' := 1) fa158_1 F rfl rfl h186 xU.f1 fun a p187 h188 F => qlS isAgg42 F rfl rfl H.q h188 fun a v189 h190 F => xN F rfl (fun w l => xP F rfl) fun a F => qN F rfl rfl A1 fun a F => qF (s' := 1) fa95_1 F rfl rfl A1 xL.f1 (fun a p191 h192 F => ?_)
    refine qlI isAgg2 F rfl rfl H.q h192 (fun a i193 F => ?_)
    obtain ⟨z194, c195, hR⟩ := xI hR
    refine q_says F rfl call140 rfl (fun w w' h l => l.through h) (fun w l => spec_l01Places_c z194 c195 w aA ((H.go l).a h190) i193) fun a F => xN F rfl (fun w l => r_not F rfl) fun a F => xN F rfl (fun w l => r_pickf F rfl rfl) fun a F => kA fun w H => xG ?_
    exact ⟨(!z194), (Option.some.inj hR).symm, F.sub (sc rfl (sc rfl (sc rfl (sc rfl sn)))), H⟩
   intro a w ⟨s167, ho166, F, H⟩
   subst ho166
   have hR := xZ hk165
   refine xG (vC F rfl (fun hb196 => ?_) (fun hb196 => ?_))
   ·
    replace hR := zD hb196 hR
    refine xC (xH (xA F rfl rfl fun a F => xF (xG (xW (kB (oV (oV ?_)))))))
    replace hR := l_ret hR hn111
    refine kB (oV ?_)
    replace hR := j_ret hR hk109
    refine oV (xR F rfl (oO F rfl) ?_)
    obtain rfl := Option.some.inj hR
    exact ⟨rfl, H.bl⟩
   replace hR := zE hb196 hR
   refine xO (zN (xG (xH (xB F rfl rfl fun a F => vM F rfl rfl rfl ink114 fun a F => xA F rfl rfl fun a F => xF (xG ?_)))))
   replace hR := zH hR hn111
   exact ⟨_, Nat.lt_succ_self _, k114 + 1, rest115, ⟨hd118.1, hd118.2.2⟩, rfl, hR, F.sub (sc rfl (sc rfl (sc rfl sn))), H⟩
 intro a w ⟨ho110, F, H⟩
 subst ho110
 have hR := xZ hk109
 refine xG (xC (xH (xA F rfl rfl fun a F => xF (xG (xW (xR F rfl (oO F rfl) ?_))))))
 obtain rfl := Option.some.inj hR
 exact ⟨rfl, H.bl⟩

def spec_l09Form (x0 : Template) (x1 : Template) (x2 : Gadgets) : Option Bool :=
 kJ (σ := Bool) (
  oJ (kI x0) fun z38 =>
  if (!z38) then  some (.nx true) else  oJ (kI x1) fun z41 =>
   if (!z41) then  some (.nx true) else  if (x0.size != x1.size) then  some (.nx true) else  some (.nx ((x2.formulas.length : Int) != (x0.rels.length : Int)))) fun s37 =>
 if s37 then
  some false
 else
  kJ (σ := Unit) (
   qT (σ := Unit) (ρ := Bool) (fun (k141 : Nat) (x143 : Formula) (s : Unit) =>
     match s with
     | _ =>
     kJ (σ := Bool) (
      oJ (spec_l03Ok x1 x143) fun z191 =>
      if (!z191) then  some (.nx true) else  oJ (ix x0.rels (k141 : Int)) fun z207 =>
       some (.nx (x143.free != z207.arity))) fun s184 =>
     if s184 then
      some (.ret false)
     else
      some (.go ())) x2.formulas 0 ()) fun _ =>
  some true
theorem spec_l09Form_c {B : Nat → Prop} {x0 : Template} {x1 : Template} {x2 : Gadgets} (r : Bool) (hR : spec_l09Form x0 x1 x2 = some r) {v0 : Value} {v1 : Value} {v2 : Value} (w0 : World) (hN : ∀ c, B c → c < w0.heap.size) (A0 : Bo B w0 (Pt 2 xJ) v0 x0) (A1 : Bo B w0 (Pt 2 xJ) v1 x1) (A2 : Bo B w0 (Pt 1 xV) v2 x2) : Calls Tryz.prog 51 #[v0, v1, v2] w0 (vR (.bool r) w0) := by
 unfold spec_l09Form at hR
 refine oD (L := [(0, v0), (1, v1), (2, v2)]) func51 rfl rfl rfl (sc rfl (sc rfl (sc rfl sn))) (fun a F => ?_)
 have H := Sep.start hN
 refine xC (xH (xA F rfl rfl fun a F => xF (xG (xC (xC ?_)))))
 obtain ⟨o34, hR, hk35⟩ := xS hR
 refine oQ (fun a w => ∃ (s37 : Bool), o34 = .nx s37 ∧ Sk a 77 [(0, v0), (1, v1), (2, v2), (39, .bool s37)] ∧ Sep [] B w0 w []) ?_ ?_
 ·
  refine xQ H (by kernel_rfl) (by kernel_rfl) (xN F rfl (fun w l => xP F rfl) (fun a F => ?_))
  obtain ⟨z38, c39, hR⟩ := xI hR
  refine q_says F rfl call108 rfl (fun w w' h l => l.through h) (fun w l => spec_l01Template_c z38 c39 w aA ((H.go l).a A0)) fun a F => xN F rfl (fun w l => r_not F rfl) fun a F => xN F rfl (fun w l => xP F rfl) (fun a F => ?_)
  rcases vD (!z38) with hb40 | hb40
  ·
   replace hR := zD hb40 hR
   have F := F.eq (t := 11) rfl (congrArg Value.bool hb40)
   refine oE F rfl rfl fun a F => oE F rfl rfl fun a F => oE F rfl rfl fun a F => xN F rfl (fun w l => kM F rfl rfl) fun a F => xN F rfl (fun w l => xP F rfl) fun a F => oE F rfl rfl fun a F => oE F rfl rfl fun a F => oE F rfl rfl fun a F => oE F rfl rfl fun a F => oE F rfl rfl fun a F => oE F rfl rfl (fun a F => ?_)
   refine oE F rfl rfl fun a F => oE F rfl rfl fun a F => oE F rfl rfl fun a F => xN F rfl (fun w l => kM F rfl rfl) fun a F => xN F rfl (fun w l => xP F rfl) fun a F => oE F rfl rfl fun a F => oE F rfl rfl fun a F => oE F rfl rfl fun a F => oE F rfl rfl fun a F => oE F rfl rfl fun a F => oE F rfl rfl (fun a F => ?_)
   refine oE F rfl rfl fun a F => oE F rfl rfl fun a F => oE F rfl rfl fun a F => oE F rfl rfl fun a F => oE F rfl rfl fun a F => xN F rfl (fun w l => kM F rfl rfl) fun a F => kA fun w H => xG ?_
   exact ⟨true, (Option.some.inj hR).symm, F.sub (sc rfl (sc rfl (sc rfl (sc rfl sn)))), H⟩
  replace hR := zE hb40 hR
  have F := F.eq (t := 11) rfl (congrArg Value.bool hb40)
  refine xN F rfl (fun w l => xP F rfl) (fun a F => ?_)
  obtain ⟨z41, c42, hR⟩ := xI hR
  refine q_says F rfl call108 rfl (fun w w' h l => l.through h) (fun w l => spec_l01Template_c z41 c42 w aA ((H.go l).a A1)) fun a F => xN F rfl (fun w l => r_not F rfl) fun a F => xN F rfl (fun w l => r_pickf F rfl rfl) fun a F => xN F rfl (fun w l => xP F rfl) (fun a F => ?_)
  rcases vD (!z41) with hb43 | hb43
  ·
   replace hR := zD hb43 hR
   have F := F.eq (t := 16) rfl (congrArg Value.bool hb43)
   refine oE F rfl rfl fun a F => oE F rfl rfl fun a F => oE F rfl rfl fun a F => oE F rfl rfl fun a F => oE F rfl rfl fun a F => oE F rfl rfl fun a F => oE F rfl rfl fun a F => oE F rfl rfl fun a F => oE F rfl rfl fun a F => xN F rfl (fun w l => kM F rfl rfl) fun a F => xN F rfl (fun w l => xP F rfl) (fun a F => ?_)
   refine oE F rfl rfl fun a F => oE F rfl rfl fun a F => oE F rfl rfl fun a F => oE F rfl rfl fun a F => oE F rfl rfl fun a F => oE F rfl rfl fun a F => oE F rfl rfl fun a F => oE F rfl rfl fun a F => oE F rfl rfl fun a F => oE F rfl rfl fun a F => oE F rfl rfl (fun a F => ?_)
   refine xN F rfl (fun w l => kM F rfl rfl) fun a F => kA fun w H => xG ?_
   exact ⟨true, (Option.some.inj hR).symm, F.sub (sc rfl (sc rfl (sc rfl (sc rfl sn)))), H⟩
  replace hR := zE hb43 hR
  have F := F.eq (t := 16) rfl (congrArg Value.bool hb43)
  refine xN F rfl (fun w l => xP F rfl) fun a F => qN F rfl rfl A0 fun a F => qF (s' := 1) fa33_0 F rfl rfl A0 xJ.f0 fun a p44 h45 F => qlI isAgg2 F rfl rfl H.q h45 fun a i46 F => xN F rfl (fun w l => xP F rfl) fun a F => qN F rfl rfl A1 fun a F => qF (s' := 1) fa33_0 F rfl rfl A1 xJ.f0 fun a p47 h48 F => qlI isAgg2 F rfl rfl H.q h48 fun a i49 F => xN F rfl (fun w l => r_neq F rfl rfl) fun a F => xN F rfl (fun w l => r_pickf F rfl rfl) fun a F => xN F rfl (fun w l => xP F rfl) (fun a F => ?_)
  rcases vD (x0.size != x1.size) with hb50 | hb50
  ·
   replace hR := zD hb50 hR
   have F := F.eq (t := 27) rfl (congrArg Value.bool hb50)
   refine oE F rfl rfl fun a F => oE F rfl rfl fun a F => oE F rfl rfl fun a F => oE F rfl rfl fun a F => oE F rfl rfl fun a F => oE F rfl rfl fun a F => oE F rfl rfl fun a F => oE F rfl rfl fun a F => oE F rfl rfl fun a F => oE F rfl rfl fun a F => oE F rfl rfl (fun a F => ?_)
   refine xN F rfl (fun w l => kM F rfl rfl) fun a F => kA fun w H => xG ?_
   exact ⟨true, (Option.some.inj hR).symm, F.sub (sc rfl (sc rfl (sc rfl (sc rfl sn)))), H⟩
  replace hR := zE hb50 hR
  have F := F.eq (t := 27) rfl (congrArg Value.bool hb50)
  refine xN F rfl (fun w l => xP F rfl) fun a F => qN F rfl rfl A2 fun a F => qF (s' := 1) fa37_0 F rfl rfl A2 xV.f0 fun a p51 h52 F => qlS isAgg35 F rfl rfl H.q h52 fun a v53 h54 F => qL underlying35 F rfl rfl h54 fun a i55 F => xN F rfl (fun w l => xP F rfl) fun a F => qN F rfl rfl A0 fun a F => qF (s' := 1) fa33_1 F rfl rfl A0 xJ.f1 fun a p56 h57 F => qlS isAgg31 F rfl rfl H.q h57 fun a v58 h59 F => qL underlying31 F rfl rfl h59 fun a i60 F => xN F rfl (fun w l => r_neq F rfl rfl) (fun a F => ?_)
  refine xN F rfl (fun w l => r_pickf F rfl rfl) fun a F => kA fun w H => xG ?_
  exact ⟨((x2.formulas.length : Int) != (x0.rels.length : Int)), (Option.some.inj hR).symm, F.sub (sc rfl (sc rfl (sc rfl (sc rfl sn)))), H⟩
 intro a w ⟨s37, ho36, F, H⟩
 subst ho36
 have hR := xZ hk35
 refine xG (vC F rfl (fun hb61 => ?_) (fun hb61 => ?_))
 ·
  replace hR := zD hb61 hR
  refine xC (xH (xA F rfl rfl fun a F => xF (xG (xW (oV (xR F rfl (oO F rfl) ?_))))))
  obtain rfl := Option.some.inj hR
  exact ⟨rfl, H.bl⟩
 replace hR := zE hb61 hR
 refine xO (xG (xC (xC (xH (xA F rfl rfl fun a F => xF (xG ?_))))))
 obtain ⟨o135, hR, hk136⟩ := xS hR
 refine oQ (fun a w => o135 = .nx () ∧ Sk a 77 [] ∧ Sep [] B w0 w []) ?_ ?_
 ·
  refine oU ?_
  obtain ⟨fl139, hf140, hR⟩ := qP hR
  refine qU (fun g a w => ∃ (k141 : Nat) (rest142 : List Formula), (k141 ≤ x2.formulas.length ∧ x2.formulas.drop k141 = rest142) ∧ rest142.length = g ∧ qT fl139 rest142 k141 () = some o135 ∧ Sk a 77 [(7, .int .i64 (k141 : Int)), (0, v0), (1, v1), (2, v2)] ∧ Sep [] B w0 w []) x2.formulas.length ?_ ?_
  ·
   exact ⟨0, x2.formulas, ⟨Nat.zero_le _, rfl⟩, rfl, hR, F.sub (sc rfl (sc rfl (sc rfl (sc rfl sn)))), H⟩
  intro g144 a w ⟨k141, rest142, hd145, hg146, hR, F, H⟩
  cases rest142 with
  | nil =>
   replace hR := qS hR
   have hkk141 := qR hd145.1 hd145.2
   have hlk141 := vW hkk141
   refine xC (xC (xH (xB F rfl rfl fun a F => xB F rfl rfl fun a F => oN F rfl rfl A2 fun a F => oF (s' := 1) fa37_0 F rfl rfl A2 xV.f0 fun a p215 h216 F => olS isAgg35 F rfl rfl H.sm h216 fun a v217 h218 F => oL underlying35 F rfl rfl h218 fun a i219 F => oR F rfl rfl rfl fun a F => xF ?_)))
   refine xG (vV F rfl hlk141 (qK (qQ (qQ (zT (xG ?_))))))
   exact ⟨(Option.some.inj hR).symm, F.sub sn, H⟩
  | cons x143 rest142 =>
   subst hg146
   replace hd145 := qD hd145.2
   have hxk141 := qG hd145.2.1
   obtain ⟨ck141, hR, hn138⟩ := qC hR
   rw [hf140] at hR
   have hlk141 := vA hd145.1
   refine xC (xC (xH (xB F rfl rfl fun a F => xB F rfl rfl fun a F => oN F rfl rfl A2 fun a F => oF (s' := 1) fa37_0 F rfl rfl A2 xV.f0 fun a p147 h148 F => olS isAgg35 F rfl rfl H.sm h148 fun a v149 h150 F => oL underlying35 F rfl rfl h150 fun a i151 F => oR F rfl rfl rfl fun a F => xF ?_)))
   refine xG (vZ F rfl hlk141 (xO (xG (xC ?_))))
   have ikk141 := k64 (Nat.le_of_lt hd145.1) i151
   have ink141 := zW hd145.1 i151
   refine oU (xC ?_)
   obtain ⟨o181, hR, hk182⟩ := xS hR
   refine oQ (fun a w => ∃ (s184 : Bool), o181 = .nx s184 ∧ Sk a 77 [(0, v0), (1, v1), (2, v2), (7, .int .i64 (k141 : Int)), (76, .bool s184)] ∧ Sep [] B w0 w []) ?_ ?_
   ·
    refine xQ H (by kernel_rfl) (by kernel_rfl) (xN F rfl (fun w l => xP F rfl) fun a F => xN F rfl (fun w l => xP F rfl) fun a F => qN F rfl rfl A2 fun a F => qF (s' := 1) fa37_0 F rfl rfl A2 xV.f0 fun a p185 h186 F => qlS isAgg35 F rfl rfl H.q h186 fun a v187 h188 F => xN F rfl (fun w l => xP F rfl) fun a F => qI underlying35 sizeOf95 F rfl rfl rfl h188 hxk141 (fun a p189 h190 F => ?_))
    obtain ⟨z191, c192, hR⟩ := xI hR
    refine q_says F rfl call109 rfl (fun w w' h l => l.through h) (fun w l => spec_l03Ok_c z191 c192 w aA ((H.go l).a A1) ((H.go l).a h190)) fun a F => xN F rfl (fun w l => r_not F rfl) fun a F => xN F rfl (fun w l => xP F rfl) (fun a F => ?_)
    rcases vD (!z191) with hb193 | hb193
    ·
     replace hR := zD hb193 hR
     have F := F.eq (t := 58) rfl (congrArg Value.bool hb193)
     refine oE F rfl rfl fun a F => oE F rfl rfl fun a F => oE F rfl rfl fun a F => oE F rfl rfl fun a F => oE F rfl rfl fun a F => oE F rfl rfl fun a F => oE F rfl rfl fun a F => oE F rfl rfl fun a F => oE F rfl rfl fun a F => oE F rfl rfl fun a F => oE F rfl rfl (fun a F => ?_)
     refine oE F rfl rfl fun a F => oE F rfl rfl fun a F => oE F rfl rfl fun a F => oE F rfl rfl fun a F => oE F rfl rfl fun a F => oE F rfl rfl fun a F => xN F rfl (fun w l => kM F rfl rfl) fun a F => kA fun w H => xG ?_
     exact ⟨true, (Option.some.inj hR).symm, F.sub (sc rfl (sc rfl (sc rfl (sc rfl (sc rfl sn))))), H⟩
    replace hR := zE hb193 hR
    have F := F.eq (t := 58) rfl (congrArg Value.bool hb193)
    refine xN F rfl (fun w l => xP F rfl) fun a F => qN F rfl rfl A2 fun a F => qF (s' := 1) fa37_0 F rfl rfl A2 xV.f0 fun a p194 h195 F => qlS isAgg35 F rfl rfl H.q h195 fun a v196 h197 F => xN F rfl (fun w l => xP F rfl) fun a F => qI underlying35 sizeOf95 F rfl rfl rfl h197 hxk141 fun a p198 h199 F => qF (s' := 1) fa95_0 F rfl rfl h199 xL.f0 fun a p200 h201 F => qlI isAgg2 F rfl rfl H.q h201 fun a i202 F => xN F rfl (fun w l => xP F rfl) fun a F => qN F rfl rfl A0 fun a F => qF (s' := 1) fa33_1 F rfl rfl A0 xJ.f1 (fun a p203 h204 F => ?_)
    refine qlS isAgg31 F rfl rfl H.q h204 fun a v205 h206 F => xN F rfl (fun w l => xP F rfl) (fun a F => ?_)
    obtain ⟨z207, c208, hR⟩ := xI hR
    refine qI underlying31 sizeOf84 F rfl rfl rfl h206 c208 fun a p209 h210 F => qF (s' := 1) fa84_0 F rfl rfl h210 qE.f0 fun a p211 h212 F => qlI isAgg2 F rfl rfl H.q h212 fun a i213 F => xN F rfl (fun w l => r_neq F rfl rfl) fun a F => xN F rfl (fun w l => r_pickf F rfl rfl) fun a F => kA fun w H => xG ?_
    exact ⟨(x143.free != z207.arity), (Option.some.inj hR).symm, F.sub (sc rfl (sc rfl (sc rfl (sc rfl (sc rfl sn))))), H⟩
   intro a w ⟨s184, ho183, F, H⟩
   subst ho183
   have hR := xZ hk182
   refine xG (vC F rfl (fun hb214 => ?_) (fun hb214 => ?_))
   ·
    replace hR := zD hb214 hR
    refine xC (xH (xA F rfl rfl fun a F => xF (xG (xW (kB (oV (oV ?_)))))))
    replace hR := l_ret hR hn138
    refine kB (oV ?_)
    replace hR := j_ret hR hk136
    refine oV (xR F rfl (oO F rfl) ?_)
    obtain rfl := Option.some.inj hR
    exact ⟨rfl, H.bl⟩
   replace hR := zE hb214 hR
   refine xO (zN (xG (xH (xB F rfl rfl fun a F => vM F rfl rfl rfl ink141 fun a F => xA F rfl rfl fun a F => xF (xG ?_)))))
   replace hR := zH hR hn138
   exact ⟨_, Nat.lt_succ_self _, k141 + 1, rest142, ⟨hd145.1, hd145.2.2⟩, rfl, hR, F.sub (sc rfl (sc rfl (sc rfl (sc rfl sn)))), H⟩
 intro a w ⟨ho137, F, H⟩
 subst ho137
 have hR := xZ hk136
 refine xG (xC (xH (xA F rfl rfl fun a F => xF (xG (xW (xR F rfl (oO F rfl) ?_))))))
 obtain rfl := Option.some.inj hR
 exact ⟨rfl, H.bl⟩

def spec_l01Power (N : Nat) (x0 : Int) (x1 : Int) : Option Int :=
 kJ (σ := Int × Int) (
  whl (σ := Int × Int) (ρ := Int) (fun (s : Int × Int) =>
    match s with
    | (s26, s28) =>
    if (decide (0 < s26)) then
     oJ (ck (s28 * x0)) fun z41 =>
     oJ (ck (s26 - 1)) fun z43 =>
     some (.go (z43, z41))
    else
     some (.brk (s26, s28))) N (x1, 1)) fun (s30, s32) =>
 some s32
theorem spec_l01Power_c {B : Nat → Prop} {N : Nat} {x0 : Int} {x1 : Int} (r : Int) (hR : spec_l01Power N x0 x1 = some r)  (w0 : World) (hN : ∀ c, B c → c < w0.heap.size) (hx0 : xY x0) (hx1 : xY x1) : Calls Tryz.prog 53 #[.int .i64 x0, .int .i64 x1] w0 (SaysI r w0) := by
 unfold spec_l01Power at hR
 refine oD (L := [(0, .int .i64 x0), (1, .int .i64 x1)]) func53 rfl rfl rfl (sc rfl (sc rfl sn)) (fun a F => ?_)
 have H := Sep.start hN
 refine xC (xH (xA F rfl rfl fun a F => xF (xG (xC (xH (xA F rfl rfl fun a F => xF (xG (xC ?_))))))))
 obtain ⟨o20, hR, hk21⟩ := xS hR
 refine oQ (fun a w => ∃ (s30 : Int) (s32 : Int), o20 = .nx (s30, s32) ∧ Sk a 14 [(5, .int .i64 s32)] ∧ Sep [] B w0 w [] ∧ xY s30 ∧ xY s32) ?_ ?_
 ·
  refine oU ?_
  obtain ⟨fl24, hf25, hR⟩ := whl_gen hR
  refine qU (fun g a w => ∃ (s26 : Int) (s28 : Int), whl fl24 g (s26, s28) = some o20 ∧ Sk a 14 [(0, .int .i64 x0), (1, .int .i64 s26), (5, .int .i64 s28)] ∧ Sep [] B w0 w [] ∧ xY s26 ∧ xY s28) N ?_ ?_
  ·
   exact ⟨x1, 1, hR, F.sub (sc rfl (sc rfl (sc rfl sn))), H, hx1, (show xY (1) by decide)⟩
  intro g37 a w ⟨s26, s28, hR, F, H, i27, i29⟩
  obtain ⟨ck34, rest35, hg39, hR, hn23⟩ := whl_round hR
  rw [hf25] at hR
  refine xC (xC (xH (xB F rfl rfl fun a F => o_gtr F rfl rfl rfl fun a F => xF (xG (vC F rfl (fun hb40 => ?_) (fun hb40 => ?_))))))
  ·
   replace hR := zD hb40 hR
   refine xO (xG (xC (oU (xH (xB F rfl rfl fun a F => xB F rfl rfl (fun a F => ?_))))))
   obtain ⟨z41, c42, hR⟩ := xI hR
   refine o_mul F rfl rfl rfl c42 fun a F => xA F rfl rfl fun a F => xF (zN (xG (xH (xB F rfl rfl (fun a F => ?_)))))
   obtain ⟨z43, c44, hR⟩ := xI hR
   refine o_sub F rfl rfl rfl c44 fun a F => xA F rfl rfl fun a F => xF (xG ?_)
   replace hR := zH hR hn23
   exact ⟨rest35, (by omega), z43, z41, hR, F.sub (sc rfl (sc rfl (sc rfl sn))), H, (ck64 c44), (ck64 c42)⟩
  replace hR := zE hb40 hR
  refine qK (qQ (qQ ?_))
  replace hR := l_brk hR hn23
  refine zT (xG ?_)
  exact ⟨s26, s28, (Option.some.inj hR).symm, F.sub (sc rfl sn), H, i27, i29⟩
 intro a w ⟨s30, s32, ho22, F, H, i31, i33⟩
 subst ho22
 have hR := xZ hk21
 refine xG (xC (xH (xB F rfl rfl fun a F => xA F rfl rfl fun a F => xF (xG (xW (xR F rfl (oO F rfl) ?_))))))
 obtain rfl := Option.some.inj hR
 exact ⟨⟨rfl, H.bl⟩, i33⟩

def spec_l01Digits (N : Nat) (x0 : Int) (x1 : Int) (x2 : Int) : Option (List Int) :=
 oJ (mkz (0 : Int) x1) fun z11 =>
 oJ (ck (x1 - 1)) fun z15 =>
 kJ (σ := Int × Int × (List Int)) (
  whl (σ := Int × Int × (List Int)) (ρ := (List Int)) (fun (s : Int × Int × (List Int)) =>
    match s with
    | (s60, s62, s64) =>
    if (decide (0 ≤ s62)) then
     oJ (rm s60 x0) fun z81 =>
     oJ (ix s64 s62) fun z83 =>
     oJ (dv s60 x0) fun z89 =>
     oJ (ck (s62 - 1)) fun z91 =>
     some (.go (z89, z91, (s64.set (s62).toNat z81)))
    else
     some (.brk (s60, s62, s64))) N (x2, z15, z11)) fun (s67, s69, s71) =>
 some s71
theorem spec_l01Digits_c {B : Nat → Prop} {N : Nat} {x0 : Int} {x1 : Int} {x2 : Int} (r : (List Int)) (hR : spec_l01Digits N x0 x1 x2 = some r)  (w0 : World) (hN : ∀ c, B c → c < w0.heap.size) (hx0 : xY x0) (hx1 : xY x1) (hx2 : xY x2) : Calls Tryz.prog 54 #[.int .i64 x0, .int .i64 x1, .int .i64 x2] w0 (Gv (fun v w' => ∃ (v1' : Value), v = v1' ∧ Sep [] B w0 w' [rl 1 xK 2 v1' r])) := by
 unfold spec_l01Digits at hR
 refine oD (L := [(0, .int .i64 x0), (1, .int .i64 x1), (2, .int .i64 x2)]) func54 rfl rfl rfl (sc rfl (sc rfl (sc rfl sn))) (fun a F => ?_)
 have H := Sep.start hN
 refine xC (xH (xA F rfl rfl fun a F => xF (xG (xC (xH (xB F rfl rfl (fun a F => ?_)))))))
 obtain ⟨z11, c12, hR⟩ := xI hR
 refine oRM (sz := 1) (R := xK) (z := (.int .i64 0)) (bytes := 8) underlying42 (by kernel_rfl) rfl (by decide) (by decide) (fun w => ⟨rfl, by decide, rfl⟩) F rfl rfl rfl c12 H fun a w v13 H F => xA F rfl rfl fun a F => xF (xG (xC (xC (xH (xB F rfl rfl (fun a F => ?_))))))
 obtain ⟨z15, c16, hR⟩ := xI hR
 refine o_sub F rfl rfl rfl c16 fun a F => xA F rfl rfl fun a F => xF (xG ?_)
 obtain ⟨o54, hR, hk55⟩ := xS hR
 refine oQ (fun a w => ∃ (s67 : Int) (s69 : Int) (s71 : List Int) (v73 : Value), o54 = .nx (s67, s69, s71) ∧ Sk a 27 [(7, v73)] ∧ Sep [] B w0 w [rl 1 xK 2 v73 s71] ∧ xY s67 ∧ xY s69) ?_ ?_
 ·
  refine oU ?_
  obtain ⟨fl58, hf59, hR⟩ := whl_gen hR
  refine qU (fun g a w => ∃ (s60 : Int) (s62 : Int) (s64 : List Int) (v66 : Value), whl fl58 g (s60, s62, s64) = some o54 ∧ Sk a 27 [(0, .int .i64 x0), (2, .int .i64 s60), (7, v66), (8, .int .i64 s62)] ∧ Sep [] B w0 w [rl 1 xK 2 v66 s64] ∧ xY s60 ∧ xY s62) N ?_ ?_
  ·
   exact ⟨x2, z15, z11, v13, hR, F.sub (sc rfl (sc rfl (sc rfl (sc rfl sn)))), H, hx2, (ck64 c16)⟩
  intro g77 a w ⟨s60, s62, s64, v66, hR, F, H, i61, i63⟩
  obtain ⟨ck74, rest75, hg79, hR, hn57⟩ := whl_round hR
  rw [hf59] at hR
  refine xC (xC (xH (xB F rfl rfl fun a F => o_geq F rfl rfl rfl fun a F => xF (xG (vC F rfl (fun hb80 => ?_) (fun hb80 => ?_))))))
  ·
   replace hR := zD hb80 hR
   refine xO (xG (xC (oU (xC (xH (xB F rfl rfl fun a F => xB F rfl rfl fun a F => xB F rfl rfl fun a F => xB F rfl rfl (fun a F => ?_)))))))
   obtain ⟨z81, c82, hR⟩ := xI hR
   refine o_rem F rfl rfl rfl c82 (fun a F => ?_)
   obtain ⟨z83, c84, hR⟩ := xI hR
   refine oRl underlying42 sizeOf2 F rfl rfl rfl H 0 rfl c84 (fun a p85 h86 rp87 F => ?_)
   have H := H.lw
   refine oS sizeOf2 F rfl rfl rfl H rp87 (ix_lt c84) (Eo.int (rm64 c82 i61 hx0)) rfl rfl (fun w H => ?_)
   have H := H.tl
   refine xF (xG (xH (xB F rfl rfl fun a F => xB F rfl rfl (fun a F => ?_))))
   obtain ⟨z89, c90, hR⟩ := xI hR
   refine o_quo F rfl rfl rfl c90 fun a F => xA F rfl rfl fun a F => xF (zN (xG (xH (xB F rfl rfl (fun a F => ?_)))))
   obtain ⟨z91, c92, hR⟩ := xI hR
   refine o_sub F rfl rfl rfl c92 fun a F => xA F rfl rfl fun a F => xF (xG ?_)
   replace hR := zH hR hn57
   exact ⟨rest75, (by omega), z89, z91, (s64.set (s62).toNat z81), v66, hR, F.sub (sc rfl (sc rfl (sc rfl (sc rfl sn)))), H, (dv64 c90), (ck64 c92)⟩
  replace hR := zE hb80 hR
  refine qK (qQ (qQ ?_))
  replace hR := l_brk hR hn57
  refine zT (xG ?_)
  exact ⟨s60, s62, s64, v66, (Option.some.inj hR).symm, F.sub (sc rfl sn), H, i61, i63⟩
 intro a w ⟨s67, s69, s71, v73, ho56, F, H, i68, i70⟩
 subst ho56
 have hR := xZ hk55
 refine xG (xC (xH (xB F rfl rfl fun a F => xA F rfl rfl fun a F => xF (xG (xW (xR F rfl (oO F rfl) ?_))))))
 obtain rfl := Option.some.inj hR
 exact ⟨_, rfl, v73, rfl, H⟩

def spec_l00Max (x0 : Int) (x1 : Int) : Option Int :=
 if (decide (x1 < x0)) then
  some x0
 else
  some x1
theorem spec_l00Max_c {B : Nat → Prop} {x0 : Int} {x1 : Int} (r : Int) (hR : spec_l00Max x0 x1 = some r)  (w0 : World) (hN : ∀ c, B c → c < w0.heap.size) (hx0 : xY x0) (hx1 : xY x1) : Calls Tryz.prog 124 #[.int .i64 x0, .int .i64 x1] w0 (SaysI r w0) := by
 unfold spec_l00Max at hR
 refine oD (L := [(0, .int .i64 x0), (1, .int .i64 x1)]) func124 rfl rfl rfl (sc rfl (sc rfl sn)) (fun a F => ?_)
 have H := Sep.start hN
 refine xC (xH (xA F rfl rfl fun a F => xF (xG (xC (xC (xH (xB F rfl rfl fun a F => xB F rfl rfl fun a F => o_gtr F rfl rfl rfl (fun a F => ?_))))))))
 refine xF (xG (vC F rfl (fun hb11 => ?_) (fun hb11 => ?_)))
 ·
  replace hR := zD hb11 hR
  refine xC (xH (xB F rfl rfl fun a F => xA F rfl rfl fun a F => xF (xG (xW (oV (xR F rfl (oO F rfl) ?_))))))
  obtain rfl := Option.some.inj hR
  exact ⟨⟨rfl, H.bl⟩, hx0⟩
 replace hR := zE hb11 hR
 refine xO (xG (xC (xH (xB F rfl rfl fun a F => xA F rfl rfl fun a F => xF (xG (xW (xR F rfl (oO F rfl) ?_)))))))
 obtain rfl := Option.some.inj hR
 exact ⟨⟨rfl, H.bl⟩, hx1⟩

def spec_l01At (x0 : List Int) (x1 : List Int) : Option (List Int) :=
 kJ (σ := (List Int)) (
  qT (σ := (List Int)) (ρ := (List Int)) (fun (k44 : Nat) (x46 : Int) (s38 : (List Int)) =>
   oJ (ix x0 x46) fun z54 =>
   oJ (ap s38 ([z54])) fun z61 =>
   some (.go z61)) x1 0 []) fun s41 =>
 some s41
theorem spec_l01At_c {B : Nat → Prop} {x0 : List Int} {x1 : List Int} (r : (List Int)) (hR : spec_l01At x0 x1 = some r) {v0 : Value} {v1 : Value} (w0 : World) (hN : ∀ c, B c → c < w0.heap.size) (A0 : Bo B w0 (Sl 1 xK) v0 x0) (A1 : Bo B w0 (Sl 1 xK) v1 x1) : Calls Tryz.prog 74 #[v0, v1] w0 (Gv (fun v w' => ∃ (v1' : Value), v = v1' ∧ Sep [] B w0 w' [rl 1 xK 2 v1' r])) := by
 unfold spec_l01At at hR
 refine oD (L := [(0, v0), (1, v1)]) func74 rfl rfl rfl (sc rfl (sc rfl sn)) (fun a F => ?_)
 have H := Sep.start hN
 refine xC (xH (xA F rfl rfl fun a F => xF (xG (xC (xH (oR0 (R := xK) underlying42 sizeOf2 F rfl H fun a w v11 H F => xA F rfl rfl fun a F => xF (xG ?_)))))))
 refine xC (xC (xH (xA F rfl rfl fun a F => xF (xG ?_))))
 obtain ⟨o32, hR, hk33⟩ := xS hR
 refine oQ (fun a w => ∃ (s41 : List Int) (v43 : Value), o32 = .nx s41 ∧ Sk a 25 [(5, v43)] ∧ Sep [] B w0 w [rl 1 xK 2 v43 s41]) ?_ ?_
 ·
  refine oU ?_
  obtain ⟨fl36, hf37, hR⟩ := qP hR
  refine qU (fun g a w => ∃ (k44 : Nat) (rest45 : List Int) (s38 : List Int) (v40 : Value), (k44 ≤ x1.length ∧ x1.drop k44 = rest45) ∧ rest45.length = g ∧ qT fl36 rest45 k44 s38 = some o32 ∧ Sk a 25 [(6, .int .i64 (k44 : Int)), (0, v0), (1, v1), (5, v40)] ∧ Sep [] B w0 w [rl 1 xK 2 v40 s38]) x1.length ?_ ?_
  ·
   exact ⟨0, x1, [], v11, ⟨Nat.zero_le _, rfl⟩, rfl, hR, F.sub (sc rfl (sc rfl (sc rfl (sc rfl sn)))), H⟩
  intro g47 a w ⟨k44, rest45, s38, v40, hd48, hg49, hR, F, H⟩
  cases rest45 with
  | nil =>
   replace hR := qS hR
   have hkk44 := qR hd48.1 hd48.2
   have hlk44 := vW hkk44
   refine xC (xC (xH (xB F rfl rfl fun a F => xB F rfl rfl fun a F => oL underlying42 F rfl rfl A1 fun a i65 F => oR F rfl rfl rfl fun a F => xF (xG (vV F rfl hlk44 (qK ?_))))))
   refine qQ (qQ (zT (xG ?_)))
   exact ⟨s38, v40, (Option.some.inj hR).symm, F.sub (sc rfl sn), H⟩
  | cons x46 rest45 =>
   subst hg49
   replace hd48 := qD hd48.2
   have hxk44 := qG hd48.2.1
   obtain ⟨ck44, hR, hn35⟩ := qC hR
   rw [hf37] at hR
   have hlk44 := vA hd48.1
   refine xC (xC (xH (xB F rfl rfl fun a F => xB F rfl rfl fun a F => oL underlying42 F rfl rfl A1 fun a i50 F => oR F rfl rfl rfl fun a F => xF (xG (vZ F rfl hlk44 (xO ?_))))))
   refine xG (xC ?_)
   have ikk44 := k64 (Nat.le_of_lt hd48.1) i50
   have ink44 := zW hd48.1 i50
   refine oU (xH (xB F rfl rfl fun a F => xB F rfl rfl fun a F => xB F rfl rfl fun a F => xB F rfl rfl fun a F => oI underlying42 sizeOf2 F rfl rfl rfl A1 hxk44 fun a p51 h52 F => olI isAgg2 F rfl rfl H.sm h52 (fun a i53 F => ?_)))
   obtain ⟨z54, c55, hR⟩ := xI hR
   refine oI underlying42 sizeOf2 F rfl rfl rfl A0 c55 fun a p56 h57 F => olI isAgg2 F rfl rfl H.sm h57 fun a i58 F => oR1z (R := xK) (y := z54) underlying42 sizeOf2 zeroValue2 rfl rfl F rfl rfl H (Eo.int i58) (fun a w v59 H F => ?_)
   obtain ⟨z61, c62, hR⟩ := xI hR
   refine oPL (sz := 1) (R := xK) (z := (.int .i64 0)) (bytes := 8) underlying42 (by kernel_rfl) rfl rfl F rfl rfl rfl (H.s [1, 0] rfl rfl) c62 fun a w v63 H F => xA F rfl rfl fun a F => xF (zN (xG (xH (xB F rfl rfl fun a F => vM F rfl rfl rfl ink44 fun a F => xA F rfl rfl fun a F => xF (xG ?_)))))
   replace hR := zH hR hn35
   exact ⟨_, Nat.lt_succ_self _, k44 + 1, rest45, z61, v63, ⟨hd48.1, hd48.2.2⟩, rfl, hR, F.sub (sc rfl (sc rfl (sc rfl (sc rfl sn)))), H⟩
 intro a w ⟨s41, v43, ho34, F, H⟩
 subst ho34
 have hR := xZ hk33
 refine xG (xC (xH (xB F rfl rfl fun a F => xA F rfl rfl fun a F => xF (xG (xW (xR F rfl (oO F rfl) ?_))))))
 obtain rfl := Option.some.inj hR
 exact ⟨_, rfl, v43, rfl, H⟩

def spec_l00Same (x0 : List Int) (x1 : List Int) : Option Bool :=
 if ((x0.length : Int) != (x1.length : Int)) then
  some false
 else
  kJ (σ := Unit) (
   qT (σ := Unit) (ρ := Bool) (fun (k31 : Nat) (x33 : Int) (s : Unit) =>
     match s with
     | _ =>
     oJ (ix x1 (k31 : Int)) fun z41 =>
     if (x33 != z41) then
      some (.ret false)
     else
      some (.go ())) x0 0 ()) fun _ =>
  some true
theorem spec_l00Same_c {B : Nat → Prop} {x0 : List Int} {x1 : List Int} (r : Bool) (hR : spec_l00Same x0 x1 = some r) {v0 : Value} {v1 : Value} (w0 : World) (hN : ∀ c, B c → c < w0.heap.size) (A0 : Bo B w0 (Sl 1 xK) v0 x0) (A1 : Bo B w0 (Sl 1 xK) v1 x1) : Calls Tryz.prog 112 #[v0, v1] w0 (vR (.bool r) w0) := by
 unfold spec_l00Same at hR
 refine oD (L := [(0, v0), (1, v1)]) func112 rfl rfl rfl (sc rfl (sc rfl sn)) (fun a F => ?_)
 have H := Sep.start hN
 refine xC (xH (xA F rfl rfl fun a F => xF (xG (xC (xC (xH (xB F rfl rfl fun a F => oL underlying42 F rfl rfl A0 fun a i11 F => xB F rfl rfl (fun a F => ?_))))))))
 refine oL underlying42 F rfl rfl A1 fun a i12 F => o_neq F rfl rfl rfl fun a F => xF (xG (vC F rfl (fun hb13 => ?_) (fun hb13 => ?_)))
 ·
  replace hR := zD hb13 hR
  refine xC (xH (xA F rfl rfl fun a F => xF (xG (xW (oV (xR F rfl (oO F rfl) ?_))))))
  obtain rfl := Option.some.inj hR
  exact ⟨rfl, H.bl⟩
 replace hR := zE hb13 hR
 refine xO (xG (xC (xC (xH (xA F rfl rfl fun a F => xF (xG ?_))))))
 obtain ⟨o25, hR, hk26⟩ := xS hR
 refine oQ (fun a w => o25 = .nx () ∧ Sk a 26 [] ∧ Sep [] B w0 w []) ?_ ?_
 ·
  refine oU ?_
  obtain ⟨fl29, hf30, hR⟩ := qP hR
  refine qU (fun g a w => ∃ (k31 : Nat) (rest32 : List Int), (k31 ≤ x0.length ∧ x0.drop k31 = rest32) ∧ rest32.length = g ∧ qT fl29 rest32 k31 () = some o25 ∧ Sk a 26 [(5, .int .i64 (k31 : Int)), (0, v0), (1, v1)] ∧ Sep [] B w0 w []) x0.length ?_ ?_
  ·
   exact ⟨0, x0, ⟨Nat.zero_le _, rfl⟩, rfl, hR, F.sub (sc rfl (sc rfl (sc rfl sn))), H⟩
  intro g34 a w ⟨k31, rest32, hd35, hg36, hR, F, H⟩
  cases rest32 with
  | nil =>
   replace hR := qS hR
   have hkk31 := qR hd35.1 hd35.2
   have hlk31 := vW hkk31
   refine xC (xC (xH (xB F rfl rfl fun a F => xB F rfl rfl fun a F => oL underlying42 F rfl rfl A0 fun a i47 F => oR F rfl rfl rfl fun a F => xF (xG (vV F rfl hlk31 (qK ?_))))))
   refine qQ (qQ (zT (xG ?_)))
   exact ⟨(Option.some.inj hR).symm, F.sub sn, H⟩
  | cons x33 rest32 =>
   subst hg36
   replace hd35 := qD hd35.2
   have hxk31 := qG hd35.2.1
   obtain ⟨ck31, hR, hn28⟩ := qC hR
   rw [hf30] at hR
   have hlk31 := vA hd35.1
   refine xC (xC (xH (xB F rfl rfl fun a F => xB F rfl rfl fun a F => oL underlying42 F rfl rfl A0 fun a i37 F => oR F rfl rfl rfl fun a F => xF (xG (vZ F rfl hlk31 (xO ?_))))))
   refine xG (xC ?_)
   have ikk31 := k64 (Nat.le_of_lt hd35.1) i37
   have ink31 := zW hd35.1 i37
   refine oU (xC (xQ H (by kernel_rfl) (by kernel_rfl) (xN F rfl (fun w l => xP F rfl) fun a F => xN F rfl (fun w l => xP F rfl) fun a F => qI underlying42 sizeOf2 F rfl rfl rfl A0 hxk31 fun a p38 h39 F => qlI isAgg2 F rfl rfl H.q h39 fun a i40 F => xN F rfl (fun w l => xP F rfl) fun a F => xN F rfl (fun w l => xP F rfl) (fun a F => ?_))))
   obtain ⟨z41, c42, hR⟩ := xI hR
   refine qI underlying42 sizeOf2 F rfl rfl rfl A1 c42 fun a p43 h44 F => qlI isAgg2 F rfl rfl H.q h44 fun a i45 F => xN F rfl (fun w l => r_neq F rfl rfl) fun a F => kA fun w H => xG (vC F rfl (fun hb46 => ?_) (fun hb46 => ?_))
   ·
    replace hR := zD hb46 hR
    refine xC (xH (xA F rfl rfl fun a F => xF (xG (xW (kB (oV (oV ?_)))))))
    replace hR := l_ret hR hn28
    refine kB (oV ?_)
    replace hR := j_ret hR hk26
    refine oV (xR F rfl (oO F rfl) ?_)
    obtain rfl := Option.some.inj hR
    exact ⟨rfl, H.bl⟩
   replace hR := zE hb46 hR
   refine xO (zN (xG (xH (xB F rfl rfl fun a F => vM F rfl rfl rfl ink31 fun a F => xA F rfl rfl fun a F => xF (xG ?_)))))
   replace hR := zH hR hn28
   exact ⟨_, Nat.lt_succ_self _, k31 + 1, rest32, ⟨hd35.1, hd35.2.2⟩, rfl, hR, F.sub (sc rfl (sc rfl (sc rfl sn))), H⟩
 intro a w ⟨ho27, F, H⟩
 subst ho27
 have hR := xZ hk26
 refine xG (xC (xH (xA F rfl rfl fun a F => xF (xG (xW (xR F rfl (oO F rfl) ?_))))))
 obtain rfl := Option.some.inj hR
 exact ⟨rfl, H.bl⟩

def spec_l01Has (x0 : Rel) (x1 : List Int) : Option Bool :=
 kJ (σ := Unit) (
  qT (σ := Unit) (ρ := Bool) (fun (k38 : Nat) (x40 : (List Int)) (s : Unit) =>
    match s with
    | _ =>
    oJ (spec_l00Same x40 x1) fun z57 =>
    if z57 then
     some (.ret true)
    else
     some (.go ())) x0.tuples 0 ()) fun _ =>
 some false
theorem spec_l01Has_c {B : Nat → Prop} {x0 : Rel} {x1 : List Int} (r : Bool) (hR : spec_l01Has x0 x1 = some r) {v0 : Value} {v1 : Value} (w0 : World) (hN : ∀ c, B c → c < w0.heap.size) (A0 : Bo B w0 (Pt 2 qE) v0 x0) (A1 : Bo B w0 (Sl 1 xK) v1 x1) : Calls Tryz.prog 55 #[v0, v1] w0 (vR (.bool r) w0) := by
 unfold spec_l01Has at hR
 refine oD (L := [(0, v0), (1, v1)]) func55 rfl rfl rfl (sc rfl (sc rfl sn)) (fun a F => ?_)
 have H := Sep.start hN
 refine xC (xH (xA F rfl rfl fun a F => xF (xG (xC (xC (xH (xA F rfl rfl fun a F => xF (xG ?_))))))))
 obtain ⟨o32, hR, hk33⟩ := xS hR
 refine oQ (fun a w => o32 = .nx () ∧ Sk a 24 [] ∧ Sep [] B w0 w []) ?_ ?_
 ·
  refine oU ?_
  obtain ⟨fl36, hf37, hR⟩ := qP hR
  refine qU (fun g a w => ∃ (k38 : Nat) (rest39 : List (List Int)), (k38 ≤ x0.tuples.length ∧ x0.tuples.drop k38 = rest39) ∧ rest39.length = g ∧ qT fl36 rest39 k38 () = some o32 ∧ Sk a 24 [(5, .int .i64 (k38 : Int)), (0, v0), (1, v1)] ∧ Sep [] B w0 w []) x0.tuples.length ?_ ?_
  ·
   exact ⟨0, x0.tuples, ⟨Nat.zero_le _, rfl⟩, rfl, hR, F.sub (sc rfl (sc rfl (sc rfl sn))), H⟩
  intro g41 a w ⟨k38, rest39, hd42, hg43, hR, F, H⟩
  cases rest39 with
  | nil =>
   replace hR := qS hR
   have hkk38 := qR hd42.1 hd42.2
   have hlk38 := vW hkk38
   refine xC (xC (xH (xB F rfl rfl fun a F => xB F rfl rfl fun a F => oN F rfl rfl A0 fun a F => oF (s' := 1) fa84_1 F rfl rfl A0 qE.f1 fun a p60 h61 F => olS isAgg82 F rfl rfl H.sm h61 fun a v62 h63 F => oL underlying82 F rfl rfl h63 fun a i64 F => oR F rfl rfl rfl fun a F => xF ?_)))
   refine xG (vV F rfl hlk38 (qK (qQ (qQ (zT (xG ?_))))))
   exact ⟨(Option.some.inj hR).symm, F.sub sn, H⟩
  | cons x40 rest39 =>
   subst hg43
   replace hd42 := qD hd42.2
   have hxk38 := qG hd42.2.1
   obtain ⟨ck38, hR, hn35⟩ := qC hR
   rw [hf37] at hR
   have hlk38 := vA hd42.1
   refine xC (xC (xH (xB F rfl rfl fun a F => xB F rfl rfl fun a F => oN F rfl rfl A0 fun a F => oF (s' := 1) fa84_1 F rfl rfl A0 qE.f1 fun a p44 h45 F => olS isAgg82 F rfl rfl H.sm h45 fun a v46 h47 F => oL underlying82 F rfl rfl h47 fun a i48 F => oR F rfl rfl rfl fun a F => xF ?_)))
   refine xG (vZ F rfl hlk38 (xO (xG (xC ?_))))
   have ikk38 := k64 (Nat.le_of_lt hd42.1) i48
   have ink38 := zW hd42.1 i48
   refine oU (xC (xH (xB F rfl rfl fun a F => oN F rfl rfl A0 fun a F => oF (s' := 1) fa84_1 F rfl rfl A0 qE.f1 fun a p49 h50 F => olS isAgg82 F rfl rfl H.sm h50 fun a v51 h52 F => xB F rfl rfl fun a F => oI underlying82 sizeOf42 F rfl rfl rfl h52 hxk38 fun a p53 h54 F => olS isAgg42 F rfl rfl H.sm h54 fun a v55 h56 F => xB F rfl rfl (fun a F => ?_))))
   obtain ⟨z57, c58, hR⟩ := xI hR
   refine oK F rfl call112 rfl H (spec_l00Same_c z57 c58 _ aA (H.a h56) (H.a A1)) fun a w H F => xF (xG (vC F rfl (fun hb59 => ?_) (fun hb59 => ?_)))
   ·
    replace hR := zD hb59 hR
    refine xC (xH (xA F rfl rfl fun a F => xF (xG (xW (kB (oV (oV ?_)))))))
    replace hR := l_ret hR hn35
    refine kB (oV ?_)
    replace hR := j_ret hR hk33
    refine oV (xR F rfl (oO F rfl) ?_)
    obtain rfl := Option.some.inj hR
    exact ⟨rfl, H.bl⟩
   replace hR := zE hb59 hR
   refine xO (zN (xG (xH (xB F rfl rfl fun a F => vM F rfl rfl rfl ink38 fun a F => xA F rfl rfl fun a F => xF (xG ?_)))))
   replace hR := zH hR hn35
   exact ⟨_, Nat.lt_succ_self _, k38 + 1, rest39, ⟨hd42.1, hd42.2.2⟩, rfl, hR, F.sub (sc rfl (sc rfl (sc rfl sn))), H⟩
 intro a w ⟨ho34, F, H⟩
 subst ho34
 have hR := xZ hk33
 refine xG (xC (xH (xA F rfl rfl fun a F => xF (xG (xW (xR F rfl (oO F rfl) ?_))))))
 obtain rfl := Option.some.inj hR
 exact ⟨rfl, H.bl⟩

def spec_l03Atom (x0 : Template) (x1 : Atom) (x2 : List Int) : Option Bool :=
 oJ (spec_l01At x2 x1.args) fun z15 =>
 if (x1.rel == (-1)) then
  oJ (ix z15 0) fun z24 =>
  oJ (ix z15 1) fun z29 =>
  some ((z24 == z29))
 else
  oJ (ix x0.rels x1.rel) fun z41 =>
  oJ (spec_l01Has z41 z15) fun z45 =>
  some z45
theorem spec_l03Atom_c {B : Nat → Prop} {x0 : Template} {x1 : Atom} {x2 : List Int} (r : Bool) (hR : spec_l03Atom x0 x1 x2 = some r) {v0 : Value} {v1 : Value} {v2 : Value} (w0 : World) (hN : ∀ c, B c → c < w0.heap.size) (A0 : Bo B w0 (Pt 2 xJ) v0 x0) (A1 : Bo B w0 (Pt 2 xU) v1 x1) (A2 : Bo B w0 (Sl 1 xK) v2 x2) : Calls Tryz.prog 253 #[v0, v1, v2] w0 (vR (.bool r) w0) := by
 unfold spec_l03Atom at hR
 refine oD (L := [(0, v0), (1, v1), (2, v2)]) func253 rfl rfl rfl (sc rfl (sc rfl (sc rfl sn))) (fun a F => ?_)
 have H := Sep.start hN
 refine xC (xH (xA F rfl rfl fun a F => xF (xG (xC (xH (xB F rfl rfl fun a F => xB F rfl rfl fun a F => oN F rfl rfl A1 fun a F => oF (s' := 1) fa158_1 F rfl rfl A1 xU.f1 (fun a p11 h12 F => ?_)))))))
 refine olS isAgg42 F rfl rfl H.sm h12 (fun a v13 h14 F => ?_)
 obtain ⟨z15, c16, hR⟩ := xI hR
 refine oG F rfl call74 rfl (spec_l01At_c z15 c16 _ aA (H.a A2) (H.a h14)) (fun a vv w ⟨v17, hv19, S⟩ F => ?_)
 subst vv
 have H := H.r1 S n0
 refine xA F rfl rfl fun a F => xF (xG (xC (xC (xH (xB F rfl rfl fun a F => oN F rfl rfl A1 fun a F => oF (s' := 1) fa158_0 F rfl rfl A1 xU.f0 fun a p20 h21 F => olI isAgg2 F rfl rfl H.sm h21 fun a i22 F => o_eql F rfl rfl rfl (fun a F => ?_))))))
 refine xF (xG (vC F rfl (fun hb23 => ?_) (fun hb23 => ?_)))
 ·
  replace hR := zD hb23 hR
  refine xC (xQ H (by kernel_rfl) (by kernel_rfl) (xN F rfl (fun w l => xP F rfl) (fun a F => ?_)))
  obtain ⟨z24, c25, hR⟩ := xI hR
  refine qI underlying42 sizeOf2 F rfl rfl rfl (H.l 0 rfl) c25 fun a p26 h27 F => qlI isAgg2 F rfl rfl qA h27 fun a i28 F => xN F rfl (fun w l => xP F rfl) (fun a F => ?_)
  obtain ⟨z29, c30, hR⟩ := xI hR
  refine qI underlying42 sizeOf2 F rfl rfl rfl (H.l 0 rfl) c30 fun a p31 h32 F => qlI isAgg2 F rfl rfl qA h32 fun a i33 F => xN F rfl (fun w l => r_eql F rfl rfl) fun a F => xN F rfl (fun w l => vO F rfl) fun a F => kA fun w H => xG (xW (oV (xR F rfl (oO F rfl) ?_)))
  obtain rfl := Option.some.inj hR
  exact ⟨rfl, H.bl⟩
 replace hR := zE hb23 hR
 refine xO (xG (xC (xQ H (by kernel_rfl) (by kernel_rfl) (xN F rfl (fun w l => xP F rfl) fun a F => qN F rfl rfl A0 fun a F => qF (s' := 1) fa33_1 F rfl rfl A0 xJ.f1 fun a p34 h35 F => qlS isAgg31 F rfl rfl H.q h35 fun a v36 h37 F => xN F rfl (fun w l => xP F rfl) fun a F => qN F rfl rfl A1 fun a F => qF (s' := 1) fa158_0 F rfl rfl A1 xU.f0 (fun a p38 h39 F => ?_)))))
 refine qlI isAgg2 F rfl rfl H.q h39 (fun a i40 F => ?_)
 obtain ⟨z41, c42, hR⟩ := xI hR
 refine qI underlying31 sizeOf84 F rfl rfl rfl h37 c42 fun a p43 h44 F => xN F rfl (fun w l => xP F rfl) (fun a F => ?_)
 obtain ⟨z45, c46, hR⟩ := xI hR
 refine q_says F rfl call55 rfl (fun w w' h l => l.through h) (fun w l => spec_l01Has_c z45 c46 w aA ((H.go l).a h44) ((H.go l).l 0 rfl)) fun a F => xN F rfl (fun w l => vO F rfl) fun a F => kA fun w H => xG (xW (xR F rfl (oO F rfl) ?_))
 obtain rfl := Option.some.inj hR
 exact ⟨rfl, H.bl⟩

def spec_l03Sure (x0 : Template) (x1 : Formula) (x2 : List Int) : Option Bool :=
 oJ (ck ((x2.length : Int) - 1)) fun z12 =>
 kJ (σ := Unit) (
  qT (σ := Unit) (ρ := Bool) (fun (k145 : Nat) (x147 : Atom) (s : Unit) =>
    match s with
    | _ =>
    kJ (σ := Int) (
     qT (σ := Int) (ρ := (Ctl (Unit) Bool)) (fun (k205 : Nat) (x207 : Int) (s201 : Int) =>
      oJ (spec_l00Max s201 x207) fun z235 =>
      some (.go z235)) x147.args 0 0) fun s203 =>
    kJ (σ := Bool) (
     if (s203 == z12) then  oJ (spec_l03Atom x0 x147 x2) fun z268 =>
      some (.nx (!z268)) else  some (.nx false)) fun s260 =>
    if s260 then
     some (.ret false)
    else
     some (.go ())) x1.atoms 0 ()) fun _ =>
 some true
theorem spec_l03Sure_c {B : Nat → Prop} {x0 : Template} {x1 : Formula} {x2 : List Int} (r : Bool) (hR : spec_l03Sure x0 x1 x2 = some r) {v0 : Value} {v1 : Value} {v2 : Value} (w0 : World) (hN : ∀ c, B c → c < w0.heap.size) (A0 : Bo B w0 (Pt 2 xJ) v0 x0) (A1 : Bo B w0 (Pt 3 xL) v1 x1) (A2 : Bo B w0 (Sl 1 xK) v2 x2) : Calls Tryz.prog 231 #[v0, v1, v2] w0 (vR (.bool r) w0) := by
 unfold spec_l03Sure at hR
 refine oD (L := [(0, v0), (1, v1), (2, v2)]) func231 rfl rfl rfl (sc rfl (sc rfl (sc rfl sn))) (fun a F => ?_)
 have H := Sep.start hN
 refine xC (xH (xA F rfl rfl fun a F => xF (xG (xC (xH (xB F rfl rfl fun a F => oL underlying42 F rfl rfl A2 (fun a i11 F => ?_)))))))
 obtain ⟨z12, c13, hR⟩ := xI hR
 refine o_sub F rfl rfl rfl c13 fun a F => xA F rfl rfl fun a F => xF (xG (xC (xC (xH (xA F rfl rfl fun a F => xF (xG ?_))))))
 obtain ⟨o139, hR, hk140⟩ := xS hR
 refine oQ (fun a w => o139 = .nx () ∧ Sk a 64 [] ∧ Sep [] B w0 w []) ?_ ?_
 ·
  refine oU ?_
  obtain ⟨fl143, hf144, hR⟩ := qP hR
  refine qU (fun g a w => ∃ (k145 : Nat) (rest146 : List Atom), (k145 ≤ x1.atoms.length ∧ x1.atoms.drop k145 = rest146) ∧ rest146.length = g ∧ qT fl143 rest146 k145 () = some o139 ∧ Sk a 64 [(8, .int .i64 (k145 : Int)), (0, v0), (1, v1), (2, v2), (7, .int .i64 z12)] ∧ Sep [] B w0 w []) x1.atoms.length ?_ ?_
  ·
   exact ⟨0, x1.atoms, ⟨Nat.zero_le _, rfl⟩, rfl, hR, F.sub (sc rfl (sc rfl (sc rfl (sc rfl (sc rfl sn))))), H⟩
  intro g148 a w ⟨k145, rest146, hd149, hg150, hR, F, H⟩
  cases rest146 with
  | nil =>
   replace hR := qS hR
   have hkk145 := qR hd149.1 hd149.2
   have hlk145 := vW hkk145
   refine xC (xC (xH (xB F rfl rfl fun a F => xB F rfl rfl fun a F => oN F rfl rfl A1 fun a F => oF (s' := 1) fa95_2 F rfl rfl A1 xL.f2 fun a p271 h272 F => olS isAgg93 F rfl rfl H.sm h272 fun a v273 h274 F => oL underlying93 F rfl rfl h274 fun a i275 F => oR F rfl rfl rfl fun a F => xF ?_)))
   refine xG (vV F rfl hlk145 (qK (qQ (qQ (zT (xG ?_))))))
   exact ⟨(Option.some.inj hR).symm, F.sub sn, H⟩
  | cons x147 rest146 =>
   subst hg150
   replace hd149 := qD hd149.2
   have hxk145 := qG hd149.2.1
   obtain ⟨ck145, hR, hn142⟩ := qC hR
   rw [hf144] at hR
   have hlk145 := vA hd149.1
   refine xC (xC (xH (xB F rfl rfl fun a F => xB F rfl rfl fun a F => oN F rfl rfl A1 fun a F => oF (s' := 1) fa95_2 F rfl rfl A1 xL.f2 fun a p151 h152 F => olS isAgg93 F rfl rfl H.sm h152 fun a v153 h154 F => oL underlying93 F rfl rfl h154 fun a i155 F => oR F rfl rfl rfl fun a F => xF ?_)))
   refine xG (vZ F rfl hlk145 (xO (xG (xC ?_))))
   have ikk145 := k64 (Nat.le_of_lt hd149.1) i155
   have ink145 := zW hd149.1 i155
   refine oU (xC (xH (xA F rfl rfl fun a F => xF (xG (xC (xC (xH (xA F rfl rfl fun a F => xF ?_))))))))
   refine xG ?_
   obtain ⟨o195, hR, hk196⟩ := xS hR
   refine oQ (fun a w => ∃ (s203 : Int), o195 = .nx s203 ∧ Sk a 64 [(0, v0), (1, v1), (2, v2), (7, .int .i64 z12), (8, .int .i64 (k145 : Int)), (9, .int .i64 s203)] ∧ Sep [] B w0 w [] ∧ xY s203) ?_ ?_
   ·
    refine oU ?_
    obtain ⟨fl199, hf200, hR⟩ := qP hR
    refine qU (fun g a w => ∃ (k205 : Nat) (rest206 : List Int) (s201 : Int), (k205 ≤ x147.args.length ∧ x147.args.drop k205 = rest206) ∧ rest206.length = g ∧ qT fl199 rest206 k205 s201 = some o195 ∧ Sk a 64 [(10, .int .i64 (k205 : Int)), (0, v0), (1, v1), (2, v2), (7, .int .i64 z12), (8, .int .i64 (k145 : Int)), (9, .int .i64 s201)] ∧ Sep [] B w0 w [] ∧ xY s201) x147.args.length ?_ ?_
    ·
     exact ⟨0, x147.args, 0, ⟨Nat.zero_le _, rfl⟩, rfl, hR, F.sub (sc rfl (sc rfl (sc rfl (sc rfl (sc rfl (sc rfl (sc rfl sn))))))), H, (show xY (0) by decide)⟩
    intro g208 a w ⟨k205, rest206, s201, hd209, hg210, hR, F, H, i202⟩
    cases rest206 with
    | nil =>
     replace hR := qS hR
     have hkk205 := qR hd209.1 hd209.2
     have hlk205 := vW hkk205
     refine xC (xC (xH (xB F rfl rfl fun a F => xB F rfl rfl fun a F => oN F rfl rfl A1 fun a F => oF (s' := 1) fa95_2 F rfl rfl A1 xL.f2 fun a p237 h238 F => olS isAgg93 F rfl rfl H.sm h238 fun a v239 h240 F => xB F rfl rfl fun a F => oI underlying93 sizeOf158 F rfl rfl rfl h240 hxk145 fun a p241 h242 F => oF (s' := 1) fa158_1 F rfl rfl h242 xU.f1 (fun a p243 h244 F => ?_))))
     refine olS isAgg42 F rfl rfl H.sm h244 fun a v245 h246 F => oL underlying42 F rfl rfl h246 fun a i247 F => oR F rfl rfl rfl fun a F => xF (xG (vV F rfl hlk205 (qK (qQ (qQ (zT (xG ?_)))))))
     exact ⟨s201, (Option.some.inj hR).symm, F.sub (sc rfl (sc rfl (sc rfl (sc rfl (sc rfl (sc rfl sn)))))), H, i202⟩
    | cons x207 rest206 =>
     subst hg210
     replace hd209 := qD hd209.2
     have hxk205 := qG hd209.2.1
     obtain ⟨ck205, hR, hn198⟩ := qC hR
     rw [hf200] at hR
     have hlk205 := vA hd209.1
     refine xC (xC (xH (xB F rfl rfl fun a F => xB F rfl rfl fun a F => oN F rfl rfl A1 fun a F => oF (s' := 1) fa95_2 F rfl rfl A1 xL.f2 fun a p211 h212 F => olS isAgg93 F rfl rfl H.sm h212 fun a v213 h214 F => xB F rfl rfl fun a F => oI underlying93 sizeOf158 F rfl rfl rfl h214 hxk145 fun a p215 h216 F => oF (s' := 1) fa158_1 F rfl rfl h216 xU.f1 (fun a p217 h218 F => ?_))))
     refine olS isAgg42 F rfl rfl H.sm h218 fun a v219 h220 F => oL underlying42 F rfl rfl h220 fun a i221 F => oR F rfl rfl rfl fun a F => xF (xG (vZ F rfl hlk205 (xO (xG (xC ?_)))))
     have ikk205 := k64 (Nat.le_of_lt hd209.1) i221
     have ink205 := zW hd209.1 i221
     refine oU (xH (xB F rfl rfl fun a F => xB F rfl rfl fun a F => oN F rfl rfl A1 fun a F => oF (s' := 1) fa95_2 F rfl rfl A1 xL.f2 fun a p222 h223 F => olS isAgg93 F rfl rfl H.sm h223 fun a v224 h225 F => xB F rfl rfl fun a F => oI underlying93 sizeOf158 F rfl rfl rfl h225 hxk145 fun a p226 h227 F => oF (s' := 1) fa158_1 F rfl rfl h227 xU.f1 fun a p228 h229 F => olS isAgg42 F rfl rfl H.sm h229 (fun a v230 h231 F => ?_)))
     refine xB F rfl rfl fun a F => oI underlying42 sizeOf2 F rfl rfl rfl h231 hxk205 fun a p232 h233 F => olI isAgg2 F rfl rfl H.sm h233 (fun a i234 F => ?_)
     obtain ⟨z235, c236, hR⟩ := xI hR
     refine oKI F rfl call124 rfl H (spec_l00Max_c z235 c236 _ aA i202 i234) fun a w H iz235 F => xA F rfl rfl fun a F => xF (zN (xG (xH (xB F rfl rfl fun a F => vM F rfl rfl rfl ink205 fun a F => xA F rfl rfl fun a F => xF (xG ?_)))))
     replace hR := zH hR hn198
     exact ⟨_, Nat.lt_succ_self _, k205 + 1, rest206, z235, ⟨hd209.1, hd209.2.2⟩, rfl, hR, F.sub (sc rfl (sc rfl (sc rfl (sc rfl (sc rfl (sc rfl (sc rfl sn))))))), H, iz235⟩
   intro a w ⟨s203, ho197, F, H, i204⟩
   subst ho197
   have hR := xZ hk196
   refine xG (xC ?_)
   obtain ⟨o257, hR, hk258⟩ := xS hR
   refine oQ (fun a w => ∃ (s260 : Bool), o257 = .nx s260 ∧ Sk a 64 [(0, v0), (1, v1), (2, v2), (7, .int .i64 z12), (8, .int .i64 (k145 : Int)), (63, .bool s260)] ∧ Sep [] B w0 w []) ?_ ?_
   ·
    refine xH (xB F rfl rfl fun a F => xB F rfl rfl fun a F => o_eql F rfl rfl rfl fun a F => xB F rfl rfl (fun a F => ?_))
    rcases vD (s203 == z12) with hb261 | hb261
    ·
     replace hR := zD hb261 hR
     have F := F.eq (t := 52) rfl (congrArg Value.bool hb261)
     refine xB F rfl rfl fun a F => xB F rfl rfl fun a F => oN F rfl rfl A1 fun a F => oF (s' := 1) fa95_2 F rfl rfl A1 xL.f2 fun a p262 h263 F => olS isAgg93 F rfl rfl H.sm h263 fun a v264 h265 F => xB F rfl rfl fun a F => oI underlying93 sizeOf158 F rfl rfl rfl h265 hxk145 fun a p266 h267 F => xB F rfl rfl (fun a F => ?_)
     obtain ⟨z268, c269, hR⟩ := xI hR
     refine oK F rfl call253 rfl H (spec_l03Atom_c z268 c269 _ aA (H.a A0) (H.a h267) (H.a A2)) fun a w H F => kE F rfl rfl fun a F => vH F rfl rfl rfl fun a F => xF (xG ?_)
     exact ⟨(!z268), (Option.some.inj hR).symm, F.sub (sc rfl (sc rfl (sc rfl (sc rfl (sc rfl (sc rfl sn)))))), H⟩
    replace hR := zE hb261 hR
    have F := F.eq (t := 52) rfl (congrArg Value.bool hb261)
    refine oH F rfl rfl fun a F => oH F rfl rfl fun a F => oH F rfl rfl fun a F => oH F rfl rfl fun a F => oH F rfl rfl fun a F => oH F rfl rfl fun a F => oH F rfl rfl fun a F => oH F rfl rfl fun a F => oH F rfl rfl fun a F => oH F rfl rfl fun a F => qZ F rfl rfl rfl (fun a F => ?_)
    refine xF (xG ?_)
    exact ⟨false, (Option.some.inj hR).symm, F.sub (sc rfl (sc rfl (sc rfl (sc rfl (sc rfl (sc rfl sn)))))), H⟩
   intro a w ⟨s260, ho259, F, H⟩
   subst ho259
   have hR := xZ hk258
   refine xG (vC F rfl (fun hb270 => ?_) (fun hb270 => ?_))
   ·
    replace hR := zD hb270 hR
    refine xC (xH (xA F rfl rfl fun a F => xF (xG (xW (kB (oV (oV ?_)))))))
    replace hR := l_ret hR hn142
    refine kB (oV ?_)
    replace hR := j_ret hR hk140
    refine oV (xR F rfl (oO F rfl) ?_)
    obtain rfl := Option.some.inj hR
    exact ⟨rfl, H.bl⟩
   replace hR := zE hb270 hR
   refine xO (zN (xG (xH (xB F rfl rfl fun a F => vM F rfl rfl rfl ink145 fun a F => xA F rfl rfl fun a F => xF (xG ?_)))))
   replace hR := zH hR hn142
   exact ⟨_, Nat.lt_succ_self _, k145 + 1, rest146, ⟨hd149.1, hd149.2.2⟩, rfl, hR, F.sub (sc rfl (sc rfl (sc rfl (sc rfl (sc rfl sn))))), H⟩
 intro a w ⟨ho141, F, H⟩
 subst ho141
 have hR := xZ hk140
 refine xG (xC (xH (xA F rfl rfl fun a F => xF (xG (xW (xR F rfl (oO F rfl) ?_))))))
 obtain rfl := Option.some.inj hR
 exact ⟨rfl, H.bl⟩

def zO (x0 : List Int) : Option (List Int) :=
 oJ (ap ([]) x0) fun z13 =>
 some z13
theorem spec_l00Own_c {B : Nat → Prop} {x0 : List Int} (r : (List Int)) (hR : zO x0 = some r) {v0 : Value} (w0 : World) (hN : ∀ c, B c → c < w0.heap.size) (A0 : Bo B w0 (Sl 1 xK) v0 x0) : Calls Tryz.prog 115 #[v0] w0 (Gv (fun v w' => ∃ (v1' : Value), v = v1' ∧ Sep [] B w0 w' [rl 1 xK 2 v1' r])) := by
 unfold zO at hR
 refine oD (L := [(0, v0)]) func115 rfl rfl rfl (sc rfl sn) (fun a F => ?_)
 have H := Sep.start hN
 refine xC (xH (xA F rfl rfl fun a F => xF (xG (xC (xH (oR0 (R := xK) underlying42 sizeOf2 F rfl H fun a w v11 H F => xB F rfl rfl (fun a F => ?_)))))))
 obtain ⟨z13, c14, hR⟩ := xI hR
 refine oPf (sz := 1) (R := xK) (z := (.int .i64 0)) (bytes := 8) underlying42 (by kernel_rfl) rfl rfl F rfl rfl rfl H.lw (H.lw.a A0) c14 (fun a w v15 H F => ?_)
 have H := H.tl
 refine xA F rfl rfl fun a F => xF (xG (xW (xR F rfl (oO F rfl) ?_)))
 obtain rfl := Option.some.inj hR
 exact ⟨_, rfl, v15, rfl, H⟩

def kD : Nat → Template → Formula → (List Int) → Option ((List Int) × Bool)
  | 0, _, _, _ => none
  | N + 1, x0, x1, x2 =>
  if ((x2.length : Int) == x1.vars) then
   some (x2, true)
  else
   kJ (σ := Unit) (
    kT (σ := Unit) (ρ := (List Int) × Bool) (fun (k56 : Nat) (s : Unit) =>
      match s with
      | _ =>
      oJ (zO x2) fun z65 =>
      oJ (ap z65 ([(k56 : Int)])) fun z72 =>
      oJ (spec_l03Sure x0 x1 z72) fun z76 =>
      if (!z76) then
       some (.go ())
      else
       oJ (kD N x0 x1 z72) fun z86 =>
       if z86.2 then
        some (.ret (z86.1, true))
       else
        some (.go ())) x0.size.toNat 0 ()) fun _ =>
   some ([], false)
theorem spec_l03Search_cA : ∀ (N : Nat) {B : Nat → Prop} {x0 : Template} {x1 : Formula} {x2 : List Int} (r : (List Int) × Bool) (hR : kD N x0 x1 x2 = some r) {v0 : Value} {v1 : Value} {v2 : Value} (w0 : World) (hN : ∀ c, B c → c < w0.heap.size) (A0 : Bo B w0 (Pt 2 xJ) v0 x0) (A1 : Bo B w0 (Pt 3 xL) v1 x1) (A2 : Bo B w0 (Sl 1 xK) v2 x2), Calls Tryz.prog 232 #[v0, v1, v2] w0 (Gv (fun v w' => ∃ (v1' : Value), v = .tuple #[v1', .bool r.2] ∧ Sep [] B w0 w' [ro B (V := (Sl 1 xK)) v1' r.1])) := by
  intro N
  induction N with
  | zero => intro B x0 x1 x2 r hR; unfold kD at hR; cases hR
  | succ N ih =>
  intro B x0 x1 x2 r hR v0 v1 v2 w0 hN A0 A1 A2
  rw [kD] at hR
  refine oD (L := [(0, v0), (1, v1), (2, v2)]) func232 rfl rfl rfl (sc rfl (sc rfl (sc rfl sn))) (fun a F => ?_)
  have H := Sep.start hN
  refine xC (xH (xA F rfl rfl fun a F => xA F rfl rfl fun a F => xF (xG (xC (xC (xH (xB F rfl rfl fun a F => oL underlying42 F rfl rfl A2 (fun a i11 F => ?_))))))))
  refine xB F rfl rfl fun a F => oN F rfl rfl A1 fun a F => oF (s' := 1) fa95_1 F rfl rfl A1 xL.f1 fun a p12 h13 F => olI isAgg2 F rfl rfl H.sm h13 fun a i14 F => o_eql F rfl rfl rfl fun a F => xF (xG (vC F rfl (fun hb15 => ?_) (fun hb15 => ?_)))
  ·
   replace hR := zD hb15 hR
   refine xC (xH (xB F rfl rfl fun a F => xA F rfl rfl fun a F => xA F rfl rfl fun a F => xF (xG (xW (oV ?_)))))
   have H := H.rob A2
   refine kY F rfl (oO F rfl) (oO F rfl) ?_
   obtain rfl := Option.some.inj hR
   exact ⟨_, rfl, v2, rfl, H⟩
  replace hR := zE hb15 hR
  refine xO (xG (xC (xC (xH (xA F rfl rfl fun a F => xF (xG ?_))))))
  obtain ⟨o50, hR, hk51⟩ := xS hR
  refine oQ (fun a w => o50 = .nx () ∧ Sk a 48 [] ∧ Sep [] B w0 w []) ?_ ?_
  ·
   refine oU ?_
   obtain ⟨fl54, hf55, hR⟩ := forI_gen hR
   refine qU (fun g a w => ∃ (k56 : Nat), k56 + g = x0.size.toNat ∧ kT fl54 g k56 () = some o50 ∧ Sk a 48 [(8, .int .i64 (k56 : Int)), (0, v0), (1, v1), (2, v2)] ∧ Sep [] B w0 w []) x0.size.toNat ?_ ?_
   ·
    exact ⟨0, (Nat.zero_add _), hR, F.sub (sc rfl (sc rfl (sc rfl (sc rfl sn)))), H⟩
   intro g59 a w ⟨k56, hd60, hR, F, H⟩
   cases g59 with
   | zero =>
    replace hR := forI_zero hR
    have hlk56 := dec_noI hd60
    refine xC (xC (xH (xB F rfl rfl fun a F => xB F rfl rfl fun a F => oN F rfl rfl A0 fun a F => oF (s' := 1) fa33_0 F rfl rfl A0 xJ.f0 fun a p92 h93 F => olI isAgg2 F rfl rfl H.sm h93 fun a i94 F => oR F rfl rfl rfl fun a F => xF (xG ?_))))
    refine vV F rfl hlk56 (qK (qQ (qQ (zT (xG ?_)))))
    exact ⟨(Option.some.inj hR).symm, F.sub sn, H⟩
   | succ g59 =>
    obtain ⟨ck56, hR, hn53⟩ := forI_succ hR
    rw [hf55] at hR
    have hlk56 := dec_yesI hd60
    refine xC (xC (xH (xB F rfl rfl fun a F => xB F rfl rfl fun a F => oN F rfl rfl A0 fun a F => oF (s' := 1) fa33_0 F rfl rfl A0 xJ.f0 fun a p62 h63 F => olI isAgg2 F rfl rfl H.sm h63 fun a i64 F => oR F rfl rfl rfl fun a F => xF (xG ?_))))
    refine vZ F rfl hlk56 (xO (xG (xC ?_)))
    have ikk56 := k64I hd60 i64
    have ink56 := inc64I hd60 i64
    refine oU (xC (xH (xB F rfl rfl (fun a F => ?_))))
    obtain ⟨z65, c66, hR⟩ := xI hR
    refine oG F rfl call115 rfl (spec_l00Own_c z65 c66 _ aA (H.a A2)) (fun a vv w ⟨v67, hv69, S⟩ F => ?_)
    subst vv
    have H := H.r1 S n0
    refine xB F rfl rfl fun a F => oR1z (R := xK) (y := (k56 : Int)) underlying42 sizeOf2 zeroValue2 rfl rfl F rfl rfl H (Eo.int ikk56) (fun a w v70 H F => ?_)
    obtain ⟨z72, c73, hR⟩ := xI hR
    refine oPL (sz := 1) (R := xK) (z := (.int .i64 0)) (bytes := 8) underlying42 (by kernel_rfl) rfl rfl F rfl rfl rfl (H.s [1, 0] rfl rfl) c73 fun a w v74 H F => xA F rfl rfl fun a F => xF (xG (xC (xC (xH (xB F rfl rfl fun a F => xB F rfl rfl fun a F => xB F rfl rfl (fun a F => ?_))))))
    obtain ⟨z76, c77, hR⟩ := xI hR
    refine oK F rfl call231 rfl H (spec_l03Sure_c z76 c77 _ aA (H.a A0) (H.a A1) (H.l 0 rfl)) fun a w H F => kE F rfl rfl fun a F => xF (xG (vC F rfl (fun hb78 => ?_) (fun hb78 => ?_)))
    ·
     replace hR := zD hb78 hR
     refine qK (qQ (zT (xG (xH (xB F rfl rfl fun a F => vM F rfl rfl rfl ink56 fun a F => xA F rfl rfl fun a F => xF (xG ?_))))))
     replace hR := zH hR hn53
     exact ⟨_, Nat.lt_succ_self _, k56 + 1, (by omega), hR, F.sub (sc rfl (sc rfl (sc rfl (sc rfl sn)))), (H.s [] rfl rfl)⟩
    replace hR := zE hb78 hR
    refine xO (xG (xC (xH (xB F rfl rfl fun a F => xB F rfl rfl fun a F => xB F rfl rfl (fun a F => ?_)))))
    obtain ⟨w84, rfl⟩ : ∃ x, x = w := ⟨_, rfl⟩
    obtain ⟨X79, N80, g81, e82, H, th83⟩ := H.fz
    have h85 := g81.ld
    obtain ⟨z86, c87, hR⟩ := xI hR
    refine oG F rfl call232 rfl (ih z86 c87 _ H.hN (H.u (e82 A0)) (H.u (e82 A1)) (H.u h85)) (fun a vv w ⟨v88, hv90, S⟩ F => ?_)
    subst vv
    have H := H.r1 S n1
    refine xB F rfl rfl fun a F => vE F rfl rfl rfl fun a F => vE F rfl rfl rfl fun a F => xA F rfl rfl fun a F => xA F rfl rfl fun a F => xF (xG (xC (xH (xB F rfl rfl fun a F => xF ?_))))
    refine xG (vC F rfl (fun hb91 => ?_) (fun hb91 => ?_))
    ·
     replace hR := zD hb91 hR
     refine xC (xH (xB F rfl rfl fun a F => xA F rfl rfl fun a F => xA F rfl rfl fun a F => xF (xG (xW (kB (oV (oV ?_)))))))
     replace hR := l_ret hR hn53
     refine kB (oV ?_)
     replace hR := j_ret hR hk51
     refine oV ?_
     have H := (th83.2.1 H (Ns.all trivial))
     refine kY F rfl (oO F rfl) (oO F rfl) ?_
     obtain rfl := Option.some.inj hR
     exact ⟨_, rfl, v88, rfl, H⟩
    replace hR := zE hb91 hR
    refine xO (zN (xG (xH (xB F rfl rfl fun a F => vM F rfl rfl rfl ink56 fun a F => xA F rfl rfl fun a F => xF (xG ?_)))))
    replace hR := zH hR hn53
    exact ⟨_, Nat.lt_succ_self _, k56 + 1, (by omega), hR, F.sub (sc rfl (sc rfl (sc rfl (sc rfl sn)))), ((th83.1 (H.s [] rfl rfl) (Ns.all trivial)).s [] rfl rfl)⟩
  intro a w ⟨ho52, F, H⟩
  subst ho52
  have hR := xZ hk51
  refine xG (xC (xH (oR0 (R := xK) underlying42 sizeOf2 F rfl H fun a w v95 H F => xA F rfl rfl fun a F => xA F rfl rfl fun a F => xF (xG (xW ?_)))))
  have H := H.lw.rwo.rok
  refine kY F rfl (oO F rfl) (oO F rfl) ?_
  obtain rfl := Option.some.inj hR
  exact ⟨_, rfl, v95, rfl, H⟩
theorem spec_l03Search_c {B : Nat → Prop} {N : Nat} {x0 : Template} {x1 : Formula} {x2 : List Int} (r : (List Int) × Bool) (hR : kD N x0 x1 x2 = some r) {v0 : Value} {v1 : Value} {v2 : Value} (w0 : World) (hN : ∀ c, B c → c < w0.heap.size) (A0 : Bo B w0 (Pt 2 xJ) v0 x0) (A1 : Bo B w0 (Pt 3 xL) v1 x1) (A2 : Bo B w0 (Sl 1 xK) v2 x2) : Calls Tryz.prog 232 #[v0, v1, v2] w0 (Gv (fun v w' => ∃ (v1' : Value), v = .tuple #[v1', .bool r.2] ∧ Sep [] B w0 w' [ro B (V := (Sl 1 xK)) v1' r.1])) :=
  spec_l03Search_cA N r hR w0 hN A0 A1 A2

def spec_l03Witness (N : Nat) (x0 : Template) (x1 : Formula) (x2 : List Int) : Option ((List Int) × Bool) :=
 kJ (σ := Int) (
  whl (σ := Int) (ρ := (List Int) × Bool) (fun (s32 : Int) =>
   if (decide (s32 ≤ (x2.length : Int))) then
    oJ (sl x2 0 s32) fun z44 =>
    oJ (spec_l03Sure x0 x1 z44) fun z48 =>
    if (!z48) then
     some (.ret ([], false))
    else
     oJ (ck (s32 + 1)) fun z53 =>
     some (.go z53)
   else
    some (.brk s32)) N 1) fun s34 =>
 oJ (zO x2) fun z55 =>
 oJ (kD N x0 x1 z55) fun z67 =>
 some (z67.1, z67.2)
theorem spec_l03Witness_c {B : Nat → Prop} {N : Nat} {x0 : Template} {x1 : Formula} {x2 : List Int} (r : (List Int) × Bool) (hR : spec_l03Witness N x0 x1 x2 = some r) {v0 : Value} {v1 : Value} {v2 : Value} (w0 : World) (hN : ∀ c, B c → c < w0.heap.size) (A0 : Bo B w0 (Pt 2 xJ) v0 x0) (A1 : Bo B w0 (Pt 3 xL) v1 x1) (A2 : Bo B w0 (Sl 1 xK) v2 x2) : Calls Tryz.prog 194 #[v0, v1, v2] w0 (Gv (fun v w' => ∃ (v1' : Value), v = .tuple #[v1', .bool r.2] ∧ Sep [] B w0 w' [ro B (V := (Sl 1 xK)) v1' r.1])) := by
 unfold spec_l03Witness at hR
 refine oD (L := [(0, v0), (1, v1), (2, v2)]) func194 rfl rfl rfl (sc rfl (sc rfl (sc rfl sn))) (fun a F => ?_)
 have H := Sep.start hN
 refine xC (xH (xA F rfl rfl fun a F => xA F rfl rfl fun a F => xF (xG (xC (xC (xH (xA F rfl rfl fun a F => xF ?_)))))))
 refine xG ?_
 obtain ⟨o26, hR, hk27⟩ := xS hR
 refine oQ (fun a w => ∃ (s34 : Int), o26 = .nx s34 ∧ Sk a 30 [(0, v0), (1, v1), (2, v2)] ∧ Sep [] B w0 w [] ∧ xY s34) ?_ ?_
 ·
  refine oU ?_
  obtain ⟨fl30, hf31, hR⟩ := whl_gen hR
  refine qU (fun g a w => ∃ (s32 : Int), whl fl30 g s32 = some o26 ∧ Sk a 30 [(0, v0), (1, v1), (2, v2), (8, .int .i64 s32)] ∧ Sep [] B w0 w [] ∧ xY s32) N ?_ ?_
  ·
   exact ⟨1, hR, F.sub (sc rfl (sc rfl (sc rfl (sc rfl sn)))), H, (show xY (1) by decide)⟩
  intro g39 a w ⟨s32, hR, F, H, i33⟩
  obtain ⟨ck36, rest37, hg41, hR, hn29⟩ := whl_round hR
  rw [hf31] at hR
  refine xC (xC (xH (xB F rfl rfl fun a F => xB F rfl rfl fun a F => oL underlying42 F rfl rfl A2 fun a i42 F => o_leq F rfl rfl rfl fun a F => xF (xG (vC F rfl (fun hb43 => ?_) (fun hb43 => ?_))))))
  ·
   replace hR := zD hb43 hR
   refine xO (xG (xC (oU (xC (xH (xB F rfl rfl fun a F => xB F rfl rfl fun a F => xB F rfl rfl fun a F => xB F rfl rfl (fun a F => ?_)))))))
   obtain ⟨z44, c45, hR⟩ := xI hR
   refine oC underlying42 sizeOf2 F rfl rfl rfl rfl A2 c45 (fun a v46 h47 F => ?_)
   obtain ⟨z48, c49, hR⟩ := xI hR
   refine oK F rfl call231 rfl H (spec_l03Sure_c z48 c49 _ aA (H.a A0) (H.a A1) (H.a h47)) fun a w H F => kE F rfl rfl fun a F => xF (xG (vC F rfl (fun hb50 => ?_) (fun hb50 => ?_)))
   ·
    replace hR := zD hb50 hR
    refine xC (xH (oR0 (R := xK) underlying42 sizeOf2 F rfl H fun a w v51 H F => xA F rfl rfl fun a F => xA F rfl rfl fun a F => xF (xG (xW (kB (oV (oV ?_)))))))
    replace hR := l_ret hR hn29
    refine kB (oV ?_)
    replace hR := j_ret hR hk27
    refine oV ?_
    have H := H.lw.rwo.rok
    refine kY F rfl (oO F rfl) (oO F rfl) ?_
    obtain rfl := Option.some.inj hR
    exact ⟨_, rfl, v51, rfl, H⟩
   replace hR := zE hb50 hR
   refine xO (zN (xG (xH (xB F rfl rfl (fun a F => ?_)))))
   obtain ⟨z53, c54, hR⟩ := xI hR
   refine o_add F rfl rfl rfl c54 fun a F => xA F rfl rfl fun a F => xF (xG ?_)
   replace hR := zH hR hn29
   exact ⟨rest37, (by omega), z53, hR, F.sub (sc rfl (sc rfl (sc rfl (sc rfl sn)))), H, (ck64 c54)⟩
  replace hR := zE hb43 hR
  refine qK (qQ (qQ ?_))
  replace hR := l_brk hR hn29
  refine zT (xG ?_)
  exact ⟨s32, (Option.some.inj hR).symm, F.sub (sc rfl (sc rfl (sc rfl sn))), H, i33⟩
 intro a w ⟨s34, ho28, F, H, i35⟩
 subst ho28
 have hR := xZ hk27
 refine xG (xC (xH (xB F rfl rfl fun a F => xB F rfl rfl fun a F => xB F rfl rfl (fun a F => ?_))))
 obtain ⟨z55, c56, hR⟩ := xI hR
 refine oG F rfl call115 rfl (spec_l00Own_c z55 c56 _ aA (H.a A2)) (fun a vv w ⟨v57, hv59, S⟩ F => ?_)
 subst vv
 have H := H.r1 S n0
 obtain ⟨w65, rfl⟩ : ∃ x, x = w := ⟨_, rfl⟩
 obtain ⟨X60, N61, g62, e63, H, th64⟩ := H.fz
 have h66 := g62.ld
 obtain ⟨z67, c68, hR⟩ := xI hR
 refine oG F rfl call232 rfl (spec_l03Search_c z67 c68 _ H.hN (H.u (e63 A0)) (H.u (e63 A1)) (H.u h66)) (fun a vv w ⟨v69, hv71, S⟩ F => ?_)
 subst vv
 have H := H.r1 S n1
 refine vE F rfl rfl rfl fun a F => vE F rfl rfl rfl fun a F => xA F rfl rfl fun a F => xA F rfl rfl fun a F => xF (xG (xW ?_))
 have H := (th64.2.1 H (Ns.all trivial))
 refine kY F rfl (oO F rfl) (oO F rfl) ?_
 obtain rfl := Option.some.inj hR
 exact ⟨_, rfl, v69, rfl, H⟩

def spec_l03Value (N : Nat) (x0 : Template) (x1 : Formula) : Option Rel :=
 kJ (σ := Int × (List (List Int))) (
  whl (σ := Int × (List (List Int))) (ρ := Rel) (fun (s : Int × (List (List Int))) =>
    match s with
    | (s134, s136) =>
    oJ (spec_l01Power N x0.size x1.free) fun z156 =>
    if (decide (s134 < z156)) then
     oJ (spec_l01Digits N x0.size x1.free s134) fun z165 =>
     oJ (spec_l03Witness N x0 x1 z165) fun z186 =>
     if z186.2 then
      oJ (ap s136 ([z165])) fun z194 =>
      oJ (ck (s134 + 1)) fun z198 =>
      some (.go (z198, z194))
     else
      oJ (ck (s134 + 1)) fun z200 =>
      some (.go (z200, s136))
    else
     some (.brk (s134, s136))) N (0, [])) fun (s139, s141) =>
 some ((Rel.mk x1.free s141))
theorem spec_l03Value_c {B : Nat → Prop} {N : Nat} {x0 : Template} {x1 : Formula} (r : Rel) (hR : spec_l03Value N x0 x1 = some r) {v0 : Value} {v1 : Value} (w0 : World) (hN : ∀ c, B c → c < w0.heap.size) (A0 : Bo B w0 (Pt 2 xJ) v0 x0) (A1 : Bo B w0 (Pt 3 xL) v1 x1) : Calls Tryz.prog 110 #[v0, v1] w0 (Gv (fun v w' => ∃ (v1' : Value), v = .agg #[.int .i64 r.arity, v1'] ∧ Sep [] B w0 w' [rl 1 (RSl 1 xK) 42 v1' r.tuples] ∧ xY r.arity)) := by
 unfold spec_l03Value at hR
 refine oD (L := [(0, v0), (1, v1)]) func110 rfl rfl rfl (sc rfl (sc rfl sn)) (fun a F => ?_)
 have H := Sep.start hN
 refine xC (xH (oA zeroValue84 F rfl rfl H fun a w b11 H F => xF (xG (xC (xH (xB F rfl rfl fun a F => oN F rfl rfl A1 fun a F => oF (s' := 1) fa95_0 F rfl rfl A1 xL.f0 fun a p12 h13 F => olI isAgg2 F rfl rfl H.sm h13 (fun a i14 F => ?_)))))))
 refine o_build underlying84 zeroValue84 (fun w => by simp [sizeOf2, sizeOf82]; rfl) F rfl rfl rfl rfl rfl (oc rfl on) rfl rfl fun a F => oA zeroValue84 F rfl rfl H fun a w b15 H F => oWA (vs := [.int .i64 x1.free, (.slice none 0 0)]) sizeOf84 F rfl rfl rfl H (oc rfl (oc rfl on)) rfl rfl fun w H => xF (xG (xC (xC (xH (xA F rfl rfl fun a F => xF (xG ?_))))))
 obtain ⟨o128, hR, hk129⟩ := xS hR
 refine oQ (fun a w => ∃ (s139 : Int) (s141 : List (List Int)) (v143 : Value), o128 = .nx (s139, s141) ∧ Sk a 53 [(4, .pointer (some ⟨b11, 0, none⟩)), (5, .pointer (some ⟨b15, 0, none⟩))] ∧ Sep [] B w0 w [rl 1 (RSl 1 xK) 42 v143 s141, bx b15 [.int .i64 x1.free, v143] 84, bx b11 [.int .i64 0, (.slice none 0 0)] 84] ∧ xY s139) ?_ ?_
 ·
  refine oU ?_
  obtain ⟨fl132, hf133, hR⟩ := whl_gen hR
  refine qU (fun g a w => ∃ (s134 : Int) (s136 : List (List Int)) (v138 : Value), whl fl132 g (s134, s136) = some o128 ∧ Sk a 53 [(0, v0), (1, v1), (4, .pointer (some ⟨b11, 0, none⟩)), (5, .pointer (some ⟨b15, 0, none⟩)), (6, .int .i64 s134)] ∧ Sep [] B w0 w [rl 1 (RSl 1 xK) 42 v138 s136, bx b15 [.int .i64 x1.free, v138] 84, bx b11 [.int .i64 0, (.slice none 0 0)] 84] ∧ xY s134) N ?_ ?_
  ·
   exact ⟨0, [], (.slice none 0 0), hR, F.sub (sc rfl (sc rfl (sc rfl (sc rfl (sc rfl sn))))), (H.nl 1 (RSl 1 xK) 42), (show xY (0) by decide)⟩
  intro g147 a w ⟨s134, s136, v138, hR, F, H, i135⟩
  obtain ⟨ck144, rest145, hg149, hR, hn131⟩ := whl_round hR
  rw [hf133] at hR
  refine xC (xC (xQ H (by kernel_rfl) (by kernel_rfl) (xN F rfl (fun w l => xP F rfl) fun a F => xN F rfl (fun w l => xP F rfl) fun a F => qN F rfl rfl A0 fun a F => qF (s' := 1) fa33_0 F rfl rfl A0 xJ.f0 fun a p150 h151 F => qlI isAgg2 F rfl rfl H.q h151 fun a i152 F => xN F rfl (fun w l => xP F rfl) fun a F => qN F rfl rfl A1 fun a F => qF (s' := 1) fa95_0 F rfl rfl A1 xL.f0 (fun a p153 h154 F => ?_))))
  refine qlI isAgg2 F rfl rfl H.q h154 (fun a i155 F => ?_)
  obtain ⟨z156, c157, hR⟩ := xI hR
  refine q_saysI F rfl call53 rfl (fun w w' h l => l.through h) _ (Below.refl _ _) (fun w l => spec_l01Power_c z156 c157 w aA i152 i155) fun a iz156 F => xN F rfl (fun w l => r_lss F rfl rfl) fun a F => kA fun w H => xG (vC F rfl (fun hb158 => ?_) (fun hb158 => ?_))
  ·
   replace hR := zD hb158 hR
   refine xO (xG (xC (oU (xC ?_))))
   obtain ⟨z165, c166, hR⟩ := xI hR
   refine xD H (by kernel_rfl) fun w H => zZ 0 rfl (by kernel_rfl) (by kernel_rfl) (by kernel_rfl) (qO F rfl (fun w l => xP F rfl) fun a F => b_q 1 (by kernel_rfl) rfl (by kernel_rfl) (by kernel_rfl) (by kernel_rfl) (by kernel_rfl) (vN F rfl rfl A0 fun a F => b_q 2 (by kernel_rfl) rfl (by kernel_rfl) (by kernel_rfl) (by kernel_rfl) (by kernel_rfl) (vF (s' := 1) fa33_0 F rfl rfl A0 xJ.f0 fun a p170 h171 F => b_q 3 (by kernel_rfl) rfl (by kernel_rfl) (by kernel_rfl) (by kernel_rfl) (by kernel_rfl) (vlI isAgg2 F rfl rfl H.v h171 fun a i172 F => zZ 4 rfl (by kernel_rfl) (by kernel_rfl) (by kernel_rfl) (qO F rfl (fun w l => xP F rfl) (fun a F => ?_))))))
   refine b_q 5 (by kernel_rfl) rfl (by kernel_rfl) (by kernel_rfl) (by kernel_rfl) (by kernel_rfl) (vN F rfl rfl A1 fun a F => b_q 6 (by kernel_rfl) rfl (by kernel_rfl) (by kernel_rfl) (by kernel_rfl) (by kernel_rfl) (vF (s' := 1) fa95_0 F rfl rfl A1 xL.f0 fun a p173 h174 F => b_q 7 (by kernel_rfl) rfl (by kernel_rfl) (by kernel_rfl) (by kernel_rfl) (by kernel_rfl) (vlI isAgg2 F rfl rfl H.v h174 fun a i175 F => zZ 8 rfl (by kernel_rfl) (by kernel_rfl) (by kernel_rfl) (qO F rfl (fun w l => xP F rfl) fun a F => xE H 9 rfl (by kernel_rfl) (oG F rfl call54 rfl (spec_l01Digits_c z165 c166 _ aA i172 i175 i135) (fun a vv w ⟨v176, hv178, S⟩ F => ?_))))))
   subst vv
   have H := H.r1 S n0
   refine xF (xG (⟨⟨_, H⟩, ?_⟩))
   refine zZ 10 rfl (by kernel_rfl) (by kernel_rfl) (by kernel_rfl) (qO F rfl (fun w l => vO F rfl) fun a F => b_end (by kernel_rfl) (xG (xC (xH (xB F rfl rfl fun a F => xB F rfl rfl fun a F => xB F rfl rfl (fun a F => ?_))))))
   obtain ⟨w184, rfl⟩ : ∃ x, x = w := ⟨_, rfl⟩
   obtain ⟨X179, N180, g181, e182, H, th183⟩ := H.fz
   have h185 := g181.ld
   obtain ⟨z186, c187, hR⟩ := xI hR
   refine oG F rfl call194 rfl (spec_l03Witness_c z186 c187 _ H.hN (H.u (e182 A0)) (H.u (e182 A1)) (H.u h185)) (fun a vv w ⟨v188, hv190, S⟩ F => ?_)
   subst vv
   have H := H.r1 S n1
   refine xB F rfl rfl fun a F => vE F rfl rfl rfl fun a F => vE F rfl rfl rfl fun a F => xA F rfl rfl fun a F => xA F rfl rfl fun a F => xF (xG (xC (xH (xB F rfl rfl fun a F => xF ?_))))
   refine xG (vC F rfl (fun hb191 => ?_) (fun hb191 => ?_))
   ·
    replace hR := zD hb191 hR
    refine xH (oM fa84_1 F rfl rfl rfl fun a F => oB isAgg82 F rfl rfl (H.b 2 rfl) rfl fun a F => xB F rfl rfl (fun a F => ?_))
    have H := (th183.1 (H.s [1, 2, 3] rfl rfl) (Ns.all ⟨n0, ⟨n0, ⟨n0, trivial⟩⟩⟩))
    have H := H.os
    refine oR1L (R := (RSl 1 xK)) (y := z165) underlying82 sizeOf42 zeroValue42 rfl rfl F rfl rfl H El.sl (fun a w v192 H F => ?_)
    obtain ⟨z194, c195, hR⟩ := xI hR
    refine oPL (sz := 1) (R := (RSl 1 xK)) (z := ((.slice none 0 0))) (bytes := 24) underlying82 (by kernel_rfl) rfl rfl F rfl rfl rfl (H.s [1, 0, 2, 3] rfl rfl) c195 fun a w v196 H F => oM fa84_1 F rfl rfl rfl fun a F => oW sizeOf82 F rfl rfl rfl (H.s [1, 0, 2] rfl rfl) ((H.s [1, 0, 2] rfl rfl).l 1 rfl).one rfl rfl fun w H => xF (zN (xG (xH (xB F rfl rfl (fun a F => ?_)))))
    obtain ⟨z198, c199, hR⟩ := xI hR
    refine o_add F rfl rfl rfl c199 fun a F => xA F rfl rfl fun a F => xF (xG ?_)
    replace hR := zH hR hn131
    exact ⟨rest145, (by omega), z198, z194, v196, hR, F.sub (sc rfl (sc rfl (sc rfl (sc rfl (sc rfl sn))))), (H.s [1, 0, 2] rfl rfl), (ck64 c199)⟩
   replace hR := zE hb191 hR
   refine xO (zN (xG (xH (xB F rfl rfl (fun a F => ?_)))))
   obtain ⟨z200, c201, hR⟩ := xI hR
   refine o_add F rfl rfl rfl c201 fun a F => xA F rfl rfl fun a F => xF (xG ?_)
   replace hR := zH hR hn131
   exact ⟨rest145, (by omega), z200, s136, v138, hR, F.sub (sc rfl (sc rfl (sc rfl (sc rfl (sc rfl sn))))), ((th183.1 (H.s [1, 2, 3] rfl rfl) (Ns.all ⟨n0, ⟨n0, ⟨n0, trivial⟩⟩⟩)).s [1, 2, 3] rfl rfl), (ck64 c201)⟩
  replace hR := zE hb158 hR
  refine qK (qQ (qQ ?_))
  replace hR := l_brk hR hn131
  refine zT (xG ?_)
  exact ⟨s134, s136, v138, (Option.some.inj hR).symm, F.sub (sc rfl (sc rfl sn)), H, i135⟩
 intro a w ⟨s139, s141, v143, ho130, F, H, i140⟩
 subst ho130
 have hR := xZ hk129
 refine xG (xC (xH (oBA isAgg84 sizeOf84 F rfl rfl (H.b 1 rfl) rfl rfl fun a F => oWA (vs := [.int .i64 x1.free, v143]) sizeOf84 F rfl rfl rfl (H.s [2, 0, 1] rfl rfl) (oc rfl (oc ((H.s [2, 0, 1] rfl rfl).l 1 rfl).one on)) rfl rfl fun w H => xF (xG (xW (xR F rfl (rv_cA (arr := #[.int .i64 x1.free, v143]) F isAgg84 sizeOf84 rfl (H.b 0 rfl)) ?_))))))
 obtain rfl := Option.some.inj hR
 exact ⟨_, rfl, v143, rfl, (H.s [1] rfl rfl), i14⟩

def spec_l01Same (x0 : Rel) (x1 : Rel) : Option Bool :=
 kJ (σ := Bool) (
  if (x0.arity != x1.arity) then  some (.nx true) else  some (.nx ((x0.tuples.length : Int) != (x1.tuples.length : Int)))) fun s31 =>
 if s31 then
  some false
 else
  kJ (σ := Unit) (
   qT (σ := Unit) (ρ := Bool) (fun (k87 : Nat) (x89 : (List Int)) (s : Unit) =>
     match s with
     | _ =>
     oJ (ix x1.tuples (k87 : Int)) fun z110 =>
     oJ (spec_l00Same x89 z110) fun z116 =>
     if (!z116) then
      some (.ret false)
     else
      some (.go ())) x0.tuples 0 ()) fun _ =>
  some true
theorem spec_l01Same_c {B : Nat → Prop} {x0 : Rel} {x1 : Rel} (r : Bool) (hR : spec_l01Same x0 x1 = some r) {v0 : Value} {v1 : Value} (w0 : World) (hN : ∀ c, B c → c < w0.heap.size) (A0 : Bo B w0 (Pt 2 qE) v0 x0) (A1 : Bo B w0 (Pt 2 qE) v1 x1) : Calls Tryz.prog 111 #[v0, v1] w0 (vR (.bool r) w0) := by
 unfold spec_l01Same at hR
 refine oD (L := [(0, v0), (1, v1)]) func111 rfl rfl rfl (sc rfl (sc rfl sn)) (fun a F => ?_)
 have H := Sep.start hN
 refine xC (xH (xA F rfl rfl fun a F => xF (xG (xC (xC ?_)))))
 obtain ⟨o28, hR, hk29⟩ := xS hR
 refine oQ (fun a w => ∃ (s31 : Bool), o28 = .nx s31 ∧ Sk a 53 [(0, v0), (1, v1), (27, .bool s31)] ∧ Sep [] B w0 w []) ?_ ?_
 ·
  refine xQ H (by kernel_rfl) (by kernel_rfl) (xN F rfl (fun w l => xP F rfl) fun a F => qN F rfl rfl A0 fun a F => qF (s' := 1) fa84_0 F rfl rfl A0 qE.f0 fun a p32 h33 F => qlI isAgg2 F rfl rfl H.q h33 fun a i34 F => xN F rfl (fun w l => xP F rfl) fun a F => qN F rfl rfl A1 fun a F => qF (s' := 1) fa84_0 F rfl rfl A1 qE.f0 fun a p35 h36 F => qlI isAgg2 F rfl rfl H.q h36 fun a i37 F => xN F rfl (fun w l => r_neq F rfl rfl) fun a F => xN F rfl (fun w l => xP F rfl) (fun a F => ?_))
  rcases vD (x0.arity != x1.arity) with hb38 | hb38
  ·
   replace hR := zD hb38 hR
   have F := F.eq (t := 15) rfl (congrArg Value.bool hb38)
   refine oE F rfl rfl fun a F => oE F rfl rfl fun a F => oE F rfl rfl fun a F => oE F rfl rfl fun a F => oE F rfl rfl fun a F => oE F rfl rfl fun a F => oE F rfl rfl fun a F => oE F rfl rfl fun a F => oE F rfl rfl fun a F => oE F rfl rfl fun a F => oE F rfl rfl (fun a F => ?_)
   refine xN F rfl (fun w l => kM F rfl rfl) fun a F => kA fun w H => xG ?_
   exact ⟨true, (Option.some.inj hR).symm, F.sub (sc rfl (sc rfl (sc rfl sn))), H⟩
  replace hR := zE hb38 hR
  have F := F.eq (t := 15) rfl (congrArg Value.bool hb38)
  refine xN F rfl (fun w l => xP F rfl) fun a F => qN F rfl rfl A0 fun a F => qF (s' := 1) fa84_1 F rfl rfl A0 qE.f1 fun a p39 h40 F => qlS isAgg82 F rfl rfl H.q h40 fun a v41 h42 F => qL underlying82 F rfl rfl h42 fun a i43 F => xN F rfl (fun w l => xP F rfl) fun a F => qN F rfl rfl A1 fun a F => qF (s' := 1) fa84_1 F rfl rfl A1 qE.f1 fun a p44 h45 F => qlS isAgg82 F rfl rfl H.q h45 fun a v46 h47 F => qL underlying82 F rfl rfl h47 fun a i48 F => xN F rfl (fun w l => r_neq F rfl rfl) (fun a F => ?_)
  refine xN F rfl (fun w l => r_pickf F rfl rfl) fun a F => kA fun w H => xG ?_
  exact ⟨((x0.tuples.length : Int) != (x1.tuples.length : Int)), (Option.some.inj hR).symm, F.sub (sc rfl (sc rfl (sc rfl sn))), H⟩
 intro a w ⟨s31, ho30, F, H⟩
 subst ho30
 have hR := xZ hk29
 refine xG (vC F rfl (fun hb49 => ?_) (fun hb49 => ?_))
 ·
  replace hR := zD hb49 hR
  refine xC (xH (xA F rfl rfl fun a F => xF (xG (xW (oV (xR F rfl (oO F rfl) ?_))))))
  obtain rfl := Option.some.inj hR
  exact ⟨rfl, H.bl⟩
 replace hR := zE hb49 hR
 refine xO (xG (xC (xC (xH (xA F rfl rfl fun a F => xF (xG ?_))))))
 obtain ⟨o81, hR, hk82⟩ := xS hR
 refine oQ (fun a w => o81 = .nx () ∧ Sk a 53 [] ∧ Sep [] B w0 w []) ?_ ?_
 ·
  refine oU ?_
  obtain ⟨fl85, hf86, hR⟩ := qP hR
  refine qU (fun g a w => ∃ (k87 : Nat) (rest88 : List (List Int)), (k87 ≤ x0.tuples.length ∧ x0.tuples.drop k87 = rest88) ∧ rest88.length = g ∧ qT fl85 rest88 k87 () = some o81 ∧ Sk a 53 [(5, .int .i64 (k87 : Int)), (0, v0), (1, v1)] ∧ Sep [] B w0 w []) x0.tuples.length ?_ ?_
  ·
   exact ⟨0, x0.tuples, ⟨Nat.zero_le _, rfl⟩, rfl, hR, F.sub (sc rfl (sc rfl (sc rfl sn))), H⟩
  intro g90 a w ⟨k87, rest88, hd91, hg92, hR, F, H⟩
  cases rest88 with
  | nil =>
   replace hR := qS hR
   have hkk87 := qR hd91.1 hd91.2
   have hlk87 := vW hkk87
   refine xC (xC (xH (xB F rfl rfl fun a F => xB F rfl rfl fun a F => oN F rfl rfl A0 fun a F => oF (s' := 1) fa84_1 F rfl rfl A0 qE.f1 fun a p119 h120 F => olS isAgg82 F rfl rfl H.sm h120 fun a v121 h122 F => oL underlying82 F rfl rfl h122 fun a i123 F => oR F rfl rfl rfl fun a F => xF ?_)))
   refine xG (vV F rfl hlk87 (qK (qQ (qQ (zT (xG ?_))))))
   exact ⟨(Option.some.inj hR).symm, F.sub sn, H⟩
  | cons x89 rest88 =>
   subst hg92
   replace hd91 := qD hd91.2
   have hxk87 := qG hd91.2.1
   obtain ⟨ck87, hR, hn84⟩ := qC hR
   rw [hf86] at hR
   have hlk87 := vA hd91.1
   refine xC (xC (xH (xB F rfl rfl fun a F => xB F rfl rfl fun a F => oN F rfl rfl A0 fun a F => oF (s' := 1) fa84_1 F rfl rfl A0 qE.f1 fun a p93 h94 F => olS isAgg82 F rfl rfl H.sm h94 fun a v95 h96 F => oL underlying82 F rfl rfl h96 fun a i97 F => oR F rfl rfl rfl fun a F => xF ?_)))
   refine xG (vZ F rfl hlk87 (xO (xG (xC ?_))))
   have ikk87 := k64 (Nat.le_of_lt hd91.1) i97
   have ink87 := zW hd91.1 i97
   refine oU (xC (xQ H (by kernel_rfl) (by kernel_rfl) (xN F rfl (fun w l => xP F rfl) fun a F => qN F rfl rfl A0 fun a F => qF (s' := 1) fa84_1 F rfl rfl A0 qE.f1 fun a p98 h99 F => qlS isAgg82 F rfl rfl H.q h99 fun a v100 h101 F => xN F rfl (fun w l => xP F rfl) fun a F => qI underlying82 sizeOf42 F rfl rfl rfl h101 hxk87 fun a p102 h103 F => qlS isAgg42 F rfl rfl H.q h103 fun a v104 h105 F => xN F rfl (fun w l => xP F rfl) (fun a F => ?_))))
   refine qN F rfl rfl A1 fun a F => qF (s' := 1) fa84_1 F rfl rfl A1 qE.f1 fun a p106 h107 F => qlS isAgg82 F rfl rfl H.q h107 fun a v108 h109 F => xN F rfl (fun w l => xP F rfl) (fun a F => ?_)
   obtain ⟨z110, c111, hR⟩ := xI hR
   refine qI underlying82 sizeOf42 F rfl rfl rfl h109 c111 fun a p112 h113 F => qlS isAgg42 F rfl rfl H.q h113 (fun a v114 h115 F => ?_)
   obtain ⟨z116, c117, hR⟩ := xI hR
   refine q_says F rfl call112 rfl (fun w w' h l => l.through h) (fun w l => spec_l00Same_c z116 c117 w aA ((H.go l).a h105) ((H.go l).a h115)) fun a F => xN F rfl (fun w l => r_not F rfl) fun a F => kA fun w H => xG (vC F rfl (fun hb118 => ?_) (fun hb118 => ?_))
   ·
    replace hR := zD hb118 hR
    refine xC (xH (xA F rfl rfl fun a F => xF (xG (xW (kB (oV (oV ?_)))))))
    replace hR := l_ret hR hn84
    refine kB (oV ?_)
    replace hR := j_ret hR hk82
    refine oV (xR F rfl (oO F rfl) ?_)
    obtain rfl := Option.some.inj hR
    exact ⟨rfl, H.bl⟩
   replace hR := zE hb118 hR
   refine xO (zN (xG (xH (xB F rfl rfl fun a F => vM F rfl rfl rfl ink87 fun a F => xA F rfl rfl fun a F => xF (xG ?_)))))
   replace hR := zH hR hn84
   exact ⟨_, Nat.lt_succ_self _, k87 + 1, rest88, ⟨hd91.1, hd91.2.2⟩, rfl, hR, F.sub (sc rfl (sc rfl (sc rfl sn))), H⟩
 intro a w ⟨ho83, F, H⟩
 subst ho83
 have hR := xZ hk82
 refine xG (xC (xH (xA F rfl rfl fun a F => xF (xG (xW (xR F rfl (oO F rfl) ?_))))))
 obtain rfl := Option.some.inj hR
 exact ⟨rfl, H.bl⟩

def spec_l09Wrong (N : Nat) (x0 : Template) (x1 : Template) (x2 : Gadgets) : Option (Int × Rel) :=
 kJ (σ := Unit) (
  qT (σ := Unit) (ρ := Int × Rel) (fun (k59 : Nat) (x61 : Formula) (s : Unit) =>
    match s with
    | _ =>
    oJ (spec_l03Value N x1 x61) fun z76 =>
    oJ (ix x0.rels (k59 : Int)) fun z87 =>
    oJ (spec_l01Same (Rel.mk z76.arity z76.tuples) z87) fun z91 =>
    if (!z91) then
     some (.ret ((k59 : Int), (Rel.mk z76.arity z76.tuples)))
    else
     some (.go ())) x2.formulas 0 ()) fun _ =>
 some ((-1), (Rel.mk 0 ([])))
theorem spec_l09Wrong_c {B : Nat → Prop} {N : Nat} {x0 : Template} {x1 : Template} {x2 : Gadgets} (r : Int × Rel) (hR : spec_l09Wrong N x0 x1 x2 = some r) {v0 : Value} {v1 : Value} {v2 : Value} (w0 : World) (hN : ∀ c, B c → c < w0.heap.size) (A0 : Bo B w0 (Pt 2 xJ) v0 x0) (A1 : Bo B w0 (Pt 2 xJ) v1 x1) (A2 : Bo B w0 (Pt 1 xV) v2 x2) : Calls Tryz.prog 52 #[v0, v1, v2] w0 (Gv (fun v w' => ∃ (v1' : Value), v = .tuple #[.int .i64 r.1, .agg #[.int .i64 r.2.arity, v1']] ∧ Sep [] B w0 w' [rl 1 (RSl 1 xK) 42 v1' r.2.tuples] ∧ xY r.1 ∧ xY r.2.arity)) := by
 unfold spec_l09Wrong at hR
 refine oD (L := [(0, v0), (1, v1), (2, v2)]) func52 rfl rfl rfl (sc rfl (sc rfl (sc rfl sn))) (fun a F => ?_)
 have H := Sep.start hN
 refine xC (xH (xA F rfl rfl fun a F => oA zeroValue84 F rfl rfl H fun a w b11 H F => xF (xG (xC (xC (xH (xA F rfl rfl fun a F => xF ?_)))))))
 refine xG ?_
 obtain ⟨o53, hR, hk54⟩ := xS hR
 refine oQ (fun a w => o53 = .nx () ∧ Sk a 38 [(7, .pointer (some ⟨b11, 0, none⟩))] ∧ Sep [] B w0 w [bx b11 [.int .i64 0, (.slice none 0 0)] 84]) ?_ ?_
 ·
  refine oU ?_
  obtain ⟨fl57, hf58, hR⟩ := qP hR
  refine qU (fun g a w => ∃ (k59 : Nat) (rest60 : List Formula), (k59 ≤ x2.formulas.length ∧ x2.formulas.drop k59 = rest60) ∧ rest60.length = g ∧ qT fl57 rest60 k59 () = some o53 ∧ Sk a 38 [(8, .int .i64 (k59 : Int)), (0, v0), (1, v1), (2, v2), (7, .pointer (some ⟨b11, 0, none⟩))] ∧ Sep [] B w0 w [bx b11 [.int .i64 0, (.slice none 0 0)] 84]) x2.formulas.length ?_ ?_
  ·
   exact ⟨0, x2.formulas, ⟨Nat.zero_le _, rfl⟩, rfl, hR, F.sub (sc rfl (sc rfl (sc rfl (sc rfl (sc rfl sn))))), H⟩
  intro g62 a w ⟨k59, rest60, hd63, hg64, hR, F, H⟩
  cases rest60 with
  | nil =>
   replace hR := qS hR
   have hkk59 := qR hd63.1 hd63.2
   have hlk59 := vW hkk59
   refine xC (xC (xH (xB F rfl rfl fun a F => xB F rfl rfl fun a F => oN F rfl rfl A2 fun a F => oF (s' := 1) fa37_0 F rfl rfl A2 xV.f0 fun a p101 h102 F => olS isAgg35 F rfl rfl H.sm h102 fun a v103 h104 F => oL underlying35 F rfl rfl h104 fun a i105 F => oR F rfl rfl rfl fun a F => xF ?_)))
   refine xG (vV F rfl hlk59 (qK (qQ (qQ (zT (xG ?_))))))
   exact ⟨(Option.some.inj hR).symm, F.sub (sc rfl sn), H⟩
  | cons x61 rest60 =>
   subst hg64
   replace hd63 := qD hd63.2
   have hxk59 := qG hd63.2.1
   obtain ⟨ck59, hR, hn56⟩ := qC hR
   rw [hf58] at hR
   have hlk59 := vA hd63.1
   refine xC (xC (xH (xB F rfl rfl fun a F => xB F rfl rfl fun a F => oN F rfl rfl A2 fun a F => oF (s' := 1) fa37_0 F rfl rfl A2 xV.f0 fun a p65 h66 F => olS isAgg35 F rfl rfl H.sm h66 fun a v67 h68 F => oL underlying35 F rfl rfl h68 fun a i69 F => oR F rfl rfl rfl fun a F => xF ?_)))
   refine xG (vZ F rfl hlk59 (xO (xG (xC ?_))))
   have ikk59 := k64 (Nat.le_of_lt hd63.1) i69
   have ink59 := zW hd63.1 i69
   refine oU (xC (xH (xB F rfl rfl fun a F => xB F rfl rfl fun a F => oN F rfl rfl A2 fun a F => oF (s' := 1) fa37_0 F rfl rfl A2 xV.f0 fun a p70 h71 F => olS isAgg35 F rfl rfl H.sm h71 fun a v72 h73 F => xB F rfl rfl fun a F => oI underlying35 sizeOf95 F rfl rfl rfl h73 hxk59 (fun a p74 h75 F => ?_))))
   obtain ⟨z76, c77, hR⟩ := xI hR
   refine oG F rfl call110 rfl (spec_l03Value_c z76 c77 _ aA (H.a A1) (H.a h75)) (fun a vv w ⟨v79, hv81, S, i78⟩ F => ?_)
   subst vv
   have H := H.r1 S n0
   refine oA zeroValue84 F rfl rfl H fun a w b82 H F => oWA (vs := [.int .i64 z76.arity, v79]) sizeOf84 F rfl rfl rfl H (oc rfl (oc (H.l 1 rfl).one on)) rfl rfl fun w H => xF (xG (xC (xH (xB F rfl rfl fun a F => oN F rfl rfl A0 fun a F => oF (s' := 1) fa33_1 F rfl rfl A0 xJ.f1 fun a p83 h84 F => olS isAgg31 F rfl rfl H.sm h84 fun a v85 h86 F => xB F rfl rfl (fun a F => ?_)))))
   obtain ⟨z87, c88, hR⟩ := xI hR
   refine oI underlying31 sizeOf84 F rfl rfl rfl h86 c88 (fun a p89 h90 F => ?_)
   obtain ⟨z91, c92, hR⟩ := xI hR
   refine oK F rfl call111 rfl H (spec_l01Same_c z91 c92 _ aA (qE.b (H.g 0 rfl).bk i78 (H.l 1 rfl)) (H.a h90)) fun a w H F => kE F rfl rfl fun a F => xF (xG (vC F rfl (fun hb93 => ?_) (fun hb93 => ?_)))
   ·
    replace hR := zD hb93 hR
    refine xC ?_
    obtain ⟨w99, rfl⟩ : ∃ x, x = w := ⟨_, rfl⟩
    obtain ⟨X94, N95, g96, e97, H, th98⟩ := H.fz
    have K100 := g96.bk
    refine xD H (by kernel_rfl) fun w H => zZ 0 rfl (by kernel_rfl) (by kernel_rfl) (by kernel_rfl) (qO F rfl (fun w l => xP F rfl) fun a F => b_q 1 (by kernel_rfl) rfl (by kernel_rfl) (by kernel_rfl) (by kernel_rfl) (by kernel_rfl) (vBA isAgg84 sizeOf84 F rfl rfl (K100.v H.sm) rfl rfl fun a F => zZ 2 rfl (by kernel_rfl) (by kernel_rfl) (by kernel_rfl) (qO F rfl (fun w l => vO F rfl) fun a F => xE H 3 rfl (by kernel_rfl) (oWA (vs := [.int .i64 z76.arity, v79]) sizeOf84 F rfl rfl rfl (H.s [1, 0] rfl rfl) (oc rfl (oc ((H.s [1, 0] rfl rfl).l 1 rfl).one on)) rfl rfl fun w H => xF (xG ?_)))))
    refine ⟨⟨_, H⟩, ?_⟩
    refine b_end (by kernel_rfl) (xG (xW (kB (oV (oV ?_)))))
    replace hR := l_ret hR hn56
    refine kB (oV ?_)
    replace hR := j_ret hR hk54
    refine oV ?_
    have H := (th98.1 H (Ns.all ⟨n0, ⟨n0, trivial⟩⟩))
    refine kY F rfl (oO F rfl) (rv_cA (arr := #[.int .i64 z76.arity, v79]) F isAgg84 sizeOf84 rfl (H.b 1 rfl)) ?_
    obtain rfl := Option.some.inj hR
    exact ⟨_, rfl, v79, rfl, (H.s [2] rfl rfl), ikk59, i78⟩
   replace hR := zE hb93 hR
   refine xO (zN (xG (xH (xB F rfl rfl fun a F => vM F rfl rfl rfl ink59 fun a F => xA F rfl rfl fun a F => xF (xG ?_)))))
   replace hR := zH hR hn56
   exact ⟨_, Nat.lt_succ_self _, k59 + 1, rest60, ⟨hd63.1, hd63.2.2⟩, rfl, hR, F.sub (sc rfl (sc rfl (sc rfl (sc rfl (sc rfl sn))))), (H.s [2] rfl rfl)⟩
 intro a w ⟨ho55, F, H⟩
 subst ho55
 have hR := xZ hk54
 refine xG (xC (xH (o_build underlying84 zeroValue84 (fun w => by simp [sizeOf2, sizeOf82]; rfl) F rfl rfl rfl rfl rfl on rfl rfl fun a F => xA F rfl rfl fun a F => oWA (vs := [.int .i64 0, (.slice none 0 0)]) sizeOf84 F rfl rfl rfl H (oc rfl (oc rfl on)) rfl rfl fun w H => xF (xG (xW (kY F rfl (oO F rfl) (rv_cA (arr := #[.int .i64 0, (.slice none 0 0)]) F isAgg84 sizeOf84 rfl (H.b 0 rfl)) ?_))))))
 obtain rfl := Option.some.inj hR
 exact ⟨_, rfl, (.slice none 0 0), rfl, ((H.nl 1 (RSl 1 xK) 42).s [0] rfl rfl), (show xY (-1) by decide), (show xY 0 by decide)⟩

def spec_l09Ok (N : Nat) (x0 : Template) (x1 : Template) (x2 : Gadgets) : Option Bool :=
 oJ (spec_l09Form x0 x1 x2) fun z11 =>
 if (!z11) then
  some false
 else
  oJ (spec_l09Wrong N x0 x1 x2) fun z14 =>
  some ((decide (z14.1 < 0)))
theorem spec_l09Ok_c {B : Nat → Prop} {N : Nat} {x0 : Template} {x1 : Template} {x2 : Gadgets} (r : Bool) (hR : spec_l09Ok N x0 x1 x2 = some r) {v0 : Value} {v1 : Value} {v2 : Value} (w0 : World) (hN : ∀ c, B c → c < w0.heap.size) (A0 : Bo B w0 (Pt 2 xJ) v0 x0) (A1 : Bo B w0 (Pt 2 xJ) v1 x1) (A2 : Bo B w0 (Pt 1 xV) v2 x2) : Calls Tryz.prog 44 #[v0, v1, v2] w0 (vR (.bool r) w0) := by
 unfold spec_l09Ok at hR
 refine oD (L := [(0, v0), (1, v1), (2, v2)]) func44 rfl rfl rfl (sc rfl (sc rfl (sc rfl sn))) (fun a F => ?_)
 have H := Sep.start hN
 refine xC (xH (xA F rfl rfl fun a F => xF (xG (xC (xC (xH (xB F rfl rfl fun a F => xB F rfl rfl fun a F => xB F rfl rfl (fun a F => ?_))))))))
 obtain ⟨z11, c12, hR⟩ := xI hR
 refine oK F rfl call51 rfl H (spec_l09Form_c z11 c12 _ aA (H.a A0) (H.a A1) (H.a A2)) fun a w H F => kE F rfl rfl fun a F => xF (xG (vC F rfl (fun hb13 => ?_) (fun hb13 => ?_)))
 ·
  replace hR := zD hb13 hR
  refine xC (xH (xA F rfl rfl fun a F => xF (xG (xW (oV (xR F rfl (oO F rfl) ?_))))))
  obtain rfl := Option.some.inj hR
  exact ⟨rfl, H.bl⟩
 replace hR := zE hb13 hR
 refine xO (xG (xC (xH (xB F rfl rfl fun a F => xB F rfl rfl fun a F => xB F rfl rfl (fun a F => ?_)))))
 obtain ⟨z14, c15, hR⟩ := xI hR
 refine oG F rfl call52 rfl (spec_l09Wrong_c z14 c15 _ aA (H.a A0) (H.a A1) (H.a A2)) (fun a vv w ⟨v18, hv20, S, i16, i17⟩ F => ?_)
 subst vv
 have H := H.r1 S n0
 refine xB F rfl rfl fun a F => vE F rfl rfl rfl fun a F => vE F rfl rfl rfl fun a F => oA zeroValue84 F rfl rfl H fun a w b21 H F => xA F rfl rfl fun a F => oWA (vs := [.int .i64 z14.2.arity, v18]) sizeOf84 F rfl rfl rfl H (oc rfl (oc (H.l 1 rfl).one on)) rfl rfl fun w H => xF (xG (xC (xH (xB F rfl rfl (fun a F => ?_)))))
 refine oR F rfl rfl rfl fun a F => xA F rfl rfl fun a F => xF (xG (xW (xR F rfl (oO F rfl) ?_)))
 obtain rfl := Option.some.inj hR
 exact ⟨rfl, H.bl⟩

def spec_ValidGadgets (N : Nat) (x0 : Template) (x1 : Template) (x2 : Gadgets) : Option Bool :=
 oJ (spec_l09Ok N (Template.mk x0.size x0.rels) (Template.mk x1.size x1.rels) (Gadgets.mk x2.formulas)) fun z22 =>
 some z22
end Go.Proofs.YtmgdjaiaekhkgaaGreat
