/-
  Functions of the program as plain functions, and that they compute them. Printed by sg.py.
-/
import Derived.Test.YtmgdjaiaekhkgaaGreatS1
namespace Go.Proofs.YtmgdjaiaekhkgaaGreat
open Go.Proofs.Tryz
set_option maxHeartbeats 1000000
set_option linter.unusedVariables false
set_option linter.unusedSimpArgs false
set_option maxRecDepth 100000
open Go.RowKit
def impl_within (x0 : Int) (x1 : Int) (x2 : Int) : Option Bool :=
 kJ (σ := Bool) (
  if (decide (x1 ≤ x0)) then  some (.nx (decide (x0 ≤ x2))) else  some (.nx false)) fun s15 =>
 some s15
theorem impl_within_c {B : Nat → Prop} {x0 : Int} {x1 : Int} {x2 : Int} (r : Bool) (hR : impl_within x0 x1 x2 = some r)  (w0 : World) (hN : ∀ c, B c → c < w0.heap.size) (hx0 : xY x0) (hx1 : xY x1) (hx2 : xY x2) : Calls Tryz.prog 150 #[.int .i64 x0, .int .i64 x1, .int .i64 x2] w0 (vR (.bool r) w0) := by
 unfold impl_within at hR
 refine oD (L := [(0, .int .i64 x0), (1, .int .i64 x1), (2, .int .i64 x2)]) func150 rfl rfl rfl (sc rfl (sc rfl (sc rfl sn))) (fun a F => ?_)
 have H := Sep.start hN
 refine xC (xH (xA F rfl rfl fun a F => xF (xG (xC ?_))))
 obtain ⟨o12, hR, hk13⟩ := xS hR
 refine oQ (fun a w => ∃ (s15 : Bool), o12 = .nx s15 ∧ Sk a 15 [(6, .bool s15)] ∧ Sep [] B w0 w []) ?_ ?_
 ·
  refine xH (xB F rfl rfl fun a F => xB F rfl rfl fun a F => o_geq F rfl rfl rfl fun a F => xB F rfl rfl (fun a F => ?_))
  rcases vD (decide (x1 ≤ x0)) with hb16 | hb16
  ·
   replace hR := zD hb16 hR
   have F := F.eq (t := 10) rfl (congrArg Value.bool hb16)
   refine xB F rfl rfl fun a F => xB F rfl rfl fun a F => o_leq F rfl rfl rfl fun a F => vH F rfl rfl rfl fun a F => xA F rfl rfl fun a F => xF (xG ?_)
   exact ⟨(decide (x0 ≤ x2)), (Option.some.inj hR).symm, F.sub (sc rfl sn), H⟩
  replace hR := zE hb16 hR
  have F := F.eq (t := 10) rfl (congrArg Value.bool hb16)
  refine oH F rfl rfl fun a F => oH F rfl rfl fun a F => oH F rfl rfl fun a F => qZ F rfl rfl rfl fun a F => xA F rfl rfl fun a F => xF (xG ?_)
  exact ⟨false, (Option.some.inj hR).symm, F.sub (sc rfl sn), H⟩
 intro a w ⟨s15, ho14, F, H⟩
 subst ho14
 have hR := xZ hk13
 refine xG (xW (xR F rfl (oO F rfl) ?_))
 obtain rfl := Option.some.inj hR
 exact ⟨rfl, H.bl⟩

def impl_isSize (x0 : Int) : Option Bool :=
 oJ (impl_within x0 1 4) fun z11 =>
 some z11
theorem impl_isSize_c {B : Nat → Prop} {x0 : Int} (r : Bool) (hR : impl_isSize x0 = some r)  (w0 : World) (hN : ∀ c, B c → c < w0.heap.size) (hx0 : xY x0) : Calls Tryz.prog 174 #[.int .i64 x0] w0 (vR (.bool r) w0) := by
 unfold impl_isSize at hR
 refine oD (L := [(0, .int .i64 x0)]) func174 rfl rfl rfl (sc rfl sn) (fun a F => ?_)
 have H := Sep.start hN
 refine xC (xH (xA F rfl rfl fun a F => xF (xG (xC (xH (xB F rfl rfl (fun a F => ?_)))))))
 obtain ⟨z11, c12, hR⟩ := xI hR
 refine oK F rfl call150 rfl H (impl_within_c z11 c12 _ aA hx0 (show xY (1) by decide) (show xY (4) by decide)) fun a w H F => xA F rfl rfl fun a F => xF (xG (xW (xR F rfl (oO F rfl) ?_)))
 obtain rfl := Option.some.inj hR
 exact ⟨rfl, H.bl⟩

def impl_isArity (x0 : Int) : Option Bool :=
 oJ (impl_within x0 1 4) fun z11 =>
 some z11
theorem impl_isArity_c {B : Nat → Prop} {x0 : Int} (r : Bool) (hR : impl_isArity x0 = some r)  (w0 : World) (hN : ∀ c, B c → c < w0.heap.size) (hx0 : xY x0) : Calls Tryz.prog 225 #[.int .i64 x0] w0 (vR (.bool r) w0) := by
 unfold impl_isArity at hR
 refine oD (L := [(0, .int .i64 x0)]) func225 rfl rfl rfl (sc rfl sn) (fun a F => ?_)
 have H := Sep.start hN
 refine xC (xH (xA F rfl rfl fun a F => xF (xG (xC (xH (xB F rfl rfl (fun a F => ?_)))))))
 obtain ⟨z11, c12, hR⟩ := xI hR
 refine oK F rfl call150 rfl H (impl_within_c z11 c12 _ aA hx0 (show xY (1) by decide) (show xY (4) by decide)) fun a w H F => xA F rfl rfl fun a F => xF (xG (xW (xR F rfl (oO F rfl) ?_)))
 obtain rfl := Option.some.inj hR
 exact ⟨rfl, H.bl⟩

def impl_isValue (x0 : Int) (x1 : Int) : Option Bool :=
 oJ (ck (x0 - 1)) fun z11 =>
 oJ (impl_within x1 0 z11) fun z13 =>
 some z13
theorem impl_isValue_c {B : Nat → Prop} {x0 : Int} {x1 : Int} (r : Bool) (hR : impl_isValue x0 x1 = some r)  (w0 : World) (hN : ∀ c, B c → c < w0.heap.size) (hx0 : xY x0) (hx1 : xY x1) : Calls Tryz.prog 137 #[.int .i64 x0, .int .i64 x1] w0 (vR (.bool r) w0) := by
 unfold impl_isValue at hR
 refine oD (L := [(0, .int .i64 x0), (1, .int .i64 x1)]) func137 rfl rfl rfl (sc rfl (sc rfl sn)) (fun a F => ?_)
 have H := Sep.start hN
 refine xC (xH (xA F rfl rfl fun a F => xF (xG (xC (xH (xB F rfl rfl fun a F => xB F rfl rfl (fun a F => ?_)))))))
 obtain ⟨z11, c12, hR⟩ := xI hR
 refine o_sub F rfl rfl rfl c12 (fun a F => ?_)
 obtain ⟨z13, c14, hR⟩ := xI hR
 refine oK F rfl call150 rfl H (impl_within_c z13 c14 _ aA hx1 (show xY (0) by decide) (ck64 c12)) fun a w H F => xA F rfl rfl fun a F => xF (xG (xW (xR F rfl (oO F rfl) ?_)))
 obtain rfl := Option.some.inj hR
 exact ⟨rfl, H.bl⟩

def impl_areValues_1 (x0 : Int) (y0 : Int) : Option Bool :=
 oJ (impl_isValue y0 x0) fun z12 =>
 some ((!z12))
theorem impl_areValues_1_c {B : Nat → Prop} {x0 : Int} {y0 : Int} (r : Bool) (hR : impl_areValues_1 x0 y0 = some r) {v1 : Value} (w0 : World) (hN : ∀ c, B c → c < w0.heap.size) (hx0 : xY x0) (A1 : Bo B w0 (Pt 1 xK) v1 y0) : Calls Tryz.prog 136 #[.int .i64 x0, v1] w0 (vR (.bool r) w0) := by
 unfold impl_areValues_1 at hR
 refine oD (L := [(0, .int .i64 x0), (1, v1)]) func136 rfl rfl rfl (sc rfl (sc rfl sn)) (fun a F => ?_)
 have H := Sep.start hN
 refine xC (xH (xA F rfl rfl fun a F => xF (xG (xC (xH (olI isAgg2 F rfl rfl H.sm A1 fun a i11 F => xB F rfl rfl (fun a F => ?_)))))))
 obtain ⟨z12, c13, hR⟩ := xI hR
 refine oK F rfl call137 rfl H (impl_isValue_c z12 c13 _ aA i11 hx0) fun a w H F => kE F rfl rfl fun a F => xA F rfl rfl fun a F => xF (xG (xW (xR F rfl (oO F rfl) ?_)))
 obtain rfl := Option.some.inj hR
 exact ⟨rfl, H.bl⟩

def zB (x0 : List Int) (x1 : Int → Option Bool) : Option Int :=
 kJ (σ := Unit) (
  qT (σ := Unit) (ρ := Int) (fun (k24 : Nat) (x26 : Int) (s : Unit) =>
    match s with
    | _ =>
    oJ (x1 x26) fun z33 =>
    if z33 then
     some (.ret ((k24 : Int)))
    else
     some (.go ())) x0 0 ()) fun _ =>
 some ((-1))
theorem slices_IndexFunc_s_int64_int64_c {B : Nat → Prop} {x0 : List Int} {x1 : Int → Option Bool} (r : Int) (hR : zB x0 x1 = some r) {v0 : Value} {g1 : FuncId} {lb1 : List Value} (w0 : World) (hN : ∀ c, B c → c < w0.heap.size) (A0 : Bo B w0 (Sl 1 xK) v0 x0) (hg1 : ∀ args w, (callFunc g1 args).run Tryz.prog w = .ok (.enter g1 args) w) (hp1 : ∀ (a0 : Int) (r : Bool), x1 a0 = some r → ∀ W, Below w0.heap.size w0 W → xY a0 → Calls Tryz.prog g1 ([.int .i64 a0] ++ lb1 : List Value).toArray W (vR (.bool r) W)) : Calls Tryz.prog 160 #[v0, .func (.func g1) #[] lb1.toArray] w0 (SaysI r w0) := by
 unfold zB at hR
 refine oD (L := [(0, v0), (1, .func (.func g1) #[] lb1.toArray)]) func160 rfl rfl rfl (sc rfl (sc rfl sn)) (fun a F => ?_)
 have H := Sep.start hN
 refine xC (xH (xA F rfl rfl fun a F => xF (xG (xC (xC (xH (xB F rfl rfl fun a F => oL underlying42 F rfl rfl A0 fun a i11 F => xB F rfl rfl (fun a F => ?_))))))))
 refine xF (xG ?_)
 obtain ⟨o18, hR, hk19⟩ := xS hR
 refine oQ (fun a w => o18 = .nx () ∧ Sk a 19 [] ∧ Sep [] B w0 w []) ?_ ?_
 ·
  refine oU ?_
  obtain ⟨fl22, hf23, hR⟩ := qP hR
  refine qU (fun g a w => ∃ (k24 : Nat) (rest25 : List Int), (k24 ≤ x0.length ∧ x0.drop k24 = rest25) ∧ rest25.length = g ∧ qT fl22 rest25 k24 () = some o18 ∧ Sk a 19 [(8, .int .i64 (k24 : Int)), (0, v0), (1, .func (.func g1) #[] lb1.toArray), (7, .int .i64 (x0.length : Int))] ∧ Sep [] B w0 w []) x0.length ?_ ?_
  ·
   exact ⟨0, x0, ⟨Nat.zero_le _, rfl⟩, rfl, hR, F.sub (sc rfl (sc rfl (sc rfl (sc rfl sn)))), H⟩
  intro g27 a w ⟨k24, rest25, hd28, hg29, hR, F, H⟩
  cases rest25 with
  | nil =>
   replace hR := qS hR
   have hkk24 := qR hd28.1 hd28.2
   have hlk24 := vW hkk24
   refine xC (xH (oR F rfl rfl rfl fun a F => xF (xG (xC (vV F rfl hlk24 (qK (qQ (qQ (zT ?_)))))))))
   refine xG ?_
   exact ⟨(Option.some.inj hR).symm, F.sub sn, H⟩
  | cons x26 rest25 =>
   subst hg29
   replace hd28 := qD hd28.2
   have hxk24 := qG hd28.2.1
   obtain ⟨ck24, hR, hn21⟩ := qC hR
   rw [hf23] at hR
   have hlk24 := vA hd28.1
   refine xC (xH (oR F rfl rfl rfl fun a F => xF (xG (xC (vZ F rfl hlk24 (xO (xG (xC ?_))))))))
   have ikk24 := k64 (Nat.le_of_lt hd28.1) i11
   have ink24 := zW hd28.1 i11
   refine oU (xC (xH (xB F rfl rfl fun a F => xA F rfl rfl fun a F => xF (xG (xC (xH (xB F rfl rfl fun a F => xB F rfl rfl (fun a F => ?_))))))))
   refine xB F rfl rfl fun a F => oI underlying42 sizeOf2 F rfl rfl rfl A0 hxk24 fun a p30 h31 F => olI isAgg2 F rfl rfl H.sm h31 (fun a i32 F => ?_)
   obtain ⟨z33, c34, hR⟩ := xI hR
   refine oKV F rfl rfl hg1 rfl H (hp1 _ z33 c34 _ H.bl i32) fun a w H F => xF (xG (vC F rfl (fun hb35 => ?_) (fun hb35 => ?_)))
   ·
    replace hR := zD hb35 hR
    refine xC (xH (xB F rfl rfl fun a F => xA F rfl rfl fun a F => xF (xG (xW (kB (oV (oV ?_)))))))
    replace hR := l_ret hR hn21
    refine kB (oV ?_)
    replace hR := j_ret hR hk19
    refine oV (xR F rfl (oO F rfl) ?_)
    obtain rfl := Option.some.inj hR
    exact ⟨⟨rfl, H.bl⟩, ikk24⟩
   replace hR := zE hb35 hR
   refine xO (zN (xG (xH (vM F rfl rfl rfl ink24 fun a F => xB F rfl rfl fun a F => xF (xG ?_)))))
   replace hR := zH hR hn21
   exact ⟨_, Nat.lt_succ_self _, k24 + 1, rest25, ⟨hd28.1, hd28.2.2⟩, rfl, hR, F.sub (sc rfl (sc rfl (sc rfl (sc rfl sn)))), H⟩
 intro a w ⟨ho20, F, H⟩
 subst ho20
 have hR := xZ hk19
 refine xG (xC (xH (xA F rfl rfl fun a F => xF (xG (xW (xR F rfl (oO F rfl) ?_))))))
 obtain rfl := Option.some.inj hR
 exact ⟨⟨rfl, H.bl⟩, (show xY (-1) by decide)⟩

def vU (x0 : List Int) (x1 : Int → Option Bool) : Option Bool :=
 oJ (zB x0 x1) fun z11 =>
 some ((decide (0 ≤ z11)))
theorem slices_ContainsFunc_s_int64_int64_c {B : Nat → Prop} {x0 : List Int} {x1 : Int → Option Bool} (r : Bool) (hR : vU x0 x1 = some r) {v0 : Value} {g1 : FuncId} {lb1 : List Value} (w0 : World) (hN : ∀ c, B c → c < w0.heap.size) (A0 : Bo B w0 (Sl 1 xK) v0 x0) (hg1 : ∀ args w, (callFunc g1 args).run Tryz.prog w = .ok (.enter g1 args) w) (hp1 : ∀ (a0 : Int) (r : Bool), x1 a0 = some r → ∀ W, Below w0.heap.size w0 W → xY a0 → Calls Tryz.prog g1 ([.int .i64 a0] ++ lb1 : List Value).toArray W (vR (.bool r) W)) : Calls Tryz.prog 135 #[v0, .func (.func g1) #[] lb1.toArray] w0 (vR (.bool r) w0) := by
 unfold vU at hR
 refine oD (L := [(0, v0), (1, .func (.func g1) #[] lb1.toArray)]) func135 rfl rfl rfl (sc rfl (sc rfl sn)) (fun a F => ?_)
 have H := Sep.start hN
 refine xC (xH (xA F rfl rfl fun a F => xF (xG (xC (xH (xB F rfl rfl fun a F => xB F rfl rfl (fun a F => ?_)))))))
 obtain ⟨z11, c12, hR⟩ := xI hR
 refine oKI F rfl call160 rfl H (slices_IndexFunc_s_int64_int64_c z11 c12 _ aA (H.a A0) hg1 (fun a0 r h W l1 => hp1 a0 r h W (H.bl.trans (l1.mono H.fr.size)))) fun a w H iz11 F => o_geq F rfl rfl rfl fun a F => xA F rfl rfl fun a F => xF (xG (xW (xR F rfl (oO F rfl) ?_)))
 obtain rfl := Option.some.inj hR
 exact ⟨rfl, H.bl⟩

def zS (x0 : Int) (x1 : List Int) (x2 : Int) : Option Bool :=
 kJ (σ := Bool) (
  if ((x1.length : Int) == x2) then  oJ (vU x1 (fun a0 => impl_areValues_1 a0 x0)) fun z22 =>
   some (.nx (!z22)) else  some (.nx false)) fun s19 =>
 some s19
theorem impl_areValues_c {B : Nat → Prop} {x0 : Int} {x1 : List Int} {x2 : Int} (r : Bool) (hR : zS x0 x1 x2 = some r) {v1 : Value} (w0 : World) (hN : ∀ c, B c → c < w0.heap.size) (hx0 : xY x0) (A1 : Bo B w0 (Sl 1 xK) v1 x1) (hx2 : xY x2) : Calls Tryz.prog 75 #[.int .i64 x0, v1, .int .i64 x2] w0 (vR (.bool r) w0) := by
 unfold zS at hR
 refine oD (L := [(0, .int .i64 x0), (1, v1), (2, .int .i64 x2)]) func75 rfl rfl rfl (sc rfl (sc rfl (sc rfl sn))) (fun a F => ?_)
 have H := Sep.start hN
 refine xC (xH (oX F rfl rfl rfl H fun a w b11 H F => xA F rfl rfl fun a F => xF (xG (xC ?_))))
 obtain ⟨o16, hR, hk17⟩ := xS hR
 refine oQ (fun a w => ∃ (s19 : Bool), o16 = .nx s19 ∧ Sk a 17 [(6, .bool s19)] ∧ Sep [] B w0 w []) ?_ ?_
 ·
  refine xH (xB F rfl rfl fun a F => oL underlying42 F rfl rfl A1 fun a i20 F => xB F rfl rfl fun a F => o_eql F rfl rfl rfl fun a F => xB F rfl rfl (fun a F => ?_))
  rcases vD ((x1.length : Int) == x2) with hb21 | hb21
  ·
   replace hR := zD hb21 hR
   have F := F.eq (t := 11) rfl (congrArg Value.bool hb21)
   refine xB F rfl rfl fun a F => o_func F rfl rfl rfl (fun a F => ?_)
   obtain ⟨z22, c23, hR⟩ := xI hR
   refine oK F rfl call135 rfl H (slices_ContainsFunc_s_int64_int64_c z22 c23 _ aA (H.a A1) call136 (fun a0 r h W l1 f0 => impl_areValues_1_c r h W aA f0 ((c1I (H.g 0 rfl).bk hx0).w l1))) fun a w H F => kE F rfl rfl fun a F => vH F rfl rfl rfl fun a F => xA F rfl rfl fun a F => xF (xG ?_)
   exact ⟨(!z22), (Option.some.inj hR).symm, F.sub (sc rfl sn), (H.s [] rfl rfl)⟩
  replace hR := zE hb21 hR
  have F := F.eq (t := 11) rfl (congrArg Value.bool hb21)
  refine oH F rfl rfl fun a F => oH F rfl rfl fun a F => oH F rfl rfl fun a F => oH F rfl rfl fun a F => qZ F rfl rfl rfl fun a F => xA F rfl rfl fun a F => xF (xG ?_)
  exact ⟨false, (Option.some.inj hR).symm, F.sub (sc rfl sn), (H.s [] rfl rfl)⟩
 intro a w ⟨s19, ho18, F, H⟩
 subst ho18
 have hR := xZ hk17
 refine xG (xW (xR F rfl (oO F rfl) ?_))
 obtain rfl := Option.some.inj hR
 exact ⟨rfl, H.bl⟩

def cmp_isNaN_int64 (x0 : Int) : Option Bool :=
 some ((x0 != x0))
theorem cmp_isNaN_int64_c {B : Nat → Prop} {x0 : Int} (r : Bool) (hR : cmp_isNaN_int64 x0 = some r)  (w0 : World) (hN : ∀ c, B c → c < w0.heap.size) (hx0 : xY x0) : Calls Tryz.prog 252 #[.int .i64 x0] w0 (vR (.bool r) w0) := by
 unfold cmp_isNaN_int64 at hR
 refine oD (L := [(0, .int .i64 x0)]) func252 rfl rfl rfl (sc rfl sn) (fun a F => ?_)
 have H := Sep.start hN
 refine xC (xH (xA F rfl rfl fun a F => xF (xG (xC (xH (xB F rfl rfl fun a F => xB F rfl rfl fun a F => o_neq F rfl rfl rfl fun a F => xA F rfl rfl (fun a F => ?_)))))))
 refine xF (xG (xW (xR F rfl (oO F rfl) ?_)))
 obtain rfl := Option.some.inj hR
 exact ⟨rfl, H.bl⟩

def cmp_Compare_int64 (x0 : Int) (x1 : Int) : Option Int :=
 oJ (cmp_isNaN_int64 x0) fun z11 =>
 oJ (cmp_isNaN_int64 x1) fun z13 =>
 if z11 then
  if z13 then
   some 0
  else
   some ((-1))
 else
  if z13 then
   some 1
  else
   if (decide (x0 < x1)) then
    some ((-1))
   else
    if (decide (x1 < x0)) then
     some 1
    else
     some 0
theorem cmp_Compare_int64_c {B : Nat → Prop} {x0 : Int} {x1 : Int} (r : Int) (hR : cmp_Compare_int64 x0 x1 = some r)  (w0 : World) (hN : ∀ c, B c → c < w0.heap.size) (hx0 : xY x0) (hx1 : xY x1) : Calls Tryz.prog 227 #[.int .i64 x0, .int .i64 x1] w0 (SaysI r w0) := by
 unfold cmp_Compare_int64 at hR
 refine oD (L := [(0, .int .i64 x0), (1, .int .i64 x1)]) func227 rfl rfl rfl (sc rfl (sc rfl sn)) (fun a F => ?_)
 have H := Sep.start hN
 refine xC (xH (xA F rfl rfl fun a F => xF (xG (xC (xH (xB F rfl rfl (fun a F => ?_)))))))
 obtain ⟨z11, c12, hR⟩ := xI hR
 refine oK F rfl call252 rfl H (cmp_isNaN_int64_c z11 c12 _ aA hx0) fun a w H F => xA F rfl rfl fun a F => xF (xG (xC (xH (xB F rfl rfl (fun a F => ?_)))))
 obtain ⟨z13, c14, hR⟩ := xI hR
 refine oK F rfl call252 rfl H (cmp_isNaN_int64_c z13 c14 _ aA hx1) fun a w H F => xA F rfl rfl fun a F => xF (xG (xC (xC (xH (xB F rfl rfl fun a F => xF (xG (vC F rfl (fun hb15 => ?_) (fun hb15 => ?_))))))))
 ·
  replace hR := zD hb15 hR
  refine xC (xC (xH (xB F rfl rfl fun a F => xF (xG (vC F rfl (fun hb16 => ?_) (fun hb16 => ?_))))))
  ·
   replace hR := zD hb16 hR
   refine xC (xH (xA F rfl rfl fun a F => xF (xG (xW (oV (oV (xR F rfl (oO F rfl) ?_)))))))
   obtain rfl := Option.some.inj hR
   exact ⟨⟨rfl, H.bl⟩, (show xY (0) by decide)⟩
  replace hR := zE hb16 hR
  refine xO (xG (xC (xH (xA F rfl rfl fun a F => xF (xG (xW (oV (xR F rfl (oO F rfl) ?_))))))))
  obtain rfl := Option.some.inj hR
  exact ⟨⟨rfl, H.bl⟩, (show xY (-1) by decide)⟩
 replace hR := zE hb15 hR
 refine xO (xG (xC (xC (xH (xB F rfl rfl fun a F => xF (xG (vC F rfl (fun hb17 => ?_) (fun hb17 => ?_))))))))
 ·
  replace hR := zD hb17 hR
  refine xC (xH (xA F rfl rfl fun a F => xF (xG (xW (oV (xR F rfl (oO F rfl) ?_))))))
  obtain rfl := Option.some.inj hR
  exact ⟨⟨rfl, H.bl⟩, (show xY (1) by decide)⟩
 replace hR := zE hb17 hR
 refine xO (xG (xC (xC (xH (xB F rfl rfl fun a F => xB F rfl rfl fun a F => oR F rfl rfl rfl fun a F => xF (xG (vC F rfl (fun hb18 => ?_) (fun hb18 => ?_))))))))
 ·
  replace hR := zD hb18 hR
  refine xC (xH (xA F rfl rfl fun a F => xF (xG (xW (oV (xR F rfl (oO F rfl) ?_))))))
  obtain rfl := Option.some.inj hR
  exact ⟨⟨rfl, H.bl⟩, (show xY (-1) by decide)⟩
 replace hR := zE hb18 hR
 refine xO (xG (xC (xC (xH (xB F rfl rfl fun a F => xB F rfl rfl fun a F => o_gtr F rfl rfl rfl fun a F => xF (xG (vC F rfl (fun hb19 => ?_) (fun hb19 => ?_))))))))
 ·
  replace hR := zD hb19 hR
  refine xC (xH (xA F rfl rfl fun a F => xF (xG (xW (oV (xR F rfl (oO F rfl) ?_))))))
  obtain rfl := Option.some.inj hR
  exact ⟨⟨rfl, H.bl⟩, (show xY (1) by decide)⟩
 replace hR := zE hb19 hR
 refine xO (xG (xC (xH (xA F rfl rfl fun a F => xF (xG (xW (xR F rfl (oO F rfl) ?_)))))))
 obtain rfl := Option.some.inj hR
 exact ⟨⟨rfl, H.bl⟩, (show xY (0) by decide)⟩

def vJ (x0 : List Int) (x1 : List Int) : Option Int :=
 kJ (σ := Unit) (
  qT (σ := Unit) (ρ := Int) (fun (k31 : Nat) (x33 : Int) (s : Unit) =>
    match s with
    | _ =>
    if (decide ((x1.length : Int) ≤ (k31 : Int))) then
     some (.ret 1)
    else
     oJ (ix x1 (k31 : Int)) fun z42 =>
     oJ (cmp_Compare_int64 x33 z42) fun z47 =>
     if (z47 != 0) then
      some (.ret z47)
     else
      some (.go ())) x0 0 ()) fun _ =>
 if (decide ((x0.length : Int) < (x1.length : Int))) then
  some ((-1))
 else
  some 0
theorem slices_Compare_s_int64_int64_c {B : Nat → Prop} {x0 : List Int} {x1 : List Int} (r : Int) (hR : vJ x0 x1 = some r) {v0 : Value} {v1 : Value} (w0 : World) (hN : ∀ c, B c → c < w0.heap.size) (A0 : Bo B w0 (Sl 1 xK) v0 x0) (A1 : Bo B w0 (Sl 1 xK) v1 x1) : Calls Tryz.prog 187 #[v0, v1] w0 (SaysI r w0) := by
 unfold vJ at hR
 refine oD (L := [(0, v0), (1, v1)]) func187 rfl rfl rfl (sc rfl (sc rfl sn)) (fun a F => ?_)
 have H := Sep.start hN
 refine xC (xH (xA F rfl rfl fun a F => xF (xG (xC (xC (xH (xB F rfl rfl fun a F => oL underlying42 F rfl rfl A0 fun a i11 F => xB F rfl rfl (fun a F => ?_))))))))
 refine xF (xG ?_)
 obtain ⟨o25, hR, hk26⟩ := xS hR
 refine oQ (fun a w => o25 = .nx () ∧ Sk a 36 [(0, v0), (1, v1)] ∧ Sep [] B w0 w []) ?_ ?_
 ·
  refine oU ?_
  obtain ⟨fl29, hf30, hR⟩ := qP hR
  refine qU (fun g a w => ∃ (k31 : Nat) (rest32 : List Int), (k31 ≤ x0.length ∧ x0.drop k31 = rest32) ∧ rest32.length = g ∧ qT fl29 rest32 k31 () = some o25 ∧ Sk a 36 [(11, .int .i64 (k31 : Int)), (0, v0), (1, v1), (9, v0), (10, .int .i64 (x0.length : Int))] ∧ Sep [] B w0 w []) x0.length ?_ ?_
  ·
   exact ⟨0, x0, ⟨Nat.zero_le _, rfl⟩, rfl, hR, F.sub (sc rfl (sc rfl (sc rfl (sc rfl (sc rfl sn))))), H⟩
  intro g34 a w ⟨k31, rest32, hd35, hg36, hR, F, H⟩
  cases rest32 with
  | nil =>
   replace hR := qS hR
   have hkk31 := qR hd35.1 hd35.2
   have hlk31 := vW hkk31
   refine xC (xH (oR F rfl rfl rfl fun a F => xF (xG (xC (vV F rfl hlk31 (qK (qQ (qQ (zT ?_)))))))))
   refine xG ?_
   exact ⟨(Option.some.inj hR).symm, F.sub (sc rfl (sc rfl sn)), H⟩
  | cons x33 rest32 =>
   subst hg36
   replace hd35 := qD hd35.2
   have hxk31 := qG hd35.2.1
   obtain ⟨ck31, hR, hn28⟩ := qC hR
   rw [hf30] at hR
   have hlk31 := vA hd35.1
   refine xC (xH (oR F rfl rfl rfl fun a F => xF (xG (xC (vZ F rfl hlk31 (xO (xG (xC ?_))))))))
   have ikk31 := k64 (Nat.le_of_lt hd35.1) i11
   have ink31 := zW hd35.1 i11
   refine oU (xC (xH (xB F rfl rfl fun a F => oI underlying42 sizeOf2 F rfl rfl rfl A0 hxk31 fun a p37 h38 F => olI isAgg2 F rfl rfl H.sm h38 fun a i39 F => xA F rfl rfl fun a F => xA F rfl rfl fun a F => xF (xG (xC ?_)))))
   refine xC (xH (xB F rfl rfl fun a F => xB F rfl rfl fun a F => oL underlying42 F rfl rfl A1 fun a i40 F => o_geq F rfl rfl rfl fun a F => xF (xG (vC F rfl (fun hb41 => ?_) (fun hb41 => ?_)))))
   ·
    replace hR := zD hb41 hR
    refine xC (xH (xA F rfl rfl fun a F => xF (xG (xW (oV (kB (oV (oV ?_))))))))
    replace hR := l_ret hR hn28
    refine kB (oV ?_)
    replace hR := j_ret hR hk26
    refine oV (xR F rfl (oO F rfl) ?_)
    obtain rfl := Option.some.inj hR
    exact ⟨⟨rfl, H.bl⟩, (show xY (1) by decide)⟩
   replace hR := zE hb41 hR
   refine xO (xG (xC (xH (xB F rfl rfl fun a F => xB F rfl rfl (fun a F => ?_)))))
   obtain ⟨z42, c43, hR⟩ := xI hR
   refine oI underlying42 sizeOf2 F rfl rfl rfl A1 c43 fun a p44 h45 F => olI isAgg2 F rfl rfl H.sm h45 fun a i46 F => xA F rfl rfl fun a F => xF (xG (xC (xH (xB F rfl rfl fun a F => xB F rfl rfl (fun a F => ?_)))))
   obtain ⟨z47, c48, hR⟩ := xI hR
   refine oKI F rfl call227 rfl H (cmp_Compare_int64_c z47 c48 _ aA i39 i46) fun a w H iz47 F => xA F rfl rfl fun a F => xF (xG (xC (xH (xB F rfl rfl fun a F => o_neq F rfl rfl rfl fun a F => xF (xG (vC F rfl (fun hb49 => ?_) (fun hb49 => ?_)))))))
   ·
    replace hR := zD hb49 hR
    refine xC (xH (xB F rfl rfl fun a F => xA F rfl rfl fun a F => xF (xG (xW (kB (oV (oV ?_)))))))
    replace hR := l_ret hR hn28
    refine kB (oV ?_)
    replace hR := j_ret hR hk26
    refine oV (xR F rfl (oO F rfl) ?_)
    obtain rfl := Option.some.inj hR
    exact ⟨⟨rfl, H.bl⟩, iz47⟩
   replace hR := zE hb49 hR
   refine xO (zN (xG (xH (vM F rfl rfl rfl ink31 fun a F => xB F rfl rfl fun a F => xF (xG ?_)))))
   replace hR := zH hR hn28
   exact ⟨_, Nat.lt_succ_self _, k31 + 1, rest32, ⟨hd35.1, hd35.2.2⟩, rfl, hR, F.sub (sc rfl (sc rfl (sc rfl (sc rfl (sc rfl sn))))), H⟩
 intro a w ⟨ho27, F, H⟩
 subst ho27
 have hR := xZ hk26
 refine xG (xC (xC (xH (xB F rfl rfl fun a F => oL underlying42 F rfl rfl A0 fun a i50 F => xB F rfl rfl fun a F => oL underlying42 F rfl rfl A1 fun a i51 F => oR F rfl rfl rfl fun a F => xF (xG ?_)))))
 refine vC F rfl (fun hb52 => ?_) (fun hb52 => ?_)
 ·
  replace hR := zD hb52 hR
  refine xC (xH (xA F rfl rfl fun a F => xF (xG (xW (oV (xR F rfl (oO F rfl) ?_))))))
  obtain rfl := Option.some.inj hR
  exact ⟨⟨rfl, H.bl⟩, (show xY (-1) by decide)⟩
 replace hR := zE hb52 hR
 refine xO (xG (xC (xH (xA F rfl rfl fun a F => xF (xG (xW (xR F rfl (oO F rfl) ?_)))))))
 obtain rfl := Option.some.inj hR
 exact ⟨⟨rfl, H.bl⟩, (show xY (0) by decide)⟩

def impl_ValidRel (x0 : Int) (x1 : Rel) : Option Bool :=
 kJ (σ := Bool) (
  oJ (impl_isSize x0) fun z24 =>
  if (!z24) then  some (.nx true) else  oJ (impl_isArity x1.arity) fun z27 =>
   some (.nx (!z27))) fun s23 =>
 if s23 then
  some false
 else
  kJ (σ := Unit) (
   qT (σ := Unit) (ρ := Bool) (fun (k74 : Nat) (x76 : (List Int)) (s : Unit) =>
     match s with
     | _ =>
     kJ (σ := Bool) (
      oJ (zS x0 x76 x1.arity) fun z102 =>
      if (!z102) then  some (.nx true) else  if (decide (0 < (k74 : Int))) then  oJ (ck ((k74 : Int) - 1)) fun z106 =>
        oJ (ix x1.tuples z106) fun z108 =>
        oJ (vJ z108 x76) fun z114 =>
        some (.nx (decide (0 ≤ z114))) else  some (.nx false)) fun s101 =>
     if s101 then
      some (.ret false)
     else
      some (.go ())) x1.tuples 0 ()) fun _ =>
  some true
theorem impl_ValidRel_c {B : Nat → Prop} {x0 : Int} {x1 : Rel} (r : Bool) (hR : impl_ValidRel x0 x1 = some r) {v1 : Value} (w0 : World) (hN : ∀ c, B c → c < w0.heap.size) (hx0 : xY x0) (A1 : Bo B w0 (qH 2 qE) v1 x1) : Calls Tryz.prog 176 #[.int .i64 x0, v1] w0 (vR (.bool r) w0) := by
 unfold impl_ValidRel at hR
 refine oD (L := [(0, .int .i64 x0), (1, v1)]) func176 rfl rfl rfl (sc rfl (sc rfl sn)) (fun a F => ?_)
 have H := Sep.start hN
 refine xC (xH ?_)
 obtain ⟨v12, rfl, i11, h13⟩ := qE.o A1
 refine oX F rfl rfl rfl H fun a w b14 H F => xA F rfl rfl fun a F => xF (xG (xC (xC ?_)))
 obtain ⟨o20, hR, hk21⟩ := xS hR
 refine oQ (fun a w => ∃ (s23 : Bool), o20 = .nx s23 ∧ Sk a 46 [(0, .int .i64 x0), (3, .pointer (some ⟨b14, 0, none⟩)), (15, .bool s23)] ∧ Sep [] B w0 w [bx b14 [.int .i64 x1.arity, v12] 84]) ?_ ?_
 ·
  refine xH (xB F rfl rfl (fun a F => ?_))
  obtain ⟨z24, c25, hR⟩ := xI hR
  refine oK F rfl call174 rfl H (impl_isSize_c z24 c25 _ aA hx0) fun a w H F => kE F rfl rfl fun a F => xB F rfl rfl (fun a F => ?_)
  rcases vD (!z24) with hb26 | hb26
  ·
   replace hR := zD hb26 hR
   have F := F.eq (t := 10) rfl (congrArg Value.bool hb26)
   refine oH F rfl rfl fun a F => oH F rfl rfl fun a F => oH F rfl rfl fun a F => oH F rfl rfl fun a F => vH F rfl rfl rfl fun a F => xF (xG ?_)
   exact ⟨true, (Option.some.inj hR).symm, F.sub (sc rfl (sc rfl (sc rfl sn))), H⟩
  replace hR := zE hb26 hR
  have F := F.eq (t := 10) rfl (congrArg Value.bool hb26)
  refine oM fa84_0 F rfl rfl rfl fun a F => oB isAgg2 F rfl rfl (H.b 0 rfl) rfl (fun a F => ?_)
  obtain ⟨z27, c28, hR⟩ := xI hR
  refine oK F rfl call225 rfl H (impl_isArity_c z27 c28 _ aA i11) fun a w H F => kE F rfl rfl fun a F => qZ F rfl rfl rfl fun a F => xF (xG ?_)
  exact ⟨(!z27), (Option.some.inj hR).symm, F.sub (sc rfl (sc rfl (sc rfl sn))), H⟩
 intro a w ⟨s23, ho22, F, H⟩
 subst ho22
 have hR := xZ hk21
 refine xG (vC F rfl (fun hb29 => ?_) (fun hb29 => ?_))
 ·
  replace hR := zD hb29 hR
  refine xC (xH (xA F rfl rfl fun a F => xF (xG (xW (oV (xR F rfl (oO F rfl) ?_))))))
  obtain rfl := Option.some.inj hR
  exact ⟨rfl, H.bl⟩
 replace hR := zE hb29 hR
 refine xO (xG (xC (xC (xH (oM fa84_1 F rfl rfl rfl fun a F => oB isAgg82 F rfl rfl (H.b 0 rfl) rfl fun a F => oL underlying82 F rfl rfl h13 fun a i30 F => xB F rfl rfl fun a F => xF (xG ?_))))))
 obtain ⟨o68, hR, hk69⟩ := xS hR
 refine oQ (fun a w => o68 = .nx () ∧ Sk a 46 [] ∧ Sep [] B w0 w []) ?_ ?_
 ·
  refine oU ?_
  obtain ⟨fl72, hf73, hR⟩ := qP hR
  refine qU (fun g a w => ∃ (k74 : Nat) (rest75 : List (List Int)), (k74 ≤ x1.tuples.length ∧ x1.tuples.drop k74 = rest75) ∧ rest75.length = g ∧ qT fl72 rest75 k74 () = some o68 ∧ Sk a 46 [(19, .int .i64 (k74 : Int)), (0, .int .i64 x0), (3, .pointer (some ⟨b14, 0, none⟩)), (17, v12), (18, .int .i64 (x1.tuples.length : Int))] ∧ Sep [] B w0 w [bx b14 [.int .i64 x1.arity, v12] 84]) x1.tuples.length ?_ ?_
  ·
   exact ⟨0, x1.tuples, ⟨Nat.zero_le _, rfl⟩, rfl, hR, F.sub (sc rfl (sc rfl (sc rfl (sc rfl (sc rfl sn))))), H⟩
  intro g77 a w ⟨k74, rest75, hd78, hg79, hR, F, H⟩
  cases rest75 with
  | nil =>
   replace hR := qS hR
   have hkk74 := qR hd78.1 hd78.2
   have hlk74 := vW hkk74
   refine xC (xH (oR F rfl rfl rfl fun a F => xF (xG (xC (vV F rfl hlk74 (qK (qQ (qQ (zT ?_)))))))))
   refine xG ?_
   exact ⟨(Option.some.inj hR).symm, F.sub sn, (H.s [] rfl rfl)⟩
  | cons x76 rest75 =>
   subst hg79
   replace hd78 := qD hd78.2
   have hxk74 := qG hd78.2.1
   obtain ⟨ck74, hR, hn71⟩ := qC hR
   rw [hf73] at hR
   have hlk74 := vA hd78.1
   refine xC (xH (oR F rfl rfl rfl fun a F => xF (xG (xC (vZ F rfl hlk74 (xO (xG (xC ?_))))))))
   have ikk74 := k64 (Nat.le_of_lt hd78.1) i30
   have ink74 := zW hd78.1 i30
   refine oU (xC (xH (xB F rfl rfl fun a F => oI underlying82 sizeOf42 F rfl rfl rfl h13 hxk74 fun a p80 h81 F => olS isAgg42 F rfl rfl H.sm h81 fun a v82 h83 F => xA F rfl rfl fun a F => xA F rfl rfl fun a F => xF (xG (xC ?_)))))
   obtain ⟨o98, hR, hk99⟩ := xS hR
   refine oQ (fun a w => ∃ (s101 : Bool), o98 = .nx s101 ∧ Sk a 46 [(0, .int .i64 x0), (3, .pointer (some ⟨b14, 0, none⟩)), (17, v12), (18, .int .i64 (x1.tuples.length : Int)), (19, .int .i64 (k74 : Int)), (44, .bool s101)] ∧ Sep [] B w0 w [bx b14 [.int .i64 x1.arity, v12] 84]) ?_ ?_
   ·
    refine xH (xB F rfl rfl fun a F => xB F rfl rfl fun a F => oM fa84_0 F rfl rfl rfl fun a F => oB isAgg2 F rfl rfl (H.b 0 rfl) rfl (fun a F => ?_))
    obtain ⟨z102, c103, hR⟩ := xI hR
    refine oK F rfl call75 rfl H (impl_areValues_c z102 c103 _ aA hx0 (H.a h83) i11) fun a w H F => kE F rfl rfl fun a F => xB F rfl rfl (fun a F => ?_)
    rcases vD (!z102) with hb104 | hb104
    ·
     replace hR := zD hb104 hR
     have F := F.eq (t := 30) rfl (congrArg Value.bool hb104)
     refine oH F rfl rfl fun a F => oH F rfl rfl fun a F => oH F rfl rfl fun a F => oH F rfl rfl fun a F => oH F rfl rfl fun a F => oH F rfl rfl fun a F => oH F rfl rfl fun a F => oH F rfl rfl fun a F => oH F rfl rfl fun a F => oH F rfl rfl fun a F => oH F rfl rfl (fun a F => ?_)
     refine oH F rfl rfl fun a F => oH F rfl rfl fun a F => vH F rfl rfl rfl fun a F => xF (xG ?_)
     exact ⟨true, (Option.some.inj hR).symm, F.sub (sc rfl (sc rfl (sc rfl (sc rfl (sc rfl (sc rfl sn)))))), H⟩
    replace hR := zE hb104 hR
    have F := F.eq (t := 30) rfl (congrArg Value.bool hb104)
    refine xB F rfl rfl fun a F => o_gtr F rfl rfl rfl fun a F => xB F rfl rfl (fun a F => ?_)
    rcases vD (decide (0 < (k74 : Int))) with hb105 | hb105
    ·
     replace hR := zD hb105 hR
     have F := F.eq (t := 33) rfl (congrArg Value.bool hb105)
     refine oM fa84_1 F rfl rfl rfl fun a F => oB isAgg82 F rfl rfl (H.b 0 rfl) rfl fun a F => xB F rfl rfl (fun a F => ?_)
     obtain ⟨z106, c107, hR⟩ := xI hR
     refine o_sub F rfl rfl rfl c107 (fun a F => ?_)
     obtain ⟨z108, c109, hR⟩ := xI hR
     refine oI underlying82 sizeOf42 F rfl rfl rfl h13 c109 fun a p110 h111 F => olS isAgg42 F rfl rfl H.sm h111 fun a v112 h113 F => xB F rfl rfl (fun a F => ?_)
     obtain ⟨z114, c115, hR⟩ := xI hR
     refine oKI F rfl call187 rfl H (slices_Compare_s_int64_int64_c z114 c115 _ aA (H.a h113) (H.a h83)) fun a w H iz114 F => o_geq F rfl rfl rfl fun a F => vH F rfl rfl rfl fun a F => qZ F rfl rfl rfl fun a F => xF (xG ?_)
     exact ⟨(decide (0 ≤ z114)), (Option.some.inj hR).symm, F.sub (sc rfl (sc rfl (sc rfl (sc rfl (sc rfl (sc rfl sn)))))), H⟩
    replace hR := zE hb105 hR
    have F := F.eq (t := 33) rfl (congrArg Value.bool hb105)
    refine oH F rfl rfl fun a F => oH F rfl rfl fun a F => oH F rfl rfl fun a F => oH F rfl rfl fun a F => oH F rfl rfl fun a F => oH F rfl rfl fun a F => oH F rfl rfl fun a F => oH F rfl rfl fun a F => oH F rfl rfl fun a F => qZ F rfl rfl rfl fun a F => qZ F rfl rfl rfl (fun a F => ?_)
    refine xF (xG ?_)
    exact ⟨false, (Option.some.inj hR).symm, F.sub (sc rfl (sc rfl (sc rfl (sc rfl (sc rfl (sc rfl sn)))))), H⟩
   intro a w ⟨s101, ho100, F, H⟩
   subst ho100
   have hR := xZ hk99
   refine xG (vC F rfl (fun hb116 => ?_) (fun hb116 => ?_))
   ·
    replace hR := zD hb116 hR
    refine xC (xH (xA F rfl rfl fun a F => xF (xG (xW (kB (oV (oV ?_)))))))
    replace hR := l_ret hR hn71
    refine kB (oV ?_)
    replace hR := j_ret hR hk69
    refine oV (xR F rfl (oO F rfl) ?_)
    obtain rfl := Option.some.inj hR
    exact ⟨rfl, H.bl⟩
   replace hR := zE hb116 hR
   refine xO (zN (xG (xH (vM F rfl rfl rfl ink74 fun a F => xB F rfl rfl fun a F => xF (xG ?_)))))
   replace hR := zH hR hn71
   exact ⟨_, Nat.lt_succ_self _, k74 + 1, rest75, ⟨hd78.1, hd78.2.2⟩, rfl, hR, F.sub (sc rfl (sc rfl (sc rfl (sc rfl (sc rfl sn))))), H⟩
 intro a w ⟨ho70, F, H⟩
 subst ho70
 have hR := xZ hk69
 refine xG (xC (xH (xA F rfl rfl fun a F => xF (xG (xW (xR F rfl (oO F rfl) ?_))))))
 obtain rfl := Option.some.inj hR
 exact ⟨rfl, H.bl⟩

def impl_ValidTemplate_1 (x0 : Rel) (y0 : Template) : Option Bool :=
 oJ (impl_ValidRel y0.size (Rel.mk x0.arity x0.tuples)) fun z18 =>
 some ((!z18))
theorem impl_ValidTemplate_1_c {B : Nat → Prop} {x0 : Rel} {y0 : Template} (r : Bool) (hR : impl_ValidTemplate_1 x0 y0 = some r) {v0 : Value} {v1 : Value} (w0 : World) (hN : ∀ c, B c → c < w0.heap.size) (A0 : Bo B w0 (qH 2 qE) v0 x0) (A1 : Bo B w0 (Pt 2 xJ) v1 y0) : Calls Tryz.prog 175 #[v0, v1] w0 (vR (.bool r) w0) := by
 unfold impl_ValidTemplate_1 at hR
 refine oD (L := [(0, v0), (1, v1)]) func175 rfl rfl rfl (sc rfl (sc rfl sn)) (fun a F => ?_)
 have H := Sep.start hN
 refine xC (xH ?_)
 obtain ⟨v12, rfl, i11, h13⟩ := qE.o A0
 refine oX F rfl rfl rfl H fun a w b14 H F => xA F rfl rfl fun a F => xF (xG (xC (xH (oF (s' := 1) fa33_0 F rfl rfl A1 xJ.f0 fun a p15 h16 F => olI isAgg2 F rfl rfl H.sm h16 fun a i17 F => oBA isAgg84 sizeOf84 F rfl rfl (H.b 0 rfl) rfl rfl (fun a F => ?_)))))
 obtain ⟨z18, c19, hR⟩ := xI hR
 refine oK F rfl call176 rfl H (impl_ValidRel_c z18 c19 _ aA i17 (qE.m i11 (H.a h13))) fun a w H F => kE F rfl rfl fun a F => xA F rfl rfl fun a F => xF (xG (xW (xR F rfl (oO F rfl) ?_)))
 obtain rfl := Option.some.inj hR
 exact ⟨rfl, H.bl⟩

def kO (x0 : List Rel) (x1 : Rel → Option Bool) : Option Int :=
 kJ (σ := Unit) (
  qT (σ := Unit) (ρ := Int) (fun (k25 : Nat) (x27 : Rel) (s : Unit) =>
    match s with
    | _ =>
    oJ (x1 x27) fun z35 =>
    if z35 then
     some (.ret ((k25 : Int)))
    else
     some (.go ())) x0 0 ()) fun _ =>
 some ((-1))
theorem slices_IndexFunc_s_Rel_Rel_c {B : Nat → Prop} {x0 : List Rel} {x1 : Rel → Option Bool} (r : Int) (hR : kO x0 x1 = some r) {v0 : Value} {g1 : FuncId} {lb1 : List Value} (w0 : World) (hN : ∀ c, B c → c < w0.heap.size) (A0 : Bo B w0 (Sl 2 qE) v0 x0) (hg1 : ∀ args w, (callFunc g1 args).run Tryz.prog w = .ok (.enter g1 args) w) (hp1 : ∀ (a0 : Rel) (r : Bool), x1 a0 = some r → ∀ W, Below w0.heap.size w0 W → ∀ (u0 : Value), Bo (All W) W (qH 2 qE) u0 a0 → Calls Tryz.prog g1 ([u0] ++ lb1 : List Value).toArray W (vR (.bool r) W)) : Calls Tryz.prog 154 #[v0, .func (.func g1) #[] lb1.toArray] w0 (SaysI r w0) := by
 unfold kO at hR
 refine oD (L := [(0, v0), (1, .func (.func g1) #[] lb1.toArray)]) func154 rfl rfl rfl (sc rfl (sc rfl sn)) (fun a F => ?_)
 have H := Sep.start hN
 refine xC (xH (xA F rfl rfl fun a F => xF (xG (xC (xC (xH (xB F rfl rfl fun a F => oL underlying31 F rfl rfl A0 fun a i11 F => xB F rfl rfl (fun a F => ?_))))))))
 refine xF (xG ?_)
 obtain ⟨o19, hR, hk20⟩ := xS hR
 refine oQ (fun a w => o19 = .nx () ∧ Sk a 19 [] ∧ Sep [] B w0 w []) ?_ ?_
 ·
  refine oU ?_
  obtain ⟨fl23, hf24, hR⟩ := qP hR
  refine qU (fun g a w => ∃ (k25 : Nat) (rest26 : List Rel), (k25 ≤ x0.length ∧ x0.drop k25 = rest26) ∧ rest26.length = g ∧ qT fl23 rest26 k25 () = some o19 ∧ Sk a 19 [(8, .int .i64 (k25 : Int)), (0, v0), (1, .func (.func g1) #[] lb1.toArray), (7, .int .i64 (x0.length : Int))] ∧ Sep [] B w0 w []) x0.length ?_ ?_
  ·
   exact ⟨0, x0, ⟨Nat.zero_le _, rfl⟩, rfl, hR, F.sub (sc rfl (sc rfl (sc rfl (sc rfl sn)))), H⟩
  intro g28 a w ⟨k25, rest26, hd29, hg30, hR, F, H⟩
  cases rest26 with
  | nil =>
   replace hR := qS hR
   have hkk25 := qR hd29.1 hd29.2
   have hlk25 := vW hkk25
   refine xC (xH (oR F rfl rfl rfl fun a F => xF (xG (xC (vV F rfl hlk25 (qK (qQ (qQ (zT ?_)))))))))
   refine xG ?_
   exact ⟨(Option.some.inj hR).symm, F.sub sn, H⟩
  | cons x27 rest26 =>
   subst hg30
   replace hd29 := qD hd29.2
   have hxk25 := qG hd29.2.1
   obtain ⟨ck25, hR, hn22⟩ := qC hR
   rw [hf24] at hR
   have hlk25 := vA hd29.1
   refine xC (xH (oR F rfl rfl rfl fun a F => xF (xG (xC (vZ F rfl hlk25 (xO (xG (xC ?_))))))))
   have ikk25 := k64 (Nat.le_of_lt hd29.1) i11
   have ink25 := zW hd29.1 i11
   refine oU (xC (xH (xB F rfl rfl fun a F => xA F rfl rfl fun a F => xF (xG (xC (xH (xB F rfl rfl fun a F => xB F rfl rfl (fun a F => ?_))))))))
   refine xB F rfl rfl fun a F => oI underlying31 sizeOf84 F rfl rfl rfl A0 hxk25 fun a p31 h32 F => olA isAgg84 sizeOf84 F rfl rfl H.sm h32 (fun a v33 h34 F => ?_)
   obtain ⟨z35, c36, hR⟩ := xI hR
   refine oKV F rfl rfl hg1 rfl H (hp1 _ z35 c36 _ H.bl _ (H.a h34)) fun a w H F => xF (xG (vC F rfl (fun hb37 => ?_) (fun hb37 => ?_)))
   ·
    replace hR := zD hb37 hR
    refine xC (xH (xB F rfl rfl fun a F => xA F rfl rfl fun a F => xF (xG (xW (kB (oV (oV ?_)))))))
    replace hR := l_ret hR hn22
    refine kB (oV ?_)
    replace hR := j_ret hR hk20
    refine oV (xR F rfl (oO F rfl) ?_)
    obtain rfl := Option.some.inj hR
    exact ⟨⟨rfl, H.bl⟩, ikk25⟩
   replace hR := zE hb37 hR
   refine xO (zN (xG (xH (vM F rfl rfl rfl ink25 fun a F => xB F rfl rfl fun a F => xF (xG ?_)))))
   replace hR := zH hR hn22
   exact ⟨_, Nat.lt_succ_self _, k25 + 1, rest26, ⟨hd29.1, hd29.2.2⟩, rfl, hR, F.sub (sc rfl (sc rfl (sc rfl (sc rfl sn)))), H⟩
 intro a w ⟨ho21, F, H⟩
 subst ho21
 have hR := xZ hk20
 refine xG (xC (xH (xA F rfl rfl fun a F => xF (xG (xW (xR F rfl (oO F rfl) ?_))))))
 obtain rfl := Option.some.inj hR
 exact ⟨⟨rfl, H.bl⟩, (show xY (-1) by decide)⟩

def zG (x0 : List Rel) (x1 : Rel → Option Bool) : Option Bool :=
 oJ (kO x0 x1) fun z11 =>
 some ((decide (0 ≤ z11)))
theorem slices_ContainsFunc_s_Rel_Rel_c {B : Nat → Prop} {x0 : List Rel} {x1 : Rel → Option Bool} (r : Bool) (hR : zG x0 x1 = some r) {v0 : Value} {g1 : FuncId} {lb1 : List Value} (w0 : World) (hN : ∀ c, B c → c < w0.heap.size) (A0 : Bo B w0 (Sl 2 qE) v0 x0) (hg1 : ∀ args w, (callFunc g1 args).run Tryz.prog w = .ok (.enter g1 args) w) (hp1 : ∀ (a0 : Rel) (r : Bool), x1 a0 = some r → ∀ W, Below w0.heap.size w0 W → ∀ (u0 : Value), Bo (All W) W (qH 2 qE) u0 a0 → Calls Tryz.prog g1 ([u0] ++ lb1 : List Value).toArray W (vR (.bool r) W)) : Calls Tryz.prog 87 #[v0, .func (.func g1) #[] lb1.toArray] w0 (vR (.bool r) w0) := by
 unfold zG at hR
 refine oD (L := [(0, v0), (1, .func (.func g1) #[] lb1.toArray)]) func87 rfl rfl rfl (sc rfl (sc rfl sn)) (fun a F => ?_)
 have H := Sep.start hN
 refine xC (xH (xA F rfl rfl fun a F => xF (xG (xC (xH (xB F rfl rfl fun a F => xB F rfl rfl (fun a F => ?_)))))))
 obtain ⟨z11, c12, hR⟩ := xI hR
 refine oKI F rfl call154 rfl H (slices_IndexFunc_s_Rel_Rel_c z11 c12 _ aA (H.a A0) hg1 (fun a0 r h W l1 => hp1 a0 r h W (H.bl.trans (l1.mono H.fr.size)))) fun a w H iz11 F => o_geq F rfl rfl rfl fun a F => xA F rfl rfl fun a F => xF (xG (xW (xR F rfl (oO F rfl) ?_)))
 obtain rfl := Option.some.inj hR
 exact ⟨rfl, H.bl⟩

def vK (x0 : Template) : Option Bool :=
 kJ (σ := Bool) (
  oJ (impl_isSize x0.size) fun z26 =>
  if z26 then  if (decide ((x0.rels.length : Int) ≤ 6)) then  oJ (zG x0.rels (fun a0 => impl_ValidTemplate_1 a0 (Template.mk x0.size x0.rels))) fun z31 =>
    some (.nx (!z31)) else  some (.nx false) else  some (.nx false)) fun s25 =>
 some s25
theorem impl_ValidTemplate_c {B : Nat → Prop} {x0 : Template} (r : Bool) (hR : vK x0 = some r) {v0 : Value} (w0 : World) (hN : ∀ c, B c → c < w0.heap.size) (A0 : Bo B w0 (qH 2 xJ) v0 x0) : Calls Tryz.prog 100 #[v0] w0 (vR (.bool r) w0) := by
 unfold vK at hR
 refine oD (L := [(0, v0)]) func100 rfl rfl rfl (sc rfl sn) (fun a F => ?_)
 have H := Sep.start hN
 refine xC (xH ?_)
 obtain ⟨v12, rfl, i11, h13⟩ := xJ.o A0
 refine oX F rfl rfl rfl H fun a w b14 H F => xA F rfl rfl fun a F => xF (xG (xC ?_))
 obtain ⟨o22, hR, hk23⟩ := xS hR
 refine oQ (fun a w => ∃ (s25 : Bool), o22 = .nx s25 ∧ Sk a 19 [(2, .bool s25)] ∧ Sep [] B w0 w []) ?_ ?_
 ·
  refine xH (oM fa33_0 F rfl rfl rfl fun a F => oB isAgg2 F rfl rfl (H.b 0 rfl) rfl (fun a F => ?_))
  obtain ⟨z26, c27, hR⟩ := xI hR
  refine oK F rfl call174 rfl H (impl_isSize_c z26 c27 _ aA i11) fun a w H F => xB F rfl rfl (fun a F => ?_)
  rcases vD z26 with hb28 | hb28
  ·
   replace hR := zD hb28 hR
   have F := F.eq (t := 6) rfl (congrArg Value.bool hb28)
   refine oM fa33_1 F rfl rfl rfl fun a F => oB isAgg31 F rfl rfl (H.b 0 rfl) rfl fun a F => oL underlying31 F rfl rfl h13 fun a i29 F => o_leq F rfl rfl rfl fun a F => vH F rfl rfl rfl fun a F => xB F rfl rfl (fun a F => ?_)
   rcases vD (decide ((x0.rels.length : Int) ≤ 6)) with hb30 | hb30
   ·
    replace hR := zD hb30 hR
    have F := F.eq (t := 12) rfl (congrArg Value.bool hb30)
    refine oM fa33_1 F rfl rfl rfl fun a F => oB isAgg31 F rfl rfl (H.b 0 rfl) rfl fun a F => o_func F rfl rfl rfl (fun a F => ?_)
    obtain ⟨z31, c32, hR⟩ := xI hR
    refine oK F rfl call87 rfl H (slices_ContainsFunc_s_Rel_Rel_c z31 c32 _ aA (H.a h13) call175 (fun a0 r h W l1 u0 f0 => impl_ValidTemplate_1_c r h W aA f0 ((xJ.b (H.g 0 rfl).bk i11 (H.a h13)).w l1))) fun a w H F => kE F rfl rfl fun a F => vH F rfl rfl rfl fun a F => xA F rfl rfl fun a F => xF (xG ?_)
    exact ⟨(!z31), (Option.some.inj hR).symm, F.sub (sc rfl sn), (H.s [] rfl rfl)⟩
   replace hR := zE hb30 hR
   have F := F.eq (t := 12) rfl (congrArg Value.bool hb30)
   refine oH F rfl rfl fun a F => oH F rfl rfl fun a F => oH F rfl rfl fun a F => oH F rfl rfl fun a F => oH F rfl rfl fun a F => qZ F rfl rfl rfl fun a F => xA F rfl rfl fun a F => xF (xG ?_)
   exact ⟨false, (Option.some.inj hR).symm, F.sub (sc rfl sn), (H.s [] rfl rfl)⟩
  replace hR := zE hb28 hR
  have F := F.eq (t := 6) rfl (congrArg Value.bool hb28)
  refine oH F rfl rfl fun a F => oH F rfl rfl fun a F => oH F rfl rfl fun a F => oH F rfl rfl fun a F => qZ F rfl rfl rfl fun a F => xB F rfl rfl fun a F => oH F rfl rfl fun a F => oH F rfl rfl fun a F => oH F rfl rfl fun a F => oH F rfl rfl fun a F => oH F rfl rfl (fun a F => ?_)
  refine qZ F rfl rfl rfl fun a F => xA F rfl rfl fun a F => xF (xG ?_)
  exact ⟨false, (Option.some.inj hR).symm, F.sub (sc rfl sn), (H.s [] rfl rfl)⟩
 intro a w ⟨s25, ho24, F, H⟩
 subst ho24
 have hR := xZ hk23
 refine xG (xW (xR F rfl (oO F rfl) ?_))
 obtain rfl := Option.some.inj hR
 exact ⟨rfl, H.bl⟩

def impl_isFrame (x0 : Formula) : Option Bool :=
 kJ (σ := Bool) (
  oJ (impl_isArity x0.free) fun z27 =>
  if z27 then  oJ (impl_within x0.vars x0.free 8) fun z30 =>
   if z30 then  some (.nx (decide ((x0.atoms.length : Int) ≤ 16))) else  some (.nx false) else  some (.nx false)) fun s26 =>
 some s26
theorem impl_isFrame_c {B : Nat → Prop} {x0 : Formula} (r : Bool) (hR : impl_isFrame x0 = some r) {v0 : Value} (w0 : World) (hN : ∀ c, B c → c < w0.heap.size) (A0 : Bo B w0 (qH 3 xL) v0 x0) : Calls Tryz.prog 177 #[v0] w0 (vR (.bool r) w0) := by
 unfold impl_isFrame at hR
 refine oD (L := [(0, v0)]) func177 rfl rfl rfl (sc rfl sn) (fun a F => ?_)
 have H := Sep.start hN
 refine xC (xH ?_)
 obtain ⟨v13, rfl, i11, i12, h14⟩ := xL.o A0
 refine oX F rfl rfl rfl H fun a w b15 H F => xA F rfl rfl fun a F => xF (xG (xC ?_))
 obtain ⟨o23, hR, hk24⟩ := xS hR
 refine oQ (fun a w => ∃ (s26 : Bool), o23 = .nx s26 ∧ Sk a 19 [(2, .bool s26)] ∧ Sep [] B w0 w []) ?_ ?_
 ·
  refine xH (oM fa95_0 F rfl rfl rfl fun a F => oB isAgg2 F rfl rfl (H.b 0 rfl) rfl (fun a F => ?_))
  obtain ⟨z27, c28, hR⟩ := xI hR
  refine oK F rfl call225 rfl H (impl_isArity_c z27 c28 _ aA i11) fun a w H F => xB F rfl rfl (fun a F => ?_)
  rcases vD z27 with hb29 | hb29
  ·
   replace hR := zD hb29 hR
   have F := F.eq (t := 6) rfl (congrArg Value.bool hb29)
   refine oM fa95_1 F rfl rfl rfl fun a F => oB isAgg2 F rfl rfl (H.b 0 rfl) rfl fun a F => oM fa95_0 F rfl rfl rfl fun a F => oB isAgg2 F rfl rfl (H.b 0 rfl) rfl (fun a F => ?_)
   obtain ⟨z30, c31, hR⟩ := xI hR
   refine oK F rfl call150 rfl H (impl_within_c z30 c31 _ aA i12 i11 (show xY (8) by decide)) fun a w H F => vH F rfl rfl rfl fun a F => xB F rfl rfl (fun a F => ?_)
   rcases vD z30 with hb32 | hb32
   ·
    replace hR := zD hb32 hR
    have F := F.eq (t := 13) rfl (congrArg Value.bool hb32)
    refine oM fa95_2 F rfl rfl rfl fun a F => oB isAgg93 F rfl rfl (H.b 0 rfl) rfl fun a F => oL underlying93 F rfl rfl h14 fun a i33 F => o_leq F rfl rfl rfl fun a F => vH F rfl rfl rfl fun a F => xA F rfl rfl fun a F => xF (xG ?_)
    exact ⟨(decide ((x0.atoms.length : Int) ≤ 16)), (Option.some.inj hR).symm, F.sub (sc rfl sn), (H.s [] rfl rfl)⟩
   replace hR := zE hb32 hR
   have F := F.eq (t := 13) rfl (congrArg Value.bool hb32)
   refine oH F rfl rfl fun a F => oH F rfl rfl fun a F => oH F rfl rfl fun a F => oH F rfl rfl fun a F => qZ F rfl rfl rfl fun a F => xA F rfl rfl fun a F => xF (xG ?_)
   exact ⟨false, (Option.some.inj hR).symm, F.sub (sc rfl sn), (H.s [] rfl rfl)⟩
  replace hR := zE hb29 hR
  have F := F.eq (t := 6) rfl (congrArg Value.bool hb29)
  refine oH F rfl rfl fun a F => oH F rfl rfl fun a F => oH F rfl rfl fun a F => oH F rfl rfl fun a F => oH F rfl rfl fun a F => qZ F rfl rfl rfl fun a F => xB F rfl rfl fun a F => oH F rfl rfl fun a F => oH F rfl rfl fun a F => oH F rfl rfl fun a F => oH F rfl rfl (fun a F => ?_)
  refine qZ F rfl rfl rfl fun a F => xA F rfl rfl fun a F => xF (xG ?_)
  exact ⟨false, (Option.some.inj hR).symm, F.sub (sc rfl sn), (H.s [] rfl rfl)⟩
 intro a w ⟨s26, ho25, F, H⟩
 subst ho25
 have hR := xZ hk24
 refine xG (xW (xR F rfl (oO F rfl) ?_))
 obtain rfl := Option.some.inj hR
 exact ⟨rfl, H.bl⟩

def kC (x0 : Template) (x1 : Int) : Option Int :=
 if (x1 == (-1)) then
  some 2
 else
  oJ (ck ((x0.rels.length : Int) - 1)) fun z17 =>
  oJ (impl_within x1 0 z17) fun z19 =>
  if (!z19) then
   some 0
  else
   oJ (ix x0.rels x1) fun z22 =>
   some z22.arity
theorem impl_Template_arityOf_c {B : Nat → Prop} {x0 : Template} {x1 : Int} (r : Int) (hR : kC x0 x1 = some r) {v0 : Value} (w0 : World) (hN : ∀ c, B c → c < w0.heap.size) (A0 : Bo B w0 (qH 2 xJ) v0 x0) (hx1 : xY x1) : Calls Tryz.prog 180 #[v0, .int .i64 x1] w0 (SaysI r w0) := by
 unfold kC at hR
 refine oD (L := [(0, v0), (1, .int .i64 x1)]) func180 rfl rfl rfl (sc rfl (sc rfl sn)) (fun a F => ?_)
 have H := Sep.start hN
 refine xC (xH ?_)
 obtain ⟨v12, rfl, i11, h13⟩ := xJ.o A0
 refine oX F rfl rfl rfl H fun a w b14 H F => xA F rfl rfl fun a F => xF (xG (xC (oU (xC (xH (xB F rfl rfl fun a F => o_eql F rfl rfl rfl fun a F => xA F rfl rfl (fun a F => ?_)))))))
 refine xF (xG (vC F rfl (fun hb15 => ?_) (fun hb15 => ?_)))
 ·
  replace hR := zD hb15 hR
  refine xC (xH (xA F rfl rfl fun a F => xF (xG (xW (kB (oV (xR F rfl (oO F rfl) ?_)))))))
  obtain rfl := Option.some.inj hR
  exact ⟨⟨rfl, H.bl⟩, (show xY (2) by decide)⟩
 replace hR := zE hb15 hR
 refine xC (xH (xB F rfl rfl fun a F => oM fa33_1 F rfl rfl rfl fun a F => oB isAgg31 F rfl rfl (H.b 0 rfl) rfl fun a F => oL underlying31 F rfl rfl h13 (fun a i16 F => ?_)))
 obtain ⟨z17, c18, hR⟩ := xI hR
 refine o_sub F rfl rfl rfl c18 (fun a F => ?_)
 obtain ⟨z19, c20, hR⟩ := xI hR
 refine oK F rfl call150 rfl H (impl_within_c z19 c20 _ aA hx1 (show xY (0) by decide) (ck64 c18)) fun a w H F => kE F rfl rfl fun a F => xA F rfl rfl fun a F => xF (xG (vC F rfl (fun hb21 => ?_) (fun hb21 => ?_)))
 ·
  replace hR := zD hb21 hR
  refine xC (xH (xA F rfl rfl fun a F => xF (xG (xW (kB (oV (xR F rfl (oO F rfl) ?_)))))))
  obtain rfl := Option.some.inj hR
  exact ⟨⟨rfl, H.bl⟩, (show xY (0) by decide)⟩
 replace hR := zE hb21 hR
 refine xO (zN (xG (xC (xH (oM fa33_1 F rfl rfl rfl fun a F => oB isAgg31 F rfl rfl (H.b 0 rfl) rfl fun a F => xB F rfl rfl (fun a F => ?_))))))
 obtain ⟨z22, c23, hR⟩ := xI hR
 refine oI underlying31 sizeOf84 F rfl rfl rfl h13 c23 fun a p24 h25 F => oF (s' := 1) fa84_0 F rfl rfl h25 qE.f0 fun a p26 h27 F => olI isAgg2 F rfl rfl H.sm h27 fun a i28 F => xA F rfl rfl fun a F => xF (xG (xW (xR F rfl (oO F rfl) ?_)))
 obtain rfl := Option.some.inj hR
 exact ⟨⟨rfl, H.bl⟩, i28⟩

def impl_isAtom (x0 : Atom) (x1 : Int) (x2 : Int) : Option Bool :=
 oJ (zS x2 x0.args x1) fun z15 =>
 some z15
theorem impl_isAtom_c {B : Nat → Prop} {x0 : Atom} {x1 : Int} {x2 : Int} (r : Bool) (hR : impl_isAtom x0 x1 x2 = some r) {v0 : Value} (w0 : World) (hN : ∀ c, B c → c < w0.heap.size) (A0 : Bo B w0 (qH 2 xU) v0 x0) (hx1 : xY x1) (hx2 : xY x2) : Calls Tryz.prog 181 #[v0, .int .i64 x1, .int .i64 x2] w0 (vR (.bool r) w0) := by
 unfold impl_isAtom at hR
 refine oD (L := [(0, v0), (1, .int .i64 x1), (2, .int .i64 x2)]) func181 rfl rfl rfl (sc rfl (sc rfl (sc rfl sn))) (fun a F => ?_)
 have H := Sep.start hN
 refine xC (xH ?_)
 obtain ⟨v12, rfl, i11, h13⟩ := xU.o A0
 refine oX F rfl rfl rfl H fun a w b14 H F => xA F rfl rfl fun a F => xF (xG (xC (xH (xB F rfl rfl fun a F => oM fa158_1 F rfl rfl rfl fun a F => oB isAgg42 F rfl rfl (H.b 0 rfl) rfl fun a F => xB F rfl rfl (fun a F => ?_)))))
 obtain ⟨z15, c16, hR⟩ := xI hR
 refine oK F rfl call75 rfl H (impl_areValues_c z15 c16 _ aA hx2 (H.a h13) hx1) fun a w H F => xA F rfl rfl fun a F => xF (xG (xW (xR F rfl (oO F rfl) ?_)))
 obtain rfl := Option.some.inj hR
 exact ⟨rfl, H.bl⟩

def impl_ValidFormula_1 (x0 : Atom) (y0 : Template) (y1 : Formula) : Option Bool :=
 kJ (σ := Bool) (
  oJ (kC y0 x0.rel) fun z33 =>
  if (z33 == 0) then  some (.nx true) else  oJ (impl_isAtom (Atom.mk x0.rel x0.args) z33 y1.vars) fun z41 =>
   some (.nx (!z41))) fun s30 =>
 some s30
theorem impl_ValidFormula_1_c {B : Nat → Prop} {x0 : Atom} {y0 : Template} {y1 : Formula} (r : Bool) (hR : impl_ValidFormula_1 x0 y0 y1 = some r) {v0 : Value} {v1 : Value} {v2 : Value} (w0 : World) (hN : ∀ c, B c → c < w0.heap.size) (A0 : Bo B w0 (qH 2 xU) v0 x0) (A1 : Bo B w0 (Pt 2 xJ) v1 y0) (A2 : Bo B w0 (Pt 3 xL) v2 y1) : Calls Tryz.prog 179 #[v0, v1, v2] w0 (vR (.bool r) w0) := by
 unfold impl_ValidFormula_1 at hR
 refine oD (L := [(0, v0), (1, v1), (2, v2)]) func179 rfl rfl rfl (sc rfl (sc rfl (sc rfl sn))) (fun a F => ?_)
 have H := Sep.start hN
 refine xC (xH ?_)
 obtain ⟨v12, rfl, i11, h13⟩ := xU.o A0
 refine oX F rfl rfl rfl H fun a w b14 H F => xA F rfl rfl fun a F => xF (xG (xC ?_))
 obtain ⟨o27, hR, hk28⟩ := xS hR
 refine oQ (fun a w => ∃ (s30 : Bool), o27 = .nx s30 ∧ Sk a 21 [(4, .bool s30)] ∧ Sep [] B w0 w []) ?_ ?_
 ·
  refine xQ H (by kernel_rfl) (by kernel_rfl) (qlA isAgg33 sizeOf33 F rfl rfl H.q A1 fun a v31 h32 F => xN F rfl (fun w l => zJ fa158_0 F rfl rfl) fun a F => qB isAgg2 F rfl rfl (H.qb 0 rfl) rfl (fun a F => ?_))
  obtain ⟨z33, c34, hR⟩ := xI hR
  refine q_saysI F rfl call180 rfl (fun w w' h l => l.through h) _ (Below.refl _ _) (fun w l => impl_Template_arityOf_c z33 c34 w aA ((H.go l).a h32) i11) fun a iz33 F => xN F rfl (fun w l => r_eql F rfl rfl) fun a F => xN F rfl (fun w l => xP F rfl) (fun a F => ?_)
  rcases vD (z33 == 0) with hb35 | hb35
  ·
   replace hR := zD hb35 hR
   have F := F.eq (t := 10) rfl (congrArg Value.bool hb35)
   refine oE F rfl rfl fun a F => oE F rfl rfl fun a F => oE F rfl rfl fun a F => oE F rfl rfl fun a F => oE F rfl rfl fun a F => oE F rfl rfl fun a F => oE F rfl rfl fun a F => oE F rfl rfl fun a F => oE F rfl rfl fun a F => xN F rfl (fun w l => kM F rfl rfl) fun a F => xN F rfl (fun w l => vO F rfl) (fun a F => ?_)
   refine kA fun w H => xG ?_
   exact ⟨true, (Option.some.inj hR).symm, F.sub (sc rfl sn), (H.s [] rfl rfl)⟩
  replace hR := zE hb35 hR
  have F := F.eq (t := 10) rfl (congrArg Value.bool hb35)
  refine qBA isAgg158 sizeOf158 F rfl rfl (H.qb 0 rfl) rfl rfl fun a F => qlA isAgg33 sizeOf33 F rfl rfl H.q A1 fun a v36 h37 F => xN F rfl (fun w l => zJ fa158_0 F rfl rfl) fun a F => qB isAgg2 F rfl rfl (H.qb 0 rfl) rfl fun a F => q_saysI F rfl call180 rfl (fun w w' h l => l.through h) _ (Below.refl _ _) (fun w l => impl_Template_arityOf_c z33 c34 w aA ((H.go l).a h37) i11) fun a iz33 F => qF (s' := 1) fa95_1 F rfl rfl A2 xL.f1 fun a p38 h39 F => qlI isAgg2 F rfl rfl H.q h39 (fun a i40 F => ?_)
  obtain ⟨z41, c42, hR⟩ := xI hR
  refine q_says F rfl call181 rfl (fun w w' h l => l.through h) (fun w l => impl_isAtom_c z41 c42 w aA (xU.m i11 ((H.go l).a h13)) iz33 i40) fun a F => xN F rfl (fun w l => r_not F rfl) fun a F => xN F rfl (fun w l => r_pickf F rfl rfl) fun a F => xN F rfl (fun w l => vO F rfl) fun a F => kA fun w H => xG ?_
  exact ⟨(!z41), (Option.some.inj hR).symm, F.sub (sc rfl sn), (H.s [] rfl rfl)⟩
 intro a w ⟨s30, ho29, F, H⟩
 subst ho29
 have hR := xZ hk28
 refine xG (xW (xR F rfl (oO F rfl) ?_))
 obtain rfl := Option.some.inj hR
 exact ⟨rfl, H.bl⟩

def kG (x0 : List Atom) (x1 : Atom → Option Bool) : Option Int :=
 kJ (σ := Unit) (
  qT (σ := Unit) (ρ := Int) (fun (k25 : Nat) (x27 : Atom) (s : Unit) =>
    match s with
    | _ =>
    oJ (x1 x27) fun z35 =>
    if z35 then
     some (.ret ((k25 : Int)))
    else
     some (.go ())) x0 0 ()) fun _ =>
 some ((-1))
theorem slices_IndexFunc_s_Atom_Atom_c {B : Nat → Prop} {x0 : List Atom} {x1 : Atom → Option Bool} (r : Int) (hR : kG x0 x1 = some r) {v0 : Value} {g1 : FuncId} {lb1 : List Value} (w0 : World) (hN : ∀ c, B c → c < w0.heap.size) (A0 : Bo B w0 (Sl 2 xU) v0 x0) (hg1 : ∀ args w, (callFunc g1 args).run Tryz.prog w = .ok (.enter g1 args) w) (hp1 : ∀ (a0 : Atom) (r : Bool), x1 a0 = some r → ∀ W, Below w0.heap.size w0 W → ∀ (u0 : Value), Bo (All W) W (qH 2 xU) u0 a0 → Calls Tryz.prog g1 ([u0] ++ lb1 : List Value).toArray W (vR (.bool r) W)) : Calls Tryz.prog 226 #[v0, .func (.func g1) #[] lb1.toArray] w0 (SaysI r w0) := by
 unfold kG at hR
 refine oD (L := [(0, v0), (1, .func (.func g1) #[] lb1.toArray)]) func226 rfl rfl rfl (sc rfl (sc rfl sn)) (fun a F => ?_)
 have H := Sep.start hN
 refine xC (xH (xA F rfl rfl fun a F => xF (xG (xC (xC (xH (xB F rfl rfl fun a F => oL underlying93 F rfl rfl A0 fun a i11 F => xB F rfl rfl (fun a F => ?_))))))))
 refine xF (xG ?_)
 obtain ⟨o19, hR, hk20⟩ := xS hR
 refine oQ (fun a w => o19 = .nx () ∧ Sk a 19 [] ∧ Sep [] B w0 w []) ?_ ?_
 ·
  refine oU ?_
  obtain ⟨fl23, hf24, hR⟩ := qP hR
  refine qU (fun g a w => ∃ (k25 : Nat) (rest26 : List Atom), (k25 ≤ x0.length ∧ x0.drop k25 = rest26) ∧ rest26.length = g ∧ qT fl23 rest26 k25 () = some o19 ∧ Sk a 19 [(8, .int .i64 (k25 : Int)), (0, v0), (1, .func (.func g1) #[] lb1.toArray), (7, .int .i64 (x0.length : Int))] ∧ Sep [] B w0 w []) x0.length ?_ ?_
  ·
   exact ⟨0, x0, ⟨Nat.zero_le _, rfl⟩, rfl, hR, F.sub (sc rfl (sc rfl (sc rfl (sc rfl sn)))), H⟩
  intro g28 a w ⟨k25, rest26, hd29, hg30, hR, F, H⟩
  cases rest26 with
  | nil =>
   replace hR := qS hR
   have hkk25 := qR hd29.1 hd29.2
   have hlk25 := vW hkk25
   refine xC (xH (oR F rfl rfl rfl fun a F => xF (xG (xC (vV F rfl hlk25 (qK (qQ (qQ (zT ?_)))))))))
   refine xG ?_
   exact ⟨(Option.some.inj hR).symm, F.sub sn, H⟩
  | cons x27 rest26 =>
   subst hg30
   replace hd29 := qD hd29.2
   have hxk25 := qG hd29.2.1
   obtain ⟨ck25, hR, hn22⟩ := qC hR
   rw [hf24] at hR
   have hlk25 := vA hd29.1
   refine xC (xH (oR F rfl rfl rfl fun a F => xF (xG (xC (vZ F rfl hlk25 (xO (xG (xC ?_))))))))
   have ikk25 := k64 (Nat.le_of_lt hd29.1) i11
   have ink25 := zW hd29.1 i11
   refine oU (xC (xH (xB F rfl rfl fun a F => xA F rfl rfl fun a F => xF (xG (xC (xH (xB F rfl rfl fun a F => xB F rfl rfl (fun a F => ?_))))))))
   refine xB F rfl rfl fun a F => oI underlying93 sizeOf158 F rfl rfl rfl A0 hxk25 fun a p31 h32 F => olA isAgg158 sizeOf158 F rfl rfl H.sm h32 (fun a v33 h34 F => ?_)
   obtain ⟨z35, c36, hR⟩ := xI hR
   refine oKV F rfl rfl hg1 rfl H (hp1 _ z35 c36 _ H.bl _ (H.a h34)) fun a w H F => xF (xG (vC F rfl (fun hb37 => ?_) (fun hb37 => ?_)))
   ·
    replace hR := zD hb37 hR
    refine xC (xH (xB F rfl rfl fun a F => xA F rfl rfl fun a F => xF (xG (xW (kB (oV (oV ?_)))))))
    replace hR := l_ret hR hn22
    refine kB (oV ?_)
    replace hR := j_ret hR hk20
    refine oV (xR F rfl (oO F rfl) ?_)
    obtain rfl := Option.some.inj hR
    exact ⟨⟨rfl, H.bl⟩, ikk25⟩
   replace hR := zE hb37 hR
   refine xO (zN (xG (xH (vM F rfl rfl rfl ink25 fun a F => xB F rfl rfl fun a F => xF (xG ?_)))))
   replace hR := zH hR hn22
   exact ⟨_, Nat.lt_succ_self _, k25 + 1, rest26, ⟨hd29.1, hd29.2.2⟩, rfl, hR, F.sub (sc rfl (sc rfl (sc rfl (sc rfl sn)))), H⟩
 intro a w ⟨ho21, F, H⟩
 subst ho21
 have hR := xZ hk20
 refine xG (xC (xH (xA F rfl rfl fun a F => xF (xG (xW (xR F rfl (oO F rfl) ?_))))))
 obtain rfl := Option.some.inj hR
 exact ⟨⟨rfl, H.bl⟩, (show xY (-1) by decide)⟩

def vQ (x0 : List Atom) (x1 : Atom → Option Bool) : Option Bool :=
 oJ (kG x0 x1) fun z11 =>
 some ((decide (0 ≤ z11)))
theorem slices_ContainsFunc_s_Atom_Atom_c {B : Nat → Prop} {x0 : List Atom} {x1 : Atom → Option Bool} (r : Bool) (hR : vQ x0 x1 = some r) {v0 : Value} {g1 : FuncId} {lb1 : List Value} (w0 : World) (hN : ∀ c, B c → c < w0.heap.size) (A0 : Bo B w0 (Sl 2 xU) v0 x0) (hg1 : ∀ args w, (callFunc g1 args).run Tryz.prog w = .ok (.enter g1 args) w) (hp1 : ∀ (a0 : Atom) (r : Bool), x1 a0 = some r → ∀ W, Below w0.heap.size w0 W → ∀ (u0 : Value), Bo (All W) W (qH 2 xU) u0 a0 → Calls Tryz.prog g1 ([u0] ++ lb1 : List Value).toArray W (vR (.bool r) W)) : Calls Tryz.prog 178 #[v0, .func (.func g1) #[] lb1.toArray] w0 (vR (.bool r) w0) := by
 unfold vQ at hR
 refine oD (L := [(0, v0), (1, .func (.func g1) #[] lb1.toArray)]) func178 rfl rfl rfl (sc rfl (sc rfl sn)) (fun a F => ?_)
 have H := Sep.start hN
 refine xC (xH (xA F rfl rfl fun a F => xF (xG (xC (xH (xB F rfl rfl fun a F => xB F rfl rfl (fun a F => ?_)))))))
 obtain ⟨z11, c12, hR⟩ := xI hR
 refine oKI F rfl call226 rfl H (slices_IndexFunc_s_Atom_Atom_c z11 c12 _ aA (H.a A0) hg1 (fun a0 r h W l1 => hp1 a0 r h W (H.bl.trans (l1.mono H.fr.size)))) fun a w H iz11 F => o_geq F rfl rfl rfl fun a F => xA F rfl rfl fun a F => xF (xG (xW (xR F rfl (oO F rfl) ?_)))
 obtain rfl := Option.some.inj hR
 exact ⟨rfl, H.bl⟩

def impl_ValidFormula (x0 : Template) (x1 : Formula) : Option Bool :=
 kJ (σ := Bool) (
  oJ (vK (Template.mk x0.size x0.rels)) fun z32 =>
  if z32 then  oJ (impl_isFrame (Formula.mk x1.free x1.vars x1.atoms)) fun z35 =>
   if z35 then  oJ (vQ x1.atoms (fun a0 => impl_ValidFormula_1 a0 (Template.mk x0.size x0.rels) (Formula.mk x1.free x1.vars x1.atoms))) fun z38 =>
    some (.nx (!z38)) else  some (.nx false) else  some (.nx false)) fun s31 =>
 some s31
theorem impl_ValidFormula_c {B : Nat → Prop} {x0 : Template} {x1 : Formula} (r : Bool) (hR : impl_ValidFormula x0 x1 = some r) {v0 : Value} {v1 : Value} (w0 : World) (hN : ∀ c, B c → c < w0.heap.size) (A0 : Bo B w0 (qH 2 xJ) v0 x0) (A1 : Bo B w0 (qH 3 xL) v1 x1) : Calls Tryz.prog 101 #[v0, v1] w0 (vR (.bool r) w0) := by
 unfold impl_ValidFormula at hR
 refine oD (L := [(0, v0), (1, v1)]) func101 rfl rfl rfl (sc rfl (sc rfl sn)) (fun a F => ?_)
 have H := Sep.start hN
 refine xC (xH ?_)
 obtain ⟨v12, rfl, i11, h13⟩ := xJ.o A0
 refine oX F rfl rfl rfl H (fun a w b14 H F => ?_)
 obtain ⟨v17, rfl, i15, i16, h18⟩ := xL.o A1
 refine oX F rfl rfl rfl H fun a w b19 H F => xA F rfl rfl fun a F => xF (xG (xC ?_))
 obtain ⟨o28, hR, hk29⟩ := xS hR
 refine oQ (fun a w => ∃ (s31 : Bool), o28 = .nx s31 ∧ Sk a 18 [(4, .bool s31)] ∧ Sep [] B w0 w []) ?_ ?_
 ·
  refine xH (oBA isAgg33 sizeOf33 F rfl rfl (H.b 1 rfl) rfl rfl (fun a F => ?_))
  obtain ⟨z32, c33, hR⟩ := xI hR
  refine oK F rfl call100 rfl H (impl_ValidTemplate_c z32 c33 _ aA (xJ.m i11 (H.a h13))) fun a w H F => xB F rfl rfl (fun a F => ?_)
  rcases vD z32 with hb34 | hb34
  ·
   replace hR := zD hb34 hR
   have F := F.eq (t := 7) rfl (congrArg Value.bool hb34)
   refine oBA isAgg95 sizeOf95 F rfl rfl (H.b 0 rfl) rfl rfl (fun a F => ?_)
   obtain ⟨z35, c36, hR⟩ := xI hR
   refine oK F rfl call177 rfl H (impl_isFrame_c z35 c36 _ aA (xL.m i15 i16 (H.a h18))) fun a w H F => vH F rfl rfl rfl fun a F => xB F rfl rfl (fun a F => ?_)
   rcases vD z35 with hb37 | hb37
   ·
    replace hR := zD hb37 hR
    have F := F.eq (t := 11) rfl (congrArg Value.bool hb37)
    refine oM fa95_2 F rfl rfl rfl fun a F => oB isAgg93 F rfl rfl (H.b 0 rfl) rfl fun a F => o_func F rfl rfl rfl (fun a F => ?_)
    obtain ⟨z38, c39, hR⟩ := xI hR
    refine oK F rfl call178 rfl H (slices_ContainsFunc_s_Atom_Atom_c z38 c39 _ aA (H.a h18) call179 (fun a0 r h W l1 u0 f0 => impl_ValidFormula_1_c r h W aA f0 ((xJ.b (H.g 1 rfl).bk i11 (H.a h13)).w l1) ((xL.b (H.g 0 rfl).bk i15 i16 (H.a h18)).w l1))) fun a w H F => kE F rfl rfl fun a F => vH F rfl rfl rfl fun a F => xA F rfl rfl fun a F => xF (xG ?_)
    exact ⟨(!z38), (Option.some.inj hR).symm, F.sub (sc rfl sn), (H.s [] rfl rfl)⟩
   replace hR := zE hb37 hR
   have F := F.eq (t := 11) rfl (congrArg Value.bool hb37)
   refine oH F rfl rfl fun a F => oH F rfl rfl fun a F => oH F rfl rfl fun a F => oH F rfl rfl fun a F => oH F rfl rfl fun a F => qZ F rfl rfl rfl fun a F => xA F rfl rfl fun a F => xF (xG ?_)
   exact ⟨false, (Option.some.inj hR).symm, F.sub (sc rfl sn), (H.s [] rfl rfl)⟩
  replace hR := zE hb34 hR
  have F := F.eq (t := 7) rfl (congrArg Value.bool hb34)
  refine oH F rfl rfl fun a F => oH F rfl rfl fun a F => qZ F rfl rfl rfl fun a F => xB F rfl rfl fun a F => oH F rfl rfl fun a F => oH F rfl rfl fun a F => oH F rfl rfl fun a F => oH F rfl rfl fun a F => oH F rfl rfl fun a F => qZ F rfl rfl rfl fun a F => xA F rfl rfl (fun a F => ?_)
  refine xF (xG ?_)
  exact ⟨false, (Option.some.inj hR).symm, F.sub (sc rfl sn), (H.s [] rfl rfl)⟩
 intro a w ⟨s31, ho30, F, H⟩
 subst ho30
 have hR := xZ hk29
 refine xG (xW (xR F rfl (oO F rfl) ?_))
 obtain rfl := Option.some.inj hR
 exact ⟨rfl, H.bl⟩

def impl_areFormulas (x0 : Template) (x1 : Template) (x2 : Gadgets) : Option Bool :=
 kJ (σ := Bool) (
  oJ (vK (Template.mk x0.size x0.rels)) fun z35 =>
  if (!z35) then  some (.nx true) else  oJ (vK (Template.mk x1.size x1.rels)) fun z38 =>
   if (!z38) then  some (.nx true) else  if (x0.size != x1.size) then  some (.nx true) else  some (.nx ((x2.formulas.length : Int) != (x0.rels.length : Int)))) fun s34 =>
 if s34 then
  some false
 else
  kJ (σ := Unit) (
   qT (σ := Unit) (ρ := Bool) (fun (k86 : Nat) (x88 : Formula) (s : Unit) =>
     match s with
     | _ =>
     kJ (σ := Bool) (
      oJ (impl_ValidFormula (Template.mk x1.size x1.rels) (Formula.mk x88.free x88.vars x88.atoms)) fun z115 =>
      if (!z115) then  some (.nx true) else  oJ (ix x0.rels (k86 : Int)) fun z118 =>
       some (.nx (x88.free != z118.arity))) fun s114 =>
     if s114 then
      some (.ret false)
     else
      some (.go ())) x2.formulas 0 ()) fun _ =>
  some true
theorem impl_areFormulas_c {B : Nat → Prop} {x0 : Template} {x1 : Template} {x2 : Gadgets} (r : Bool) (hR : impl_areFormulas x0 x1 x2 = some r) {v0 : Value} {v1 : Value} {v2 : Value} (w0 : World) (hN : ∀ c, B c → c < w0.heap.size) (A0 : Bo B w0 (qH 2 xJ) v0 x0) (A1 : Bo B w0 (qH 2 xJ) v1 x1) (A2 : Bo B w0 (qH 1 xV) v2 x2) : Calls Tryz.prog 47 #[v0, v1, v2] w0 (vR (.bool r) w0) := by
 unfold impl_areFormulas at hR
 refine oD (L := [(0, v0), (1, v1), (2, v2)]) func47 rfl rfl rfl (sc rfl (sc rfl (sc rfl sn))) (fun a F => ?_)
 have H := Sep.start hN
 refine xC (xH ?_)
 obtain ⟨v12, rfl, i11, h13⟩ := xJ.o A0
 refine oX F rfl rfl rfl H (fun a w b14 H F => ?_)
 obtain ⟨v16, rfl, i15, h17⟩ := xJ.o A1
 refine oX F rfl rfl rfl H (fun a w b18 H F => ?_)
 obtain ⟨v19, rfl, h20⟩ := xV.o A2
 refine oX F rfl rfl rfl H fun a w b21 H F => xA F rfl rfl fun a F => xF (xG (xC (xC ?_)))
 obtain ⟨o31, hR, hk32⟩ := xS hR
 refine oQ (fun a w => ∃ (s34 : Bool), o31 = .nx s34 ∧ Sk a 57 [(3, .pointer (some ⟨b14, 0, none⟩)), (4, .pointer (some ⟨b18, 0, none⟩)), (5, .pointer (some ⟨b21, 0, none⟩)), (32, .bool s34)] ∧ Sep [] B w0 w [bx b21 [v19] 37, bx b18 [.int .i64 x1.size, v16] 33, bx b14 [.int .i64 x0.size, v12] 33]) ?_ ?_
 ·
  refine xH (oBA isAgg33 sizeOf33 F rfl rfl (H.b 2 rfl) rfl rfl (fun a F => ?_))
  obtain ⟨z35, c36, hR⟩ := xI hR
  refine oK F rfl call100 rfl H (impl_ValidTemplate_c z35 c36 _ aA (xJ.m i11 (H.a h13))) fun a w H F => kE F rfl rfl fun a F => xB F rfl rfl (fun a F => ?_)
  rcases vD (!z35) with hb37 | hb37
  ·
   replace hR := zD hb37 hR
   have F := F.eq (t := 12) rfl (congrArg Value.bool hb37)
   refine oH F rfl rfl fun a F => oH F rfl rfl fun a F => oH F rfl rfl fun a F => vH F rfl rfl rfl fun a F => xB F rfl rfl fun a F => oH F rfl rfl fun a F => oH F rfl rfl fun a F => oH F rfl rfl fun a F => oH F rfl rfl fun a F => oH F rfl rfl fun a F => vH F rfl rfl rfl (fun a F => ?_)
   refine xB F rfl rfl fun a F => oH F rfl rfl fun a F => oH F rfl rfl fun a F => oH F rfl rfl fun a F => oH F rfl rfl fun a F => oH F rfl rfl fun a F => oH F rfl rfl fun a F => oH F rfl rfl fun a F => vH F rfl rfl rfl fun a F => xF (xG ?_)
   exact ⟨true, (Option.some.inj hR).symm, F.sub (sc rfl (sc rfl (sc rfl (sc rfl sn)))), H⟩
  replace hR := zE hb37 hR
  have F := F.eq (t := 12) rfl (congrArg Value.bool hb37)
  refine oBA isAgg33 sizeOf33 F rfl rfl (H.b 1 rfl) rfl rfl (fun a F => ?_)
  obtain ⟨z38, c39, hR⟩ := xI hR
  refine oK F rfl call100 rfl H (impl_ValidTemplate_c z38 c39 _ aA (xJ.m i15 (H.a h17))) fun a w H F => kE F rfl rfl fun a F => qZ F rfl rfl rfl fun a F => xB F rfl rfl (fun a F => ?_)
  rcases vD (!z38) with hb40 | hb40
  ·
   replace hR := zD hb40 hR
   have F := F.eq (t := 17) rfl (congrArg Value.bool hb40)
   refine oH F rfl rfl fun a F => oH F rfl rfl fun a F => oH F rfl rfl fun a F => oH F rfl rfl fun a F => oH F rfl rfl fun a F => vH F rfl rfl rfl fun a F => xB F rfl rfl fun a F => oH F rfl rfl fun a F => oH F rfl rfl fun a F => oH F rfl rfl fun a F => oH F rfl rfl (fun a F => ?_)
   refine oH F rfl rfl fun a F => oH F rfl rfl fun a F => oH F rfl rfl fun a F => vH F rfl rfl rfl fun a F => xF (xG ?_)
   exact ⟨true, (Option.some.inj hR).symm, F.sub (sc rfl (sc rfl (sc rfl (sc rfl sn)))), H⟩
  replace hR := zE hb40 hR
  have F := F.eq (t := 17) rfl (congrArg Value.bool hb40)
  refine oM fa33_0 F rfl rfl rfl fun a F => oB isAgg2 F rfl rfl (H.b 2 rfl) rfl fun a F => oM fa33_0 F rfl rfl rfl fun a F => oB isAgg2 F rfl rfl (H.b 1 rfl) rfl fun a F => o_neq F rfl rfl rfl fun a F => qZ F rfl rfl rfl fun a F => xB F rfl rfl (fun a F => ?_)
  rcases vD (x0.size != x1.size) with hb41 | hb41
  ·
   replace hR := zD hb41 hR
   have F := F.eq (t := 24) rfl (congrArg Value.bool hb41)
   refine oH F rfl rfl fun a F => oH F rfl rfl fun a F => oH F rfl rfl fun a F => oH F rfl rfl fun a F => oH F rfl rfl fun a F => oH F rfl rfl fun a F => oH F rfl rfl fun a F => vH F rfl rfl rfl fun a F => xF (xG ?_)
   exact ⟨true, (Option.some.inj hR).symm, F.sub (sc rfl (sc rfl (sc rfl (sc rfl sn)))), H⟩
  replace hR := zE hb41 hR
  have F := F.eq (t := 24) rfl (congrArg Value.bool hb41)
  refine oM fa37_0 F rfl rfl rfl fun a F => oB isAgg35 F rfl rfl (H.b 0 rfl) rfl fun a F => oL underlying35 F rfl rfl h20 fun a i42 F => oM fa33_1 F rfl rfl rfl fun a F => oB isAgg31 F rfl rfl (H.b 2 rfl) rfl fun a F => oL underlying31 F rfl rfl h13 fun a i43 F => o_neq F rfl rfl rfl fun a F => qZ F rfl rfl rfl fun a F => xF (xG ?_)
  exact ⟨((x2.formulas.length : Int) != (x0.rels.length : Int)), (Option.some.inj hR).symm, F.sub (sc rfl (sc rfl (sc rfl (sc rfl sn)))), H⟩
 intro a w ⟨s34, ho33, F, H⟩
 subst ho33
 have hR := xZ hk32
 refine xG (vC F rfl (fun hb44 => ?_) (fun hb44 => ?_))
 ·
  replace hR := zD hb44 hR
  refine xC (xH (xA F rfl rfl fun a F => xF (xG (xW (oV (xR F rfl (oO F rfl) ?_))))))
  obtain rfl := Option.some.inj hR
  exact ⟨rfl, H.bl⟩
 replace hR := zE hb44 hR
 refine xO (xG (xC (xC (xH (oM fa37_0 F rfl rfl rfl fun a F => oB isAgg35 F rfl rfl (H.b 0 rfl) rfl fun a F => oL underlying35 F rfl rfl h20 fun a i45 F => xB F rfl rfl fun a F => xF (xG ?_))))))
 obtain ⟨o80, hR, hk81⟩ := xS hR
 refine oQ (fun a w => o80 = .nx () ∧ Sk a 57 [] ∧ Sep [] B w0 w []) ?_ ?_
 ·
  refine oU ?_
  obtain ⟨fl84, hf85, hR⟩ := qP hR
  refine qU (fun g a w => ∃ (k86 : Nat) (rest87 : List Formula), (k86 ≤ x2.formulas.length ∧ x2.formulas.drop k86 = rest87) ∧ rest87.length = g ∧ qT fl84 rest87 k86 () = some o80 ∧ Sk a 57 [(36, .int .i64 (k86 : Int)), (3, .pointer (some ⟨b14, 0, none⟩)), (4, .pointer (some ⟨b18, 0, none⟩)), (34, v19), (35, .int .i64 (x2.formulas.length : Int))] ∧ Sep [] B w0 w [bx b18 [.int .i64 x1.size, v16] 33, bx b14 [.int .i64 x0.size, v12] 33]) x2.formulas.length ?_ ?_
  ·
   exact ⟨0, x2.formulas, ⟨Nat.zero_le _, rfl⟩, rfl, hR, F.sub (sc rfl (sc rfl (sc rfl (sc rfl (sc rfl sn))))), (H.s [1, 2] rfl rfl)⟩
  intro g89 a w ⟨k86, rest87, hd90, hg91, hR, F, H⟩
  cases rest87 with
  | nil =>
   replace hR := qS hR
   have hkk86 := qR hd90.1 hd90.2
   have hlk86 := vW hkk86
   refine xC (xH (oR F rfl rfl rfl fun a F => xF (xG (xC (vV F rfl hlk86 (qK (qQ (qQ (zT ?_)))))))))
   refine xG ?_
   exact ⟨(Option.some.inj hR).symm, F.sub sn, (H.s [] rfl rfl)⟩
  | cons x88 rest87 =>
   subst hg91
   replace hd90 := qD hd90.2
   have hxk86 := qG hd90.2.1
   obtain ⟨ck86, hR, hn83⟩ := qC hR
   rw [hf85] at hR
   have hlk86 := vA hd90.1
   refine xC (xH (oR F rfl rfl rfl fun a F => xF (xG (xC (vZ F rfl hlk86 (xO (xG (xC ?_))))))))
   have ikk86 := k64 (Nat.le_of_lt hd90.1) i45
   have ink86 := zW hd90.1 i45
   refine oU (xC (xH (xB F rfl rfl fun a F => oI underlying35 sizeOf95 F rfl rfl rfl h20 hxk86 fun a p92 h93 F => olA isAgg95 sizeOf95 F rfl rfl H.sm h93 fun a v94 h95 F => oA zeroValue95 F rfl rfl H fun a w b96 H F => xA F rfl rfl (fun a F => ?_))))
   obtain ⟨v99, rfl, i97, i98, h100⟩ := xL.o h95
   refine oWA (vs := [.int .i64 x88.free, .int .i64 x88.vars, v99]) sizeOf95 F rfl rfl rfl H (oc rfl (oc rfl (oc (H.a h100).one on))) rfl rfl fun w H => xF (xG (xC ?_))
   obtain ⟨o111, hR, hk112⟩ := xS hR
   refine oQ (fun a w => ∃ (s114 : Bool), o111 = .nx s114 ∧ Sk a 57 [(3, .pointer (some ⟨b14, 0, none⟩)), (4, .pointer (some ⟨b18, 0, none⟩)), (34, v19), (35, .int .i64 (x2.formulas.length : Int)), (36, .int .i64 (k86 : Int)), (55, .bool s114)] ∧ Sep [] B w0 w [bx b18 [.int .i64 x1.size, v16] 33, bx b14 [.int .i64 x0.size, v12] 33]) ?_ ?_
   ·
    refine xQ H (by kernel_rfl) (by kernel_rfl) (qBA isAgg33 sizeOf33 F rfl rfl (H.qb 1 rfl) rfl rfl fun a F => qBA isAgg95 sizeOf95 F rfl rfl (H.qb 0 rfl) rfl rfl (fun a F => ?_))
    obtain ⟨z115, c116, hR⟩ := xI hR
    refine q_says F rfl call101 rfl (fun w w' h l => l.through h) (fun w l => impl_ValidFormula_c z115 c116 w aA (xJ.m i15 ((H.go l).a h17)) (xL.m i97 i98 ((H.go l).a h100))) fun a F => xN F rfl (fun w l => r_not F rfl) fun a F => xN F rfl (fun w l => xP F rfl) (fun a F => ?_)
    rcases vD (!z115) with hb117 | hb117
    ·
     replace hR := zD hb117 hR
     have F := F.eq (t := 45) rfl (congrArg Value.bool hb117)
     refine oE F rfl rfl fun a F => oE F rfl rfl fun a F => oE F rfl rfl fun a F => oE F rfl rfl fun a F => oE F rfl rfl fun a F => oE F rfl rfl fun a F => oE F rfl rfl fun a F => oE F rfl rfl fun a F => oE F rfl rfl fun a F => xN F rfl (fun w l => kM F rfl rfl) fun a F => kA (fun w H => ?_)
     refine xG ?_
     exact ⟨true, (Option.some.inj hR).symm, F.sub (sc rfl (sc rfl (sc rfl (sc rfl (sc rfl (sc rfl sn)))))), (H.s [1, 2] rfl rfl)⟩
    replace hR := zE hb117 hR
    have F := F.eq (t := 45) rfl (congrArg Value.bool hb117)
    refine xN F rfl (fun w l => zJ fa95_0 F rfl rfl) fun a F => qB isAgg2 F rfl rfl (H.qb 0 rfl) rfl fun a F => xN F rfl (fun w l => zJ fa33_1 F rfl rfl) fun a F => qB isAgg31 F rfl rfl (H.qb 2 rfl) rfl fun a F => xN F rfl (fun w l => xP F rfl) (fun a F => ?_)
    obtain ⟨z118, c119, hR⟩ := xI hR
    refine qI underlying31 sizeOf84 F rfl rfl rfl h13 c119 fun a p120 h121 F => qF (s' := 1) fa84_0 F rfl rfl h121 qE.f0 fun a p122 h123 F => qlI isAgg2 F rfl rfl H.q h123 fun a i124 F => xN F rfl (fun w l => r_neq F rfl rfl) fun a F => xN F rfl (fun w l => r_pickf F rfl rfl) fun a F => kA fun w H => xG ?_
    exact ⟨(x88.free != z118.arity), (Option.some.inj hR).symm, F.sub (sc rfl (sc rfl (sc rfl (sc rfl (sc rfl (sc rfl sn)))))), (H.s [1, 2] rfl rfl)⟩
   intro a w ⟨s114, ho113, F, H⟩
   subst ho113
   have hR := xZ hk112
   refine xG (vC F rfl (fun hb125 => ?_) (fun hb125 => ?_))
   ·
    replace hR := zD hb125 hR
    refine xC (xH (xA F rfl rfl fun a F => xF (xG (xW (kB (oV (oV ?_)))))))
    replace hR := l_ret hR hn83
    refine kB (oV ?_)
    replace hR := j_ret hR hk81
    refine oV (xR F rfl (oO F rfl) ?_)
    obtain rfl := Option.some.inj hR
    exact ⟨rfl, H.bl⟩
   replace hR := zE hb125 hR
   refine xO (zN (xG (xH (vM F rfl rfl rfl ink86 fun a F => xB F rfl rfl fun a F => xF (xG ?_)))))
   replace hR := zH hR hn83
   exact ⟨_, Nat.lt_succ_self _, k86 + 1, rest87, ⟨hd90.1, hd90.2.2⟩, rfl, hR, F.sub (sc rfl (sc rfl (sc rfl (sc rfl (sc rfl sn))))), H⟩
 intro a w ⟨ho82, F, H⟩
 subst ho82
 have hR := xZ hk81
 refine xG (xC (xH (xA F rfl rfl fun a F => xF (xG (xW (xR F rfl (oO F rfl) ?_))))))
 obtain rfl := Option.some.inj hR
 exact ⟨rfl, H.bl⟩

def zM (x0 : List Int) : Option Int :=
 kJ (σ := Unit) (
  if (decide ((x0.length : Int) < 1)) then
   none
  else
   some (.nx ())) fun _ =>
 oJ (ix x0 0) fun z17 =>
 kJ (σ := Int) (
  kT (σ := Int) (ρ := Int) (fun (k41 : Nat) (s37 : Int) =>
   oJ (ix x0 (1 + (k41 : Int))) fun z48 =>
   some (.go (if s37 < z48 then z48 else s37))) ((x0.length : Int) - 1).toNat 0 z17) fun s39 =>
 some s39
theorem slices_Max_s_int64_int64_c {B : Nat → Prop} {x0 : List Int} (r : Int) (hR : zM x0 = some r) {v0 : Value} (w0 : World) (hN : ∀ c, B c → c < w0.heap.size) (A0 : Bo B w0 (Sl 1 xK) v0 x0) : Calls Tryz.prog 219 #[v0] w0 (SaysI r w0) := by
 unfold zM at hR
 refine oD (L := [(0, v0)]) func219 rfl rfl rfl (sc rfl sn) (fun a F => ?_)
 have H := Sep.start hN
 refine xC (xH (xA F rfl rfl fun a F => xF (xG (xC (xC (xH (xB F rfl rfl fun a F => oL underlying42 F rfl rfl A0 fun a i11 F => oR F rfl rfl rfl (fun a F => ?_))))))))
 refine xF (xG ?_)
 obtain ⟨o13, hR, hk14⟩ := xS hR
 refine oQ (fun a w => o13 = .nx () ∧ Sk a 25 [(0, v0)] ∧ Sep [] B w0 w []) ?_ ?_
 ·
  refine vC F rfl (fun hb16 => ?_) (fun hb16 => ?_)
  ·
   replace hR := zD hb16 hR
   cases hR
  replace hR := zE hb16 hR
  refine xO (xG ?_)
  exact ⟨(Option.some.inj hR).symm, F.sub (sc rfl sn), H⟩
 intro a w ⟨ho15, F, H⟩
 subst ho15
 have hR := xZ hk14
 refine xG (xC (xH (xB F rfl rfl (fun a F => ?_))))
 obtain ⟨z17, c18, hR⟩ := xI hR
 refine oI underlying42 sizeOf2 F rfl rfl rfl A0 c18 fun a p19 h20 F => olI isAgg2 F rfl rfl H.sm h20 fun a i21 F => xA F rfl rfl fun a F => xF (xG (xC (xC (xH (xA F rfl rfl fun a F => xF (xG ?_))))))
 obtain ⟨o31, hR, hk32⟩ := xS hR
 refine oQ (fun a w => ∃ (s39 : Int), o31 = .nx s39 ∧ Sk a 25 [(3, .int .i64 s39)] ∧ Sep [] B w0 w [] ∧ xY s39) ?_ ?_
 ·
  refine oU ?_
  obtain ⟨fl35, hf36, hR⟩ := forI_gen hR
  refine qU (fun g a w => ∃ (k41 : Nat) (s37 : Int), k41 + g = ((x0.length : Int) - 1).toNat ∧ kT fl35 g k41 s37 = some o31 ∧ Sk a 25 [(4, .int .i64 (1 + (k41 : Int))), (0, v0), (3, .int .i64 s37)] ∧ Sep [] B w0 w [] ∧ xY s37) ((x0.length : Int) - 1).toNat ?_ ?_
  ·
   exact ⟨0, z17, (Nat.zero_add _), hR, F.sub (sc rfl (sc rfl (sc rfl sn))), H, i21⟩
  intro g44 a w ⟨k41, s37, hd45, hR, F, H, i38⟩
  cases g44 with
  | zero =>
   replace hR := forI_zero hR
   have hlk41 := dec_noIO hd45
   refine xC (xC (xH (xB F rfl rfl fun a F => xB F rfl rfl fun a F => oL underlying42 F rfl rfl A0 fun a i53 F => oR F rfl rfl rfl fun a F => xF (xG (vV F rfl hlk41 (qK ?_))))))
   refine qQ (qQ (zT (xG ?_)))
   exact ⟨s37, (Option.some.inj hR).symm, F.sub (sc rfl sn), H, i38⟩
  | succ g44 =>
   obtain ⟨ck41, hR, hn34⟩ := forI_succ hR
   rw [hf36] at hR
   have hlk41 := dec_yesIO hd45
   refine xC (xC (xH (xB F rfl rfl fun a F => xB F rfl rfl fun a F => oL underlying42 F rfl rfl A0 fun a i47 F => oR F rfl rfl rfl fun a F => xF (xG (vZ F rfl hlk41 (xO ?_))))))
   refine xG (xC ?_)
   have ikk41 := k64O hd45 (show xY (1) by decide) i47
   have ink41 := inc64O hd45 (show xY (1) by decide) i47
   refine oU (xH (xB F rfl rfl fun a F => xB F rfl rfl fun a F => xB F rfl rfl (fun a F => ?_)))
   obtain ⟨z48, c49, hR⟩ := xI hR
   refine oI underlying42 sizeOf2 F rfl rfl rfl A0 c49 fun a p50 h51 F => olI isAgg2 F rfl rfl H.sm h51 fun a i52 F => o_max F rfl rfl rfl fun a F => xA F rfl rfl fun a F => xF (zN (xG (xH (xB F rfl rfl fun a F => o_incO F rfl rfl rfl ink41 fun a F => xA F rfl rfl (fun a F => ?_)))))
   refine xF (xG ?_)
   replace hR := zH hR hn34
   exact ⟨_, Nat.lt_succ_self _, k41 + 1, (if s37 < z48 then z48 else s37), (by omega), hR, F.sub (sc rfl (sc rfl (sc rfl sn))), H, (max64 i38 i52)⟩
 intro a w ⟨s39, ho33, F, H, i40⟩
 subst ho33
 have hR := xZ hk32
 refine xG (xC (xH (xB F rfl rfl fun a F => xA F rfl rfl fun a F => xF (xG (xW (xR F rfl (oO F rfl) ?_))))))
 obtain rfl := Option.some.inj hR
 exact ⟨⟨rfl, H.bl⟩, i40⟩

def impl_chosen (x0 : List Int) (x1 : List Int) : Option (List Int) :=
 kJ (σ := (List Int)) (
  qT (σ := (List Int)) (ρ := (List Int)) (fun (k43 : Nat) (x45 : Int) (s37 : (List Int)) =>
   oJ (ix x0 x45) fun z52 =>
   oJ (ap s37 ([z52])) fun z59 =>
   some (.go z59)) x1 0 []) fun s40 =>
 some s40
theorem impl_chosen_c {B : Nat → Prop} {x0 : List Int} {x1 : List Int} (r : (List Int)) (hR : impl_chosen x0 x1 = some r) {v0 : Value} {v1 : Value} (w0 : World) (hN : ∀ c, B c → c < w0.heap.size) (A0 : Bo B w0 (Sl 1 xK) v0 x0) (A1 : Bo B w0 (Sl 1 xK) v1 x1) : Calls Tryz.prog 77 #[v0, v1] w0 (Gv (fun v w' => ∃ (v1' : Value), v = v1' ∧ Sep [] B w0 w' [rl 1 xK 2 v1' r])) := by
 unfold impl_chosen at hR
 refine oD (L := [(0, v0), (1, v1)]) func77 rfl rfl rfl (sc rfl (sc rfl sn)) (fun a F => ?_)
 have H := Sep.start hN
 refine xC (xH (xA F rfl rfl fun a F => xF (xG (xC (xH (oR0 (R := xK) underlying42 sizeOf2 F rfl H fun a w v11 H F => xA F rfl rfl fun a F => xF (xG ?_)))))))
 refine xC (xC (xH (xB F rfl rfl fun a F => oL underlying42 F rfl rfl A1 fun a i13 F => xB F rfl rfl fun a F => xF (xG ?_))))
 obtain ⟨o31, hR, hk32⟩ := xS hR
 refine oQ (fun a w => ∃ (s40 : List Int) (v42 : Value), o31 = .nx s40 ∧ Sk a 24 [(5, v42)] ∧ Sep [] B w0 w [rl 1 xK 2 v42 s40]) ?_ ?_
 ·
  refine oU ?_
  obtain ⟨fl35, hf36, hR⟩ := qP hR
  refine qU (fun g a w => ∃ (k43 : Nat) (rest44 : List Int) (s37 : List Int) (v39 : Value), (k43 ≤ x1.length ∧ x1.drop k43 = rest44) ∧ rest44.length = g ∧ qT fl35 rest44 k43 s37 = some o31 ∧ Sk a 24 [(11, .int .i64 (k43 : Int)), (0, v0), (5, v39), (9, v1), (10, .int .i64 (x1.length : Int))] ∧ Sep [] B w0 w [rl 1 xK 2 v39 s37]) x1.length ?_ ?_
  ·
   exact ⟨0, x1, [], v11, ⟨Nat.zero_le _, rfl⟩, rfl, hR, F.sub (sc rfl (sc rfl (sc rfl (sc rfl (sc rfl sn))))), H⟩
  intro g46 a w ⟨k43, rest44, s37, v39, hd47, hg48, hR, F, H⟩
  cases rest44 with
  | nil =>
   replace hR := qS hR
   have hkk43 := qR hd47.1 hd47.2
   have hlk43 := vW hkk43
   refine xC (xH (oR F rfl rfl rfl fun a F => xF (xG (xC (vV F rfl hlk43 (qK (qQ (qQ (zT ?_)))))))))
   refine xG ?_
   exact ⟨s37, v39, (Option.some.inj hR).symm, F.sub (sc rfl sn), H⟩
  | cons x45 rest44 =>
   subst hg48
   replace hd47 := qD hd47.2
   have hxk43 := qG hd47.2.1
   obtain ⟨ck43, hR, hn34⟩ := qC hR
   rw [hf36] at hR
   have hlk43 := vA hd47.1
   refine xC (xH (oR F rfl rfl rfl fun a F => xF (xG (xC (vZ F rfl hlk43 (xO (xG (xC ?_))))))))
   have ikk43 := k64 (Nat.le_of_lt hd47.1) i13
   have ink43 := zW hd47.1 i13
   refine oU (xC (xH (oI underlying42 sizeOf2 F rfl rfl rfl A1 hxk43 fun a p49 h50 F => olI isAgg2 F rfl rfl H.sm h50 fun a i51 F => xA F rfl rfl fun a F => xF (xG (xH (xB F rfl rfl fun a F => xB F rfl rfl (fun a F => ?_)))))))
   refine xB F rfl rfl (fun a F => ?_)
   obtain ⟨z52, c53, hR⟩ := xI hR
   refine oI underlying42 sizeOf2 F rfl rfl rfl A0 c53 fun a p54 h55 F => olI isAgg2 F rfl rfl H.sm h55 fun a i56 F => oR1z (R := xK) (y := z52) underlying42 sizeOf2 zeroValue2 rfl rfl F rfl rfl H (Eo.int i56) (fun a w v57 H F => ?_)
   obtain ⟨z59, c60, hR⟩ := xI hR
   refine oPL (sz := 1) (R := xK) (z := (.int .i64 0)) (bytes := 8) underlying42 (by kernel_rfl) rfl rfl F rfl rfl rfl (H.s [1, 0] rfl rfl) c60 fun a w v61 H F => xA F rfl rfl fun a F => xF (zN (xG (xH (vM F rfl rfl rfl ink43 fun a F => xB F rfl rfl fun a F => xF (xG ?_)))))
   replace hR := zH hR hn34
   exact ⟨_, Nat.lt_succ_self _, k43 + 1, rest44, z59, v61, ⟨hd47.1, hd47.2.2⟩, rfl, hR, F.sub (sc rfl (sc rfl (sc rfl (sc rfl (sc rfl sn))))), H⟩
 intro a w ⟨s40, v42, ho33, F, H⟩
 subst ho33
 have hR := xZ hk32
 refine xG (xC (xH (xB F rfl rfl fun a F => xA F rfl rfl fun a F => xF (xG (xW (xR F rfl (oO F rfl) ?_))))))
 obtain rfl := Option.some.inj hR
 exact ⟨_, rfl, v42, rfl, H⟩

def qW (N : Nat) (x0 : List (List Int)) (x1 : List Int) (x2 : (List Int) → (List Int) → Option Int) : Option (Int × Bool) :=
 kJ (σ := Int × Int) (
  whl (σ := Int × Int) (ρ := Int × Bool) (fun (s : Int × Int) =>
    match s with
    | (s39, s41) =>
    if (decide (s39 < s41)) then
     oJ (ck (s39 + s41)) fun z54 =>
     oJ (nn z54) fun z56 =>
     oJ (ix x0 (z56 / 2)) fun z59 =>
     oJ (x2 z59 x1) fun z65 =>
     if (decide (z65 < 0)) then
      oJ (ck ((z56 / 2) + 1)) fun z68 =>
      some (.go (z68, s41))
     else
      some (.go (s39, (z56 / 2)))
    else
     some (.brk (s39, s41))) N (0, (x0.length : Int))) fun (s43, s45) =>
 kJ (σ := Int × Bool) (
  if (decide (s43 < (x0.length : Int))) then  oJ (ix x0 s43) fun z86 =>
   oJ (x2 z86 x1) fun z92 =>
   some (.nx (s43, (z92 == 0))) else  some (.nx (s43, false))) fun (s82, s84) =>
 some (s82, s84)
theorem slices_BinarySearchFunc_s_s_int64_s_int64_s_int64_c {B : Nat → Prop} {N : Nat} {x0 : List (List Int)} {x1 : List Int} {x2 : (List Int) → (List Int) → Option Int} (r : Int × Bool) (hR : qW N x0 x1 x2 = some r) {v0 : Value} {v1 : Value} {g2 : FuncId} {lb2 : List Value} (w0 : World) (hN : ∀ c, B c → c < w0.heap.size) (A0 : Bo B w0 (Sl 1 (RSl 1 xK)) v0 x0) (A1 : Bo B w0 (Sl 1 xK) v1 x1) (hg2 : ∀ args w, (callFunc g2 args).run Tryz.prog w = .ok (.enter g2 args) w) (hp2 : ∀ (a0 : List Int) (a1 : List Int) (r : Int), x2 a0 a1 = some r → ∀ W, Below w0.heap.size w0 W → ∀ (u0 : Value) (u1 : Value), Bo (All W) W (Sl 1 xK) u0 a0 → Bo (All W) W (Sl 1 xK) u1 a1 → Calls Tryz.prog g2 ([u0, u1] ++ lb2 : List Value).toArray W (SaysI r W)) : Calls Tryz.prog 185 #[v0, v1, .func (.func g2) #[] lb2.toArray] w0 (Gv (fun v w' => v = .tuple #[.int .i64 r.1, .bool r.2] ∧ Sep [] B w0 w' [] ∧ xY r.1)) := by
 unfold qW at hR
 refine oD (L := [(0, v0), (1, v1), (2, .func (.func g2) #[] lb2.toArray)]) func185 rfl rfl rfl (sc rfl (sc rfl (sc rfl sn))) (fun a F => ?_)
 have H := Sep.start hN
 refine xC (xH (xA F rfl rfl fun a F => xA F rfl rfl fun a F => xF (xG (xC (xH (xB F rfl rfl fun a F => oL underlying82 F rfl rfl A0 fun a i11 F => xA F rfl rfl (fun a F => ?_)))))))
 refine xF (xG (xC (xH (xB F rfl rfl fun a F => xA F rfl rfl fun a F => xA F rfl rfl fun a F => xF (xG (xC ?_))))))
 obtain ⟨o33, hR, hk34⟩ := xS hR
 refine oQ (fun a w => ∃ (s43 : Int) (s45 : Int), o33 = .nx (s43, s45) ∧ Sk a 49 [(0, v0), (1, v1), (2, .func (.func g2) #[] lb2.toArray), (8, .int .i64 (x0.length : Int)), (9, .int .i64 s43)] ∧ Sep [] B w0 w [] ∧ xY s43 ∧ xY s45) ?_ ?_
 ·
  refine oU ?_
  obtain ⟨fl37, hf38, hR⟩ := whl_gen hR
  refine qU (fun g a w => ∃ (s39 : Int) (s41 : Int), whl fl37 g (s39, s41) = some o33 ∧ Sk a 49 [(0, v0), (1, v1), (2, .func (.func g2) #[] lb2.toArray), (8, .int .i64 (x0.length : Int)), (9, .int .i64 s39), (10, .int .i64 s41)] ∧ Sep [] B w0 w [] ∧ xY s39 ∧ xY s41) N ?_ ?_
  ·
   exact ⟨0, (x0.length : Int), hR, F.sub (sc rfl (sc rfl (sc rfl (sc rfl (sc rfl (sc rfl sn)))))), H, (show xY (0) by decide), i11⟩
  intro g50 a w ⟨s39, s41, hR, F, H, i40, i42⟩
  obtain ⟨ck47, rest48, hg52, hR, hn36⟩ := whl_round hR
  rw [hf38] at hR
  refine xC (xC (xH (xB F rfl rfl fun a F => xB F rfl rfl fun a F => oR F rfl rfl rfl fun a F => xF (xG (vC F rfl (fun hb53 => ?_) (fun hb53 => ?_))))))
  ·
   replace hR := zD hb53 hR
   refine xO (xG (oU (xC (xH (xB F rfl rfl fun a F => xB F rfl rfl (fun a F => ?_))))))
   obtain ⟨z54, c55, hR⟩ := xI hR
   refine o_add F rfl rfl rfl c55 (fun a F => ?_)
   obtain ⟨z56, c57, hR⟩ := xI hR
   have i58 : xY z56 := by rw [(nn_some c57).2]; exact (ck64 c55)
   refine oU1 underlying3 underlying189 F rfl rfl (ck64 c55) c57 fun a F => oU2 F rfl rfl fun a F => oU3 underlying189 underlying3 F rfl rfl (half64 i58 (nn_some (show nn z56 = some z56 by rw [(nn_some c57).2]; exact ((nn_some c57).2.symm ▸ c57))).1) fun a F => xA F rfl rfl fun a F => xF (xG (xC (xH (xB F rfl rfl fun a F => xB F rfl rfl fun a F => xB F rfl rfl (fun a F => ?_)))))
   obtain ⟨z59, c60, hR⟩ := xI hR
   refine oI underlying82 sizeOf42 F rfl rfl rfl A0 c60 fun a p61 h62 F => olS isAgg42 F rfl rfl H.sm h62 fun a v63 h64 F => xB F rfl rfl (fun a F => ?_)
   obtain ⟨z65, c66, hR⟩ := xI hR
   refine oKIV F rfl rfl hg2 rfl H (hp2 _ _ z65 c66 _ H.bl _ _ (H.a h64) (H.a A1)) fun a w H iz65 F => oR F rfl rfl rfl fun a F => xF (xG (vC F rfl (fun hb67 => ?_) (fun hb67 => ?_)))
   ·
    replace hR := zD hb67 hR
    refine xH (xB F rfl rfl (fun a F => ?_))
    obtain ⟨z68, c69, hR⟩ := xI hR
    refine o_add F rfl rfl rfl c69 fun a F => xA F rfl rfl fun a F => xF (zN (xG ?_))
    replace hR := zH hR hn36
    exact ⟨rest48, (by omega), z68, s41, hR, F.sub (sc rfl (sc rfl (sc rfl (sc rfl (sc rfl (sc rfl sn)))))), H, (ck64 c69), i42⟩
   replace hR := zE hb67 hR
   refine xH (xB F rfl rfl fun a F => xA F rfl rfl fun a F => xF (zN (xG ?_)))
   replace hR := zH hR hn36
   exact ⟨rest48, (by omega), s39, (z56 / 2), hR, F.sub (sc rfl (sc rfl (sc rfl (sc rfl (sc rfl (sc rfl sn)))))), H, i40, (half64 i58 (nn_some (show nn z56 = some z56 by rw [(nn_some c57).2]; exact ((nn_some c57).2.symm ▸ c57))).1)⟩
  replace hR := zE hb53 hR
  refine qK (qQ (qQ ?_))
  replace hR := l_brk hR hn36
  refine zT (xG ?_)
  exact ⟨s39, s41, (Option.some.inj hR).symm, F.sub (sc rfl (sc rfl (sc rfl (sc rfl (sc rfl sn))))), H, i40, i42⟩
 intro a w ⟨s43, s45, ho35, F, H, i44, i46⟩
 subst ho35
 have hR := xZ hk34
 refine xG (xC ?_)
 obtain ⟨o79, hR, hk80⟩ := xS hR
 refine oQ (fun a w => ∃ (s82 : Int) (s84 : Bool), o79 = .nx (s82, s84) ∧ Sk a 49 [(6, .int .i64 s82), (7, .bool s84)] ∧ Sep [] B w0 w [] ∧ xY s82) ?_ ?_
 ·
  refine xH (xB F rfl rfl fun a F => xB F rfl rfl fun a F => xB F rfl rfl fun a F => oR F rfl rfl rfl fun a F => xB F rfl rfl (fun a F => ?_))
  rcases vD (decide (s43 < (x0.length : Int))) with hb85 | hb85
  ·
   replace hR := zD hb85 hR
   have F := F.eq (t := 39) rfl (congrArg Value.bool hb85)
   refine xB F rfl rfl fun a F => xB F rfl rfl fun a F => xB F rfl rfl (fun a F => ?_)
   obtain ⟨z86, c87, hR⟩ := xI hR
   refine oI underlying82 sizeOf42 F rfl rfl rfl A0 c87 fun a p88 h89 F => olS isAgg42 F rfl rfl H.sm h89 fun a v90 h91 F => xB F rfl rfl (fun a F => ?_)
   obtain ⟨z92, c93, hR⟩ := xI hR
   refine oKIV F rfl rfl hg2 rfl H (hp2 _ _ z92 c93 _ H.bl _ _ (H.a h91) (H.a A1)) fun a w H iz92 F => o_eql F rfl rfl rfl fun a F => vH F rfl rfl rfl fun a F => xA F rfl rfl fun a F => xA F rfl rfl fun a F => xF (xG ?_)
   exact ⟨s43, (z92 == 0), (Option.some.inj hR).symm, F.sub (sc rfl (sc rfl sn)), H, i44⟩
  replace hR := zE hb85 hR
  have F := F.eq (t := 39) rfl (congrArg Value.bool hb85)
  refine oH F rfl rfl fun a F => oH F rfl rfl fun a F => oH F rfl rfl fun a F => oH F rfl rfl fun a F => oH F rfl rfl fun a F => oH F rfl rfl fun a F => oH F rfl rfl fun a F => oH F rfl rfl fun a F => qZ F rfl rfl rfl fun a F => xA F rfl rfl fun a F => xA F rfl rfl (fun a F => ?_)
  refine xF (xG ?_)
  exact ⟨s43, false, (Option.some.inj hR).symm, F.sub (sc rfl (sc rfl sn)), H, i44⟩
 intro a w ⟨s82, s84, ho81, F, H, i83⟩
 subst ho81
 have hR := xZ hk80
 refine xG (xW (kY F rfl (oO F rfl) (oO F rfl) ?_))
 obtain rfl := Option.some.inj hR
 exact ⟨_, rfl, rfl, H, i83⟩

def impl_Rel_has_1 (x0 : List Int) (x1 : List Int) : Option Int :=
 oJ (vJ x0 x1) fun z11 =>
 some z11
theorem impl_Rel_has_1_c {B : Nat → Prop} {x0 : List Int} {x1 : List Int} (r : Int) (hR : impl_Rel_has_1 x0 x1 = some r) {v0 : Value} {v1 : Value} (w0 : World) (hN : ∀ c, B c → c < w0.heap.size) (A0 : Bo B w0 (Sl 1 xK) v0 x0) (A1 : Bo B w0 (Sl 1 xK) v1 x1) : Calls Tryz.prog 186 #[v0, v1] w0 (SaysI r w0) := by
 unfold impl_Rel_has_1 at hR
 refine oD (L := [(0, v0), (1, v1)]) func186 rfl rfl rfl (sc rfl (sc rfl sn)) (fun a F => ?_)
 have H := Sep.start hN
 refine xC (xH (xA F rfl rfl fun a F => xF (xG (xC (xH (xB F rfl rfl fun a F => xB F rfl rfl (fun a F => ?_)))))))
 obtain ⟨z11, c12, hR⟩ := xI hR
 refine oKI F rfl call187 rfl H (slices_Compare_s_int64_int64_c z11 c12 _ aA (H.a A0) (H.a A1)) fun a w H iz11 F => xA F rfl rfl fun a F => xF (xG (xW (xR F rfl (oO F rfl) ?_)))
 obtain rfl := Option.some.inj hR
 exact ⟨⟨rfl, H.bl⟩, iz11⟩

def impl_Rel_has (N : Nat) (x0 : Rel) (x1 : List Int) : Option Bool :=
 oJ (qW N x0.tuples x1 (fun a0 a1 => impl_Rel_has_1 a0 a1)) fun z15 =>
 some z15.2
theorem impl_Rel_has_c {B : Nat → Prop} {N : Nat} {x0 : Rel} {x1 : List Int} (r : Bool) (hR : impl_Rel_has N x0 x1 = some r) {v0 : Value} {v1 : Value} (w0 : World) (hN : ∀ c, B c → c < w0.heap.size) (A0 : Bo B w0 (qH 2 qE) v0 x0) (A1 : Bo B w0 (Sl 1 xK) v1 x1) : Calls Tryz.prog 105 #[v0, v1] w0 (vR (.bool r) w0) := by
 unfold impl_Rel_has at hR
 refine oD (L := [(0, v0), (1, v1)]) func105 rfl rfl rfl (sc rfl (sc rfl sn)) (fun a F => ?_)
 have H := Sep.start hN
 refine xC (xH ?_)
 obtain ⟨v12, rfl, i11, h13⟩ := qE.o A0
 refine oX F rfl rfl rfl H fun a w b14 H F => xA F rfl rfl fun a F => xF (xG (xC (xH (oM fa84_1 F rfl rfl rfl fun a F => oB isAgg82 F rfl rfl (H.b 0 rfl) rfl fun a F => xB F rfl rfl (fun a F => ?_)))))
 obtain ⟨z15, c16, hR⟩ := xI hR
 refine oG F rfl call185 rfl (slices_BinarySearchFunc_s_s_int64_s_int64_s_int64_c z15 c16 _ aA (H.a h13) (H.a A1) call186 (fun a0 a1 r h W l1 u0 u1 f0 f1 => impl_Rel_has_1_c r h W aA f0 f1)) (fun a vv w ⟨hv18, S, i17⟩ F => ?_)
 subst vv
 have H := H.r0 S
 refine xB F rfl rfl fun a F => vE F rfl rfl rfl fun a F => vE F rfl rfl rfl fun a F => xA F rfl rfl fun a F => xA F rfl rfl fun a F => xF (xG (xC (xH (xB F rfl rfl fun a F => xA F rfl rfl (fun a F => ?_)))))
 refine xF (xG (xW (xR F rfl (oO F rfl) ?_)))
 obtain rfl := Option.some.inj hR
 exact ⟨rfl, H.bl⟩

def kQ (N : Nat) (x0 : Template) (x1 : Atom) (x2 : List Int) : Option Bool :=
 oJ (impl_chosen x2 x1.args) fun z19 =>
 if (x1.rel == (-1)) then
  oJ (ix z19 0) fun z25 =>
  oJ (ix z19 1) fun z30 =>
  some ((z25 == z30))
 else
  oJ (ix x0.rels x1.rel) fun z35 =>
  oJ (impl_Rel_has N z35 z19) fun z41 =>
  some z41
theorem impl_Template_holds_c {B : Nat → Prop} {N : Nat} {x0 : Template} {x1 : Atom} {x2 : List Int} (r : Bool) (hR : kQ N x0 x1 x2 = some r) {v0 : Value} {v1 : Value} {v2 : Value} (w0 : World) (hN : ∀ c, B c → c < w0.heap.size) (A0 : Bo B w0 (qH 2 xJ) v0 x0) (A1 : Bo B w0 (qH 2 xU) v1 x1) (A2 : Bo B w0 (Sl 1 xK) v2 x2) : Calls Tryz.prog 221 #[v0, v1, v2] w0 (vR (.bool r) w0) := by
 unfold kQ at hR
 refine oD (L := [(0, v0), (1, v1), (2, v2)]) func221 rfl rfl rfl (sc rfl (sc rfl (sc rfl sn))) (fun a F => ?_)
 have H := Sep.start hN
 refine xC (xH ?_)
 obtain ⟨v12, rfl, i11, h13⟩ := xJ.o A0
 refine oX F rfl rfl rfl H (fun a w b14 H F => ?_)
 obtain ⟨v16, rfl, i15, h17⟩ := xU.o A1
 refine oX F rfl rfl rfl H fun a w b18 H F => xA F rfl rfl fun a F => xF (xG (xC (xH (xB F rfl rfl fun a F => oM fa158_1 F rfl rfl rfl fun a F => oB isAgg42 F rfl rfl (H.b 0 rfl) rfl (fun a F => ?_)))))
 obtain ⟨z19, c20, hR⟩ := xI hR
 refine oG F rfl call77 rfl (impl_chosen_c z19 c20 _ aA (H.a A2) (H.a h17)) (fun a vv w ⟨v21, hv23, S⟩ F => ?_)
 subst vv
 have H := H.r1 S n0
 refine xA F rfl rfl fun a F => xF (xG (xC (xC (xH (oM fa158_0 F rfl rfl rfl fun a F => oB isAgg2 F rfl rfl (H.b 1 rfl) rfl fun a F => o_eql F rfl rfl rfl fun a F => xF (xG ?_))))))
 refine vC F rfl (fun hb24 => ?_) (fun hb24 => ?_)
 ·
  replace hR := zD hb24 hR
  refine xC (xQ H (by kernel_rfl) (by kernel_rfl) (xN F rfl (fun w l => xP F rfl) (fun a F => ?_)))
  obtain ⟨z25, c26, hR⟩ := xI hR
  refine qI underlying42 sizeOf2 F rfl rfl rfl (H.l 0 rfl) c26 fun a p27 h28 F => qlI isAgg2 F rfl rfl qA h28 fun a i29 F => xN F rfl (fun w l => xP F rfl) (fun a F => ?_)
  obtain ⟨z30, c31, hR⟩ := xI hR
  refine qI underlying42 sizeOf2 F rfl rfl rfl (H.l 0 rfl) c31 fun a p32 h33 F => qlI isAgg2 F rfl rfl qA h33 fun a i34 F => xN F rfl (fun w l => r_eql F rfl rfl) fun a F => xN F rfl (fun w l => vO F rfl) fun a F => kA fun w H => xG (xW (oV (xR F rfl (oO F rfl) ?_)))
  obtain rfl := Option.some.inj hR
  exact ⟨rfl, H.bl⟩
 replace hR := zE hb24 hR
 refine xO (xG (xC (xH (oM fa33_1 F rfl rfl rfl fun a F => oB isAgg31 F rfl rfl (H.b 2 rfl) rfl fun a F => oM fa158_0 F rfl rfl rfl fun a F => oB isAgg2 F rfl rfl (H.b 1 rfl) rfl (fun a F => ?_)))))
 obtain ⟨z35, c36, hR⟩ := xI hR
 refine oI underlying31 sizeOf84 F rfl rfl rfl h13 c36 fun a p37 h38 F => olA isAgg84 sizeOf84 F rfl rfl H.sm h38 fun a v39 h40 F => xB F rfl rfl (fun a F => ?_)
 obtain ⟨z41, c42, hR⟩ := xI hR
 refine oK F rfl call105 rfl H (impl_Rel_has_c z41 c42 _ aA (H.a h40) (H.l 0 rfl)) fun a w H F => xA F rfl rfl fun a F => xF (xG (xW (xR F rfl (oO F rfl) ?_)))
 obtain rfl := Option.some.inj hR
 exact ⟨rfl, H.bl⟩

def qV (x0 : List Int) : Option (List Int) :=
 oJ (ap ([]) x0) fun z17 =>
 some z17
theorem slices_Clone_s_int64_int64_c {B : Nat → Prop} {x0 : List Int} (r : (List Int)) (hR : qV x0 = some r) {v0 : Value} (w0 : World) (hN : ∀ c, B c → c < w0.heap.size) (A0 : Bo B w0 (Sl 1 xK) v0 x0) : Calls Tryz.prog 56 #[v0] w0 (Gv (fun v w' => ∃ (v1' : Value), v = v1' ∧ Sep [] B w0 w' [rl 1 xK 2 v1' r])) := by
 unfold qV at hR
 refine oD (L := [(0, v0)]) func56 rfl rfl rfl (sc rfl sn) (fun a F => ?_)
 have H := Sep.start hN
 refine xC (xH (xA F rfl rfl fun a F => xF (xG (xC (xC (xH (xB F rfl rfl fun a F => oEn underlying42 F rfl rfl rfl (H.a A0) fun a nb11 hn12 F => xF ?_)))))))
 refine xG (vC F rfl (fun hb13 => ?_) (fun hb13 => ?_))
 ·
  replace hR : some ([]) = some r := by rw [hn12 hb13] at hR; exact hR
  refine xC (xH (xA F rfl rfl fun a F => xF (xG (xW (oV (xR F rfl (oO F rfl) ?_))))))
  obtain rfl := Option.some.inj hR
  exact ⟨_, rfl, (.slice none 0 0), rfl, (H.nl 1 xK 2)⟩
 refine xO (xG (xC (xH (oR0 (R := xK) underlying42 sizeOf2 F rfl H fun a w v15 H F => xB F rfl rfl (fun a F => ?_)))))
 obtain ⟨z17, c18, hR⟩ := xI hR
 refine oPf (sz := 1) (R := xK) (z := (.int .i64 0)) (bytes := 8) underlying42 (by kernel_rfl) rfl rfl F rfl rfl rfl H.lw (H.lw.a A0) c18 (fun a w v19 H F => ?_)
 have H := H.tl
 refine xA F rfl rfl fun a F => xF (xG (xW (xR F rfl (oO F rfl) ?_)))
 obtain rfl := Option.some.inj hR
 exact ⟨_, rfl, v19, rfl, H⟩

def impl_power (x0 : Int) (x1 : Int) : Option Int :=
 kJ (σ := Int) (
  kT (σ := Int) (ρ := Int) (fun (k25 : Nat) (s21 : Int) =>
   oJ (ck (s21 * x0)) fun z31 =>
   some (.go z31)) x1.toNat 0 1) fun s23 =>
 some s23
theorem impl_power_c {B : Nat → Prop} {x0 : Int} {x1 : Int} (r : Int) (hR : impl_power x0 x1 = some r)  (w0 : World) (hN : ∀ c, B c → c < w0.heap.size) (hx0 : xY x0) (hx1 : xY x1) : Calls Tryz.prog 183 #[.int .i64 x0, .int .i64 x1] w0 (SaysI r w0) := by
 unfold impl_power at hR
 refine oD (L := [(0, .int .i64 x0), (1, .int .i64 x1)]) func183 rfl rfl rfl (sc rfl (sc rfl sn)) (fun a F => ?_)
 have H := Sep.start hN
 refine xC (xH (xA F rfl rfl fun a F => xF (xG (xC (xH (xA F rfl rfl fun a F => xF (xG (xC ?_))))))))
 refine xC (xH (xB F rfl rfl fun a F => xB F rfl rfl fun a F => xF (xG ?_)))
 obtain ⟨o15, hR, hk16⟩ := xS hR
 refine oQ (fun a w => ∃ (s23 : Int), o15 = .nx s23 ∧ Sk a 14 [(5, .int .i64 s23)] ∧ Sep [] B w0 w [] ∧ xY s23) ?_ ?_
 ·
  refine oU ?_
  obtain ⟨fl19, hf20, hR⟩ := forI_gen hR
  refine qU (fun g a w => ∃ (k25 : Nat) (s21 : Int), k25 + g = x1.toNat ∧ kT fl19 g k25 s21 = some o15 ∧ Sk a 14 [(7, .int .i64 (k25 : Int)), (0, .int .i64 x0), (5, .int .i64 s21), (6, .int .i64 x1)] ∧ Sep [] B w0 w [] ∧ xY s21) x1.toNat ?_ ?_
  ·
   exact ⟨0, 1, (Nat.zero_add _), hR, F.sub (sc rfl (sc rfl (sc rfl (sc rfl sn)))), H, (show xY (1) by decide)⟩
  intro g28 a w ⟨k25, s21, hd29, hR, F, H, i22⟩
  cases g28 with
  | zero =>
   replace hR := forI_zero hR
   have hlk25 := dec_noI hd29
   refine xC (xH (oR F rfl rfl rfl fun a F => xF (xG (xC (vV F rfl hlk25 (qK (qQ (qQ (zT ?_)))))))))
   refine xG ?_
   exact ⟨s21, (Option.some.inj hR).symm, F.sub (sc rfl sn), H, i22⟩
  | succ g28 =>
   obtain ⟨ck25, hR, hn18⟩ := forI_succ hR
   rw [hf20] at hR
   have hlk25 := dec_yesI hd29
   refine xC (xH (oR F rfl rfl rfl fun a F => xF (xG (xC (vZ F rfl hlk25 (xO (xG (xC ?_))))))))
   have ikk25 := k64I hd29 hx1
   have ink25 := inc64I hd29 hx1
   refine oU (xH (xB F rfl rfl fun a F => xB F rfl rfl (fun a F => ?_)))
   obtain ⟨z31, c32, hR⟩ := xI hR
   refine o_mul F rfl rfl rfl c32 fun a F => xA F rfl rfl fun a F => xF (zN (xG (xH (vM F rfl rfl rfl ink25 fun a F => xB F rfl rfl fun a F => xF (xG ?_)))))
   replace hR := zH hR hn18
   exact ⟨_, Nat.lt_succ_self _, k25 + 1, z31, (by omega), hR, F.sub (sc rfl (sc rfl (sc rfl (sc rfl sn)))), H, (ck64 c32)⟩
 intro a w ⟨s23, ho17, F, H, i24⟩
 subst ho17
 have hR := xZ hk16
 refine xG (xC (xH (xB F rfl rfl fun a F => xA F rfl rfl fun a F => xF (xG (xW (xR F rfl (oO F rfl) ?_))))))
 obtain rfl := Option.some.inj hR
 exact ⟨⟨rfl, H.bl⟩, i24⟩

def kR (N : Nat) (x0 : Int) (x1 : Int) (x2 : Int) : Option (List Int) :=
 oJ (mkz (0 : Int) x1) fun z11 =>
 oJ (ck (x1 - 1)) fun z15 =>
 kJ (σ := Int × Int × (List Int)) (
  whl (σ := Int × Int × (List Int)) (ρ := (List Int)) (fun (s : Int × Int × (List Int)) =>
    match s with
    | (s60, s62, s64) =>
    if (decide (0 ≤ s62)) then
     oJ (rm s60 x0) fun z81 =>
     oJ (ix s64 s62) fun z83 =>
     oJ (dv s60 x0) fun z89 =>
     oJ (ck (s62 - 1)) fun z91 =>
     some (.go (z89, z91, (s64.set (s62).toNat z81)))
    else
     some (.brk (s60, s62, s64))) N (x2, z15, z11)) fun (s67, s69, s71) =>
 some s71
theorem impl_listOf_c {B : Nat → Prop} {N : Nat} {x0 : Int} {x1 : Int} {x2 : Int} (r : (List Int)) (hR : kR N x0 x1 x2 = some r)  (w0 : World) (hN : ∀ c, B c → c < w0.heap.size) (hx0 : xY x0) (hx1 : xY x1) (hx2 : xY x2) : Calls Tryz.prog 184 #[.int .i64 x0, .int .i64 x1, .int .i64 x2] w0 (Gv (fun v w' => ∃ (v1' : Value), v = v1' ∧ Sep [] B w0 w' [rl 1 xK 2 v1' r])) := by
 unfold kR at hR
 refine oD (L := [(0, .int .i64 x0), (1, .int .i64 x1), (2, .int .i64 x2)]) func184 rfl rfl rfl (sc rfl (sc rfl (sc rfl sn))) (fun a F => ?_)
 have H := Sep.start hN
 refine xC (xH (xA F rfl rfl fun a F => xF (xG (xC (xH (xB F rfl rfl (fun a F => ?_)))))))
 obtain ⟨z11, c12, hR⟩ := xI hR
 refine oRM (sz := 1) (R := xK) (z := (.int .i64 0)) (bytes := 8) underlying42 (by kernel_rfl) rfl (by decide) (by decide) (fun w => ⟨rfl, by decide, rfl⟩) F rfl rfl rfl c12 H fun a w v13 H F => xA F rfl rfl fun a F => xF (xG (xC (xC (xH (xB F rfl rfl (fun a F => ?_))))))
 obtain ⟨z15, c16, hR⟩ := xI hR
 refine o_sub F rfl rfl rfl c16 fun a F => xA F rfl rfl fun a F => xF (xG ?_)
 obtain ⟨o54, hR, hk55⟩ := xS hR
 refine oQ (fun a w => ∃ (s67 : Int) (s69 : Int) (s71 : List Int) (v73 : Value), o54 = .nx (s67, s69, s71) ∧ Sk a 27 [(7, v73)] ∧ Sep [] B w0 w [rl 1 xK 2 v73 s71] ∧ xY s67 ∧ xY s69) ?_ ?_
 ·
  refine oU ?_
  obtain ⟨fl58, hf59, hR⟩ := whl_gen hR
  refine qU (fun g a w => ∃ (s60 : Int) (s62 : Int) (s64 : List Int) (v66 : Value), whl fl58 g (s60, s62, s64) = some o54 ∧ Sk a 27 [(0, .int .i64 x0), (2, .int .i64 s60), (7, v66), (8, .int .i64 s62)] ∧ Sep [] B w0 w [rl 1 xK 2 v66 s64] ∧ xY s60 ∧ xY s62) N ?_ ?_
  ·
   exact ⟨x2, z15, z11, v13, hR, F.sub (sc rfl (sc rfl (sc rfl (sc rfl sn)))), H, hx2, (ck64 c16)⟩
  intro g77 a w ⟨s60, s62, s64, v66, hR, F, H, i61, i63⟩
  obtain ⟨ck74, rest75, hg79, hR, hn57⟩ := whl_round hR
  rw [hf59] at hR
  refine xC (xC (xH (xB F rfl rfl fun a F => o_geq F rfl rfl rfl fun a F => xF (xG (vC F rfl (fun hb80 => ?_) (fun hb80 => ?_))))))
  ·
   replace hR := zD hb80 hR
   refine xO (xG (xC (oU (xC (xH (xB F rfl rfl fun a F => xB F rfl rfl fun a F => xB F rfl rfl fun a F => xB F rfl rfl (fun a F => ?_)))))))
   obtain ⟨z81, c82, hR⟩ := xI hR
   refine o_rem F rfl rfl rfl c82 (fun a F => ?_)
   obtain ⟨z83, c84, hR⟩ := xI hR
   refine oRl underlying42 sizeOf2 F rfl rfl rfl H 0 rfl c84 (fun a p85 h86 rp87 F => ?_)
   have H := H.lw
   refine oS sizeOf2 F rfl rfl rfl H rp87 (ix_lt c84) (Eo.int (rm64 c82 i61 hx0)) rfl rfl (fun w H => ?_)
   have H := H.tl
   refine xF (xG (xH (xB F rfl rfl fun a F => xB F rfl rfl (fun a F => ?_))))
   obtain ⟨z89, c90, hR⟩ := xI hR
   refine o_quo F rfl rfl rfl c90 fun a F => xA F rfl rfl fun a F => xF (zN (xG (xH (xB F rfl rfl (fun a F => ?_)))))
   obtain ⟨z91, c92, hR⟩ := xI hR
   refine o_sub F rfl rfl rfl c92 fun a F => xA F rfl rfl fun a F => xF (xG ?_)
   replace hR := zH hR hn57
   exact ⟨rest75, (by omega), z89, z91, (s64.set (s62).toNat z81), v66, hR, F.sub (sc rfl (sc rfl (sc rfl (sc rfl sn)))), H, (dv64 c90), (ck64 c92)⟩
  replace hR := zE hb80 hR
  refine qK (qQ (qQ ?_))
  replace hR := l_brk hR hn57
  refine zT (xG ?_)
  exact ⟨s60, s62, s64, v66, (Option.some.inj hR).symm, F.sub (sc rfl sn), H, i61, i63⟩
 intro a w ⟨s67, s69, s71, v73, ho56, F, H, i68, i70⟩
 subst ho56
 have hR := xZ hk55
 refine xG (xC (xH (xB F rfl rfl fun a F => xA F rfl rfl fun a F => xF (xG (xW (xR F rfl (oO F rfl) ?_))))))
 obtain rfl := Option.some.inj hR
 exact ⟨_, rfl, v73, rfl, H⟩

def impl_relOf (N : Nat) (x0 : Int) (x1 : Int) (x2 : (List Int) → Option Bool) : Option Rel :=
 oJ (impl_power x0 x1) fun z13 =>
 kJ (σ := (List (List Int))) (
  kT (σ := (List (List Int))) (ρ := Rel) (fun (k59 : Nat) (s53 : (List (List Int))) =>
   oJ (kR N x0 x1 (k59 : Int)) fun z65 =>
   oJ (x2 z65) fun z70 =>
   if z70 then
    oJ (ap s53 ([z65])) fun z75 =>
    some (.go z75)
   else
    some (.go s53)) z13.toNat 0 []) fun s56 =>
 some ((Rel.mk x1 s56))
theorem impl_relOf_c {B : Nat → Prop} {N : Nat} {x0 : Int} {x1 : Int} {x2 : (List Int) → Option Bool} (r : Rel) (hR : impl_relOf N x0 x1 x2 = some r) {g2 : FuncId} {lb2 : List Value} (w0 : World) (hN : ∀ c, B c → c < w0.heap.size) (hx0 : xY x0) (hx1 : xY x1) (hg2 : ∀ args w, (callFunc g2 args).run Tryz.prog w = .ok (.enter g2 args) w) (hp2 : ∀ (a0 : List Int) (r : Bool), x2 a0 = some r → ∀ W, Below w0.heap.size w0 W → ∀ (u0 : Value), Bo (All W) W (Sl 1 xK) u0 a0 → Calls Tryz.prog g2 ([u0] ++ lb2 : List Value).toArray W (vR (.bool r) W)) : Calls Tryz.prog 103 #[.int .i64 x0, .int .i64 x1, .func (.func g2) #[] lb2.toArray] w0 (Gv (fun v w' => ∃ (v1' : Value), v = .agg #[.int .i64 r.arity, v1'] ∧ Sep [] B w0 w' [rl 1 (RSl 1 xK) 42 v1' r.tuples] ∧ xY r.arity)) := by
 unfold impl_relOf at hR
 refine oD (L := [(0, .int .i64 x0), (1, .int .i64 x1), (2, .func (.func g2) #[] lb2.toArray)]) func103 rfl rfl rfl (sc rfl (sc rfl (sc rfl sn))) (fun a F => ?_)
 have H := Sep.start hN
 refine xC (xH (oA zeroValue84 F rfl rfl H fun a w b11 H F => xF (xG (xC (xH (xB F rfl rfl fun a F => o_build underlying84 zeroValue84 (fun w => by simp [sizeOf2, sizeOf82]; rfl) F rfl rfl rfl rfl rfl (oc rfl on) rfl rfl fun a F => oA zeroValue84 F rfl rfl H fun a w b12 H F => oWA (vs := [.int .i64 x1, (.slice none 0 0)]) sizeOf84 F rfl rfl rfl H (oc rfl (oc rfl on)) rfl rfl (fun w H => ?_)))))))
 refine xF (xG (xC (xC (xH (xB F rfl rfl fun a F => xB F rfl rfl (fun a F => ?_))))))
 obtain ⟨z13, c14, hR⟩ := xI hR
 refine oKI F rfl call183 rfl H (impl_power_c z13 c14 _ aA hx0 hx1) fun a w H iz13 F => xB F rfl rfl fun a F => xF (xG ?_)
 obtain ⟨o47, hR, hk48⟩ := xS hR
 refine oQ (fun a w => ∃ (s56 : List (List Int)) (v58 : Value), o47 = .nx s56 ∧ Sk a 33 [(6, .pointer (some ⟨b11, 0, none⟩)), (7, .pointer (some ⟨b12, 0, none⟩))] ∧ Sep [] B w0 w [rl 1 (RSl 1 xK) 42 v58 s56, bx b12 [.int .i64 x1, v58] 84, bx b11 [.int .i64 0, (.slice none 0 0)] 84]) ?_ ?_
 ·
  refine oU ?_
  obtain ⟨fl51, hf52, hR⟩ := forI_gen hR
  refine qU (fun g a w => ∃ (k59 : Nat) (s53 : List (List Int)) (v55 : Value), k59 + g = z13.toNat ∧ kT fl51 g k59 s53 = some o47 ∧ Sk a 33 [(15, .int .i64 (k59 : Int)), (0, .int .i64 x0), (1, .int .i64 x1), (2, .func (.func g2) #[] lb2.toArray), (6, .pointer (some ⟨b11, 0, none⟩)), (7, .pointer (some ⟨b12, 0, none⟩)), (14, .int .i64 z13)] ∧ Sep [] B w0 w [rl 1 (RSl 1 xK) 42 v55 s53, bx b12 [.int .i64 x1, v55] 84, bx b11 [.int .i64 0, (.slice none 0 0)] 84]) z13.toNat ?_ ?_
  ·
   exact ⟨0, [], (.slice none 0 0), (Nat.zero_add _), hR, F.sub (sc rfl (sc rfl (sc rfl (sc rfl (sc rfl (sc rfl (sc rfl sn))))))), (H.nl 1 (RSl 1 xK) 42)⟩
  intro g62 a w ⟨k59, s53, v55, hd63, hR, F, H⟩
  cases g62 with
  | zero =>
   replace hR := forI_zero hR
   have hlk59 := dec_noI hd63
   refine xC (xH (oR F rfl rfl rfl fun a F => xF (xG (xC (vV F rfl hlk59 (qK (qQ (qQ (zT ?_)))))))))
   refine xG ?_
   exact ⟨s53, v55, (Option.some.inj hR).symm, F.sub (sc rfl (sc rfl sn)), H⟩
  | succ g62 =>
   obtain ⟨ck59, hR, hn50⟩ := forI_succ hR
   rw [hf52] at hR
   have hlk59 := dec_yesI hd63
   refine xC (xH (oR F rfl rfl rfl fun a F => xF (xG (xC (vZ F rfl hlk59 (xO (xG (xC ?_))))))))
   have ikk59 := k64I hd63 iz13
   have ink59 := inc64I hd63 iz13
   refine oU (xC (xH (xB F rfl rfl fun a F => xA F rfl rfl fun a F => xF (xG (xC (xH (xB F rfl rfl fun a F => xB F rfl rfl (fun a F => ?_))))))))
   refine xB F rfl rfl (fun a F => ?_)
   obtain ⟨z65, c66, hR⟩ := xI hR
   refine oG F rfl call184 rfl (impl_listOf_c z65 c66 _ aA hx0 hx1 ikk59) (fun a vv w ⟨v67, hv69, S⟩ F => ?_)
   subst vv
   have H := H.r1 S n0
   refine xA F rfl rfl fun a F => xF (xG (xC (xH (xB F rfl rfl fun a F => xB F rfl rfl (fun a F => ?_)))))
   obtain ⟨z70, c71, hR⟩ := xI hR
   refine oKV F rfl rfl hg2 rfl H (hp2 _ z70 c71 _ H.bl _ (H.l 0 rfl)) fun a w H F => xF (xG (vC F rfl (fun hb72 => ?_) (fun hb72 => ?_)))
   ·
    replace hR := zD hb72 hR
    refine xH (oM fa84_1 F rfl rfl rfl fun a F => oB isAgg82 F rfl rfl (H.b 2 rfl) rfl fun a F => xB F rfl rfl (fun a F => ?_))
    have H := H.os
    refine oR1L (R := (RSl 1 xK)) (y := z65) underlying82 sizeOf42 zeroValue42 rfl rfl F rfl rfl H El.sl (fun a w v73 H F => ?_)
    obtain ⟨z75, c76, hR⟩ := xI hR
    refine oPL (sz := 1) (R := (RSl 1 xK)) (z := ((.slice none 0 0))) (bytes := 24) underlying82 (by kernel_rfl) rfl rfl F rfl rfl rfl (H.s [1, 0, 2, 3] rfl rfl) c76 fun a w v77 H F => oM fa84_1 F rfl rfl rfl fun a F => oW sizeOf82 F rfl rfl rfl (H.s [1, 0, 2] rfl rfl) ((H.s [1, 0, 2] rfl rfl).l 1 rfl).one rfl rfl fun w H => xF (zN (xG (xH (vM F rfl rfl rfl ink59 fun a F => xB F rfl rfl fun a F => xF (xG ?_)))))
    replace hR := zH hR hn50
    exact ⟨_, Nat.lt_succ_self _, k59 + 1, z75, v77, (by omega), hR, F.sub (sc rfl (sc rfl (sc rfl (sc rfl (sc rfl (sc rfl (sc rfl sn))))))), (H.s [1, 0, 2] rfl rfl)⟩
   replace hR := zE hb72 hR
   refine xO (zN (xG (xH (vM F rfl rfl rfl ink59 fun a F => xB F rfl rfl fun a F => xF (xG ?_)))))
   replace hR := zH hR hn50
   exact ⟨_, Nat.lt_succ_self _, k59 + 1, s53, v55, (by omega), hR, F.sub (sc rfl (sc rfl (sc rfl (sc rfl (sc rfl (sc rfl (sc rfl sn))))))), (H.s [1, 2, 3] rfl rfl)⟩
 intro a w ⟨s56, v58, ho49, F, H⟩
 subst ho49
 have hR := xZ hk48
 refine xG (xC (xH (oBA isAgg84 sizeOf84 F rfl rfl (H.b 1 rfl) rfl rfl fun a F => oWA (vs := [.int .i64 x1, v58]) sizeOf84 F rfl rfl rfl (H.s [2, 0, 1] rfl rfl) (oc rfl (oc ((H.s [2, 0, 1] rfl rfl).l 1 rfl).one on)) rfl rfl fun w H => xF (xG (xW (xR F rfl (rv_cA (arr := #[.int .i64 x1, v58]) F isAgg84 sizeOf84 rfl (H.b 0 rfl)) ?_))))))
 obtain rfl := Option.some.inj hR
 exact ⟨_, rfl, v58, rfl, (H.s [1] rfl rfl), hx1⟩
end Go.Proofs.YtmgdjaiaekhkgaaGreat
