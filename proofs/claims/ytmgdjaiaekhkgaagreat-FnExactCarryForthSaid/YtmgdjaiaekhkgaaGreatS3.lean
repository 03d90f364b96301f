/-
  Functions of the program as plain functions, and that they compute them. Printed by sg.py.
-/
import Derived.Test.YtmgdjaiaekhkgaaGreatSO
namespace Go.Proofs.YtmgdjaiaekhkgaaGreat
open Go.Proofs.Tryz
set_option maxHeartbeats 1000000
set_option linter.unusedVariables false
set_option linter.unusedSimpArgs false
set_option maxRecDepth 100000
open Go.RowKit
def impl_solver_first (N : Nat) (x0 : solver) (x1 : List Int) : Option ((List Int) × Bool) :=
 kJ (σ := Unit) (
  qT (σ := Unit) (ρ := (List Int) × Bool) (fun (k28 : Nat) (x30 : Int) (s : Unit) =>
    match s with
    | _ =>
    oJ (ck ((k28 : Int) + 1)) fun z34 =>
    oJ (sl x1 0 z34) fun z36 =>
    oJ (kZ N x0 z36) fun z40 =>
    if (!z40) then
     some (.ret ([], false))
    else
     some (.go ())) x1 0 ()) fun _ =>
 oJ (solver_walk (fun a _ => some (false, a)) N x0 x1 ([])) fun z46 =>
 some (z46.2, (!z46.1))
theorem impl_solver_first_c {B : Nat → Prop} {N : Nat} {x0 : solver} {x1 : List Int} (r : (List Int) × Bool) (hR : impl_solver_first N x0 x1 = some r) {v0 : Value} {v1 : Value} (w0 : World) (hN : ∀ c, B c → c < w0.heap.size) (A0 : Bo B w0 (Pt 4 vL) v0 x0) (A1 : Bo B w0 (Sl 1 xK) v1 x1) : Calls Tryz.prog 95 #[v0, v1] w0 (Gv (fun v w' => ∃ (v1' : Value), v = .tuple #[v1', .bool r.2] ∧ Sep [] B w0 w' [rl 1 xK 2 v1' r.1])) := by
 unfold impl_solver_first at hR
 refine oD (L := [(0, v0), (1, v1)]) func95 rfl rfl rfl (sc rfl (sc rfl sn)) (fun a F => ?_)
 have H := Sep.start hN
 refine xC (xH (xA F rfl rfl fun a F => xA F rfl rfl fun a F => xF (xG (xC (xC (xH (xB F rfl rfl fun a F => oL underlying42 F rfl rfl A1 (fun a i11 F => ?_))))))))
 refine xB F rfl rfl fun a F => xF (xG ?_)
 obtain ⟨o22, hR, hk23⟩ := xS hR
 refine oQ (fun a w => o22 = .nx () ∧ Sk a 29 [(0, v0), (1, v1)] ∧ Sep [] B w0 w []) ?_ ?_
 ·
  refine oU ?_
  obtain ⟨fl26, hf27, hR⟩ := qP hR
  refine qU (fun g a w => ∃ (k28 : Nat) (rest29 : List Int), (k28 ≤ x1.length ∧ x1.drop k28 = rest29) ∧ rest29.length = g ∧ qT fl26 rest29 k28 () = some o22 ∧ Sk a 29 [(11, .int .i64 (k28 : Int)), (0, v0), (1, v1), (10, .int .i64 (x1.length : Int))] ∧ Sep [] B w0 w []) x1.length ?_ ?_
  ·
   exact ⟨0, x1, ⟨Nat.zero_le _, rfl⟩, rfl, hR, F.sub (sc rfl (sc rfl (sc rfl (sc rfl sn)))), H⟩
  intro g31 a w ⟨k28, rest29, hd32, hg33, hR, F, H⟩
  cases rest29 with
  | nil =>
   replace hR := qS hR
   have hkk28 := qR hd32.1 hd32.2
   have hlk28 := vW hkk28
   refine xC (xH (oR F rfl rfl rfl fun a F => xF (xG (xC (vV F rfl hlk28 (qK (qQ (qQ (zT ?_)))))))))
   refine xG ?_
   exact ⟨(Option.some.inj hR).symm, F.sub (sc rfl (sc rfl sn)), H⟩
  | cons x30 rest29 =>
   subst hg33
   replace hd32 := qD hd32.2
   have hxk28 := qG hd32.2.1
   obtain ⟨ck28, hR, hn25⟩ := qC hR
   rw [hf27] at hR
   have hlk28 := vA hd32.1
   refine xC (xH (oR F rfl rfl rfl fun a F => xF (xG (xC (vZ F rfl hlk28 (xO (xG (xC ?_))))))))
   have ikk28 := k64 (Nat.le_of_lt hd32.1) i11
   have ink28 := zW hd32.1 i11
   refine oU (xC (xH (xB F rfl rfl fun a F => xA F rfl rfl fun a F => xF (xG (xC (xH (xB F rfl rfl fun a F => xB F rfl rfl (fun a F => ?_))))))))
   refine xB F rfl rfl (fun a F => ?_)
   obtain ⟨z34, c35, hR⟩ := xI hR
   refine o_add F rfl rfl rfl c35 (fun a F => ?_)
   obtain ⟨z36, c37, hR⟩ := xI hR
   refine oC underlying42 sizeOf2 F rfl rfl rfl rfl A1 c37 (fun a v38 h39 F => ?_)
   obtain ⟨z40, c41, hR⟩ := xI hR
   refine oK F rfl call167 rfl H (impl_solver_goes_c z40 c41 _ aA (H.a A0) (H.a h39)) fun a w H F => kE F rfl rfl fun a F => xF (xG (vC F rfl (fun hb42 => ?_) (fun hb42 => ?_)))
   ·
    replace hR := zD hb42 hR
    refine xC (xH (xA F rfl rfl fun a F => xA F rfl rfl fun a F => xF (xG (xW (kB (oV (oV ?_)))))))
    replace hR := l_ret hR hn25
    refine kB (oV ?_)
    replace hR := j_ret hR hk23
    refine oV (kY F rfl (oO F rfl) (oO F rfl) ?_)
    obtain rfl := Option.some.inj hR
    exact ⟨_, rfl, (.slice none 0 0), rfl, (H.nl 1 xK 2)⟩
   replace hR := zE hb42 hR
   refine xO (zN (xG (xH (vM F rfl rfl rfl ink28 fun a F => xB F rfl rfl fun a F => xF (xG ?_)))))
   replace hR := zH hR hn25
   exact ⟨_, Nat.lt_succ_self _, k28 + 1, rest29, ⟨hd32.1, hd32.2.2⟩, rfl, hR, F.sub (sc rfl (sc rfl (sc rfl (sc rfl sn)))), H⟩
 intro a w ⟨ho24, F, H⟩
 subst ho24
 have hR := xZ hk23
 refine xG (xC (xH (oA zeroValue42 F rfl rfl H fun a w b44 H F => xF (xG (xC (xH (xB F rfl rfl fun a F => xB F rfl rfl fun a F => o_func F rfl rfl rfl (fun a F => ?_))))))))
 have H := H.nl 1 xK 2
 obtain ⟨z46, c47, hR⟩ := xI hR
 obtain ⟨X48, K49, bk50⟩ := Sep.lend1 (A := bI b44 ([])) (Sep.exI (f := fun v => pr (bx b44 [v] 42) (rl 1 xK 2 v ([]))) (b := (.slice none 0 0)) ((H.s [1, 0] rfl rfl)).mg)
 refine oG F rfl call168 rfl (solver_walk_c (fun _ _ h => h) call169 (first1_c b44) N z46 c47 _ K49 (H.u A0) (H.u A1)) (fun a vv w ⟨hv, S⟩ F => ?_)
 subst vv
 obtain ⟨v51, H⟩ := Sep.exE (f := fun v => pr (bx b44 [v] 42) (rl 1 xK 2 v z46.2)) (bk50 S)
 have H := H.um
 refine kE F rfl rfl fun a F => xA F rfl rfl fun a F => xF (xG (xC (xH (oB isAgg42 F rfl rfl (H.b 0 rfl) rfl fun a F => xB F rfl rfl fun a F => xA F rfl rfl fun a F => xA F rfl rfl fun a F => xF ?_))))
 refine xG (xW (kY F rfl (oO F rfl) (oO F rfl) ?_))
 obtain rfl := Option.some.inj hR
 exact ⟨_, rfl, v51, rfl, (H.s [1] rfl rfl)⟩

def impl_valueOf_1 (N : Nat) (x0 : List Int) (y0 : solver) : Option Bool :=
 oJ (impl_solver_first N y0 x0) fun z13 =>
 some z13.2
theorem impl_valueOf_1_c {B : Nat → Prop} {N : Nat} {x0 : List Int} {y0 : solver} (r : Bool) (hR : impl_valueOf_1 N x0 y0 = some r) {v0 : Value} {v1 : Value} (w0 : World) (hN : ∀ c, B c → c < w0.heap.size) (A0 : Bo B w0 (Sl 1 xK) v0 x0) (A1 : Bo B w0 (Pt 1 (RP 4 vL)) v1 y0) : Calls Tryz.prog 182 #[v0, v1] w0 (vR (.bool r) w0) := by
 unfold impl_valueOf_1 at hR
 refine oD (L := [(0, v0), (1, v1)]) func182 rfl rfl rfl (sc rfl (sc rfl sn)) (fun a F => ?_)
 have H := Sep.start hN
 refine xC (xH (xA F rfl rfl fun a F => xF (xG (xC (xH (olP isAgg133 F rfl rfl H.sm A1 fun a v11 h12 F => xB F rfl rfl (fun a F => ?_)))))))
 obtain ⟨z13, c14, hR⟩ := xI hR
 refine oG F rfl call95 rfl (impl_solver_first_c z13 c14 _ aA (H.a h12) (H.a A0)) (fun a vv w ⟨v15, hv17, S⟩ F => ?_)
 subst vv
 have H := H.r1 S n0
 refine xB F rfl rfl fun a F => vE F rfl rfl rfl fun a F => vE F rfl rfl rfl fun a F => xA F rfl rfl fun a F => xA F rfl rfl fun a F => xF (xG (xC (xH (xB F rfl rfl fun a F => xA F rfl rfl (fun a F => ?_)))))
 refine xF (xG (xW (xR F rfl (oO F rfl) ?_)))
 obtain rfl := Option.some.inj hR
 exact ⟨rfl, H.bl⟩

def impl_valueOf (N : Nat) (x0 : Template) (x1 : Formula) : Option Rel :=
 oJ (impl_solverOf (Template.mk x0.size x0.rels) x1.vars x1.atoms) fun z21 =>
 oJ (impl_relOf N x0.size x1.free (fun a0 => impl_valueOf_1 N a0 z21)) fun z34 =>
 some ((Rel.mk z34.arity z34.tuples))
theorem impl_valueOf_c {B : Nat → Prop} {N : Nat} {x0 : Template} {x1 : Formula} (r : Rel) (hR : impl_valueOf N x0 x1 = some r) {v0 : Value} {v1 : Value} (w0 : World) (hN : ∀ c, B c → c < w0.heap.size) (A0 : Bo B w0 (qH 2 xJ) v0 x0) (A1 : Bo B w0 (qH 3 xL) v1 x1) : Calls Tryz.prog 102 #[v0, v1] w0 (Gv (fun v w' => ∃ (v1' : Value), v = .agg #[.int .i64 r.arity, v1'] ∧ Sep [] B w0 w' [rl 1 (RSl 1 xK) 42 v1' r.tuples] ∧ xY r.arity)) := by
 unfold impl_valueOf at hR
 refine oD (L := [(0, v0), (1, v1)]) func102 rfl rfl rfl (sc rfl (sc rfl sn)) (fun a F => ?_)
 have H := Sep.start hN
 refine xC (xH ?_)
 obtain ⟨v12, rfl, i11, h13⟩ := xJ.o A0
 refine oX F rfl rfl rfl H (fun a w b14 H F => ?_)
 obtain ⟨v17, rfl, i15, i16, h18⟩ := xL.o A1
 refine oX F rfl rfl rfl H fun a w b19 H F => oA zeroValue84 F rfl rfl H fun a w b20 H F => xF (xG (xC (xH (oBA isAgg33 sizeOf33 F rfl rfl (H.b 2 rfl) rfl rfl fun a F => oM fa95_1 F rfl rfl rfl fun a F => oB isAgg2 F rfl rfl (H.b 1 rfl) rfl fun a F => oM fa95_2 F rfl rfl rfl fun a F => oB isAgg93 F rfl rfl (H.b 1 rfl) rfl (fun a F => ?_)))))
 obtain ⟨z21, c22, hR⟩ := xI hR
 refine oG F rfl call166 rfl (impl_solverOf_s z21 c22 _ H.hN (xJ.m i11 (H.u h13)) i16 (H.u h18)) (fun a vv w ⟨v23, hv25, S⟩ F => ?_)
 subst vv
 have H := H.r1 S n1
 obtain ⟨w31, rfl⟩ : ∃ x, x = w := ⟨_, rfl⟩
 obtain ⟨X26, N27, g28, e29, H, th30⟩ := H.fz
 have h32 := g28.rod
 refine oA zeroValue133 F rfl rfl H fun a w b33 H F => oW sizeOf133 F rfl rfl rfl H (H.a h32).pone rfl rfl fun w H => xF (xG (xC (xH (oM fa33_0 F rfl rfl rfl fun a F => oB isAgg2 F rfl rfl (H.b 3 rfl) rfl fun a F => oM fa95_0 F rfl rfl rfl fun a F => oB isAgg2 F rfl rfl (H.b 2 rfl) rfl fun a F => o_func F rfl rfl rfl (fun a F => ?_)))))
 obtain ⟨z34, c35, hR⟩ := xI hR
 refine oG F rfl call103 rfl (impl_relOf_c z34 c35 _ aA i11 i15 call182 (fun a0 r h W l1 u0 f0 => impl_valueOf_1_c r h W aA f0 ((c1P (H.g 0 rfl).bk (H.a h32)).w l1))) (fun a vv w ⟨v37, hv39, S, i36⟩ F => ?_)
 subst vv
 have H := H.r1 S n0
 refine oWA (vs := [.int .i64 z34.arity, v37]) sizeOf84 F rfl rfl rfl (H.s [2, 0, 1, 3, 4] rfl rfl) (oc rfl (oc ((H.s [2, 0, 1, 3, 4] rfl rfl).l 1 rfl).one on)) rfl rfl fun w H => xF (xG (xW ?_))
 have H := (th30.1 H (Ns.all ⟨n0, ⟨n0, ⟨n0, ⟨n0, ⟨n0, trivial⟩⟩⟩⟩⟩))
 refine xR F rfl (rv_cA (arr := #[.int .i64 z34.arity, v37]) F isAgg84 sizeOf84 rfl (H.b 1 rfl)) ?_
 obtain rfl := Option.some.inj hR
 exact ⟨_, rfl, v37, rfl, (H.s [2] rfl rfl), i36⟩

def kN (N : Nat) (x0 : List Int) (y0 : Rel) (y1 : Template) (y2 : Int) : Option Bool :=
 oJ (impl_Rel_has N y0 x0) fun z13 =>
 oJ (ix y1.rels y2) fun z20 =>
 oJ (impl_Rel_has N z20 x0) fun z26 =>
 some ((z13 != z26))
theorem impl_firstWrong_1_c {B : Nat → Prop} {N : Nat} {x0 : List Int} {y0 : Rel} {y1 : Template} {y2 : Int} (r : Bool) (hR : kN N x0 y0 y1 y2 = some r) {v0 : Value} {v1 : Value} {v2 : Value} {v3 : Value} (w0 : World) (hN : ∀ c, B c → c < w0.heap.size) (A0 : Bo B w0 (Sl 1 xK) v0 x0) (A1 : Bo B w0 (Pt 2 qE) v1 y0) (A2 : Bo B w0 (Pt 2 xJ) v2 y1) (A3 : Bo B w0 (Pt 1 xK) v3 y2) : Calls Tryz.prog 104 #[v0, v1, v2, v3] w0 (vR (.bool r) w0) := by
 unfold kN at hR
 refine oD (L := [(0, v0), (1, v1), (2, v2), (3, v3)]) func104 rfl rfl rfl (sc rfl (sc rfl (sc rfl (sc rfl sn)))) (fun a F => ?_)
 have H := Sep.start hN
 refine xC (xH (xA F rfl rfl fun a F => xF (xG (xC (xQ H (by kernel_rfl) (by kernel_rfl) (qlA isAgg84 sizeOf84 F rfl rfl H.q A1 fun a v11 h12 F => xN F rfl (fun w l => xP F rfl) (fun a F => ?_)))))))
 obtain ⟨z13, c14, hR⟩ := xI hR
 refine q_says F rfl call105 rfl (fun w w' h l => l.through h) (fun w l => impl_Rel_has_c z13 c14 w aA ((H.go l).a h12) ((H.go l).a A0)) fun a F => qF (s' := 1) fa33_1 F rfl rfl A2 xJ.f1 fun a p15 h16 F => qlS isAgg31 F rfl rfl H.q h16 fun a v17 h18 F => qlI isAgg3 F rfl rfl H.q A3 (fun a i19 F => ?_)
 obtain ⟨z20, c21, hR⟩ := xI hR
 refine qI underlying31 sizeOf84 F rfl rfl rfl h18 c21 fun a p22 h23 F => qlA isAgg84 sizeOf84 F rfl rfl H.q h23 fun a v24 h25 F => xN F rfl (fun w l => xP F rfl) (fun a F => ?_)
 obtain ⟨z26, c27, hR⟩ := xI hR
 refine q_says F rfl call105 rfl (fun w w' h l => l.through h) (fun w l => impl_Rel_has_c z26 c27 w aA ((H.go l).a h25) ((H.go l).a A0)) fun a F => xN F rfl (fun w l => r_neqB underlying4 F rfl rfl) fun a F => xN F rfl (fun w l => vO F rfl) fun a F => kA fun w H => xG (xW (xR F rfl (oO F rfl) ?_))
 obtain rfl := Option.some.inj hR
 exact ⟨rfl, H.bl⟩

def impl_firstWrong (N : Nat) (x0 : Template) (x1 : Template) (x2 : Gadgets) : Option (Int × (List Int)) :=
 kJ (σ := Unit) (
  qT (σ := Unit) (ρ := Int × (List Int)) (fun (k69 : Nat) (x71 : Formula) (s : Unit) =>
    match s with
    | _ =>
    oJ (impl_valueOf N (Template.mk x1.size x1.rels) (Formula.mk x71.free x71.vars x71.atoms)) fun z85 =>
    oJ (impl_relOf N x0.size x71.free (fun a0 => kN N a0 (Rel.mk z85.arity z85.tuples) (Template.mk x0.size x0.rels) (k69 : Int))) fun z92 =>
    if (decide (0 < (z92.tuples.length : Int))) then
     oJ (ix z92.tuples 0) fun z108 =>
     some (.ret ((k69 : Int), z108))
    else
     some (.go ())) x2.formulas 0 ()) fun _ =>
 some ((-1), [])
theorem impl_firstWrong_c {B : Nat → Prop} {N : Nat} {x0 : Template} {x1 : Template} {x2 : Gadgets} (r : Int × (List Int)) (hR : impl_firstWrong N x0 x1 x2 = some r) {v0 : Value} {v1 : Value} {v2 : Value} (w0 : World) (hN : ∀ c, B c → c < w0.heap.size) (A0 : Bo B w0 (qH 2 xJ) v0 x0) (A1 : Bo B w0 (qH 2 xJ) v1 x1) (A2 : Bo B w0 (qH 1 xV) v2 x2) : Calls Tryz.prog 48 #[v0, v1, v2] w0 (Gv (fun v w' => ∃ (v1' : Value), v = .tuple #[.int .i64 r.1, v1'] ∧ Sep [] B w0 w' [ro B (V := (Sl 1 xK)) v1' r.2] ∧ xY r.1)) := by
 unfold impl_firstWrong at hR
 refine oD (L := [(0, v0), (1, v1), (2, v2)]) func48 rfl rfl rfl (sc rfl (sc rfl (sc rfl sn))) (fun a F => ?_)
 have H := Sep.start hN
 refine xC (xH ?_)
 obtain ⟨v12, rfl, i11, h13⟩ := xJ.o A0
 refine oX F rfl rfl rfl H (fun a w b14 H F => ?_)
 obtain ⟨v16, rfl, i15, h17⟩ := xJ.o A1
 refine oX F rfl rfl rfl H (fun a w b18 H F => ?_)
 obtain ⟨v19, rfl, h20⟩ := xV.o A2
 refine oX F rfl rfl rfl H fun a w b21 H F => xA F rfl rfl fun a F => xA F rfl rfl fun a F => xF (xG (xC (xC (xH (oM fa37_0 F rfl rfl rfl fun a F => oB isAgg35 F rfl rfl (H.b 0 rfl) rfl fun a F => oL underlying35 F rfl rfl h20 (fun a i22 F => ?_))))))
 refine xB F rfl rfl fun a F => xF (xG ?_)
 obtain ⟨o63, hR, hk64⟩ := xS hR
 refine oQ (fun a w => o63 = .nx () ∧ Sk a 39 [] ∧ Sep [] B w0 w []) ?_ ?_
 ·
  refine oU ?_
  obtain ⟨fl67, hf68, hR⟩ := qP hR
  refine qU (fun g a w => ∃ (k69 : Nat) (rest70 : List Formula), (k69 ≤ x2.formulas.length ∧ x2.formulas.drop k69 = rest70) ∧ rest70.length = g ∧ qT fl67 rest70 k69 () = some o63 ∧ Sk a 39 [(15, .int .i64 (k69 : Int)), (3, .pointer (some ⟨b14, 0, none⟩)), (4, .pointer (some ⟨b18, 0, none⟩)), (13, v19), (14, .int .i64 (x2.formulas.length : Int))] ∧ Sep [] B w0 w [bx b18 [.int .i64 x1.size, v16] 33, bx b14 [.int .i64 x0.size, v12] 33]) x2.formulas.length ?_ ?_
  ·
   exact ⟨0, x2.formulas, ⟨Nat.zero_le _, rfl⟩, rfl, hR, F.sub (sc rfl (sc rfl (sc rfl (sc rfl (sc rfl sn))))), (H.s [1, 2] rfl rfl)⟩
  intro g72 a w ⟨k69, rest70, hd73, hg74, hR, F, H⟩
  cases rest70 with
  | nil =>
   replace hR := qS hR
   have hkk69 := qR hd73.1 hd73.2
   have hlk69 := vW hkk69
   refine xC (xH (oR F rfl rfl rfl fun a F => xF (xG (xC (vV F rfl hlk69 (qK (qQ (qQ (zT ?_)))))))))
   refine xG ?_
   exact ⟨(Option.some.inj hR).symm, F.sub sn, (H.s [] rfl rfl)⟩
  | cons x71 rest70 =>
   subst hg74
   replace hd73 := qD hd73.2
   have hxk69 := qG hd73.2.1
   obtain ⟨ck69, hR, hn66⟩ := qC hR
   rw [hf68] at hR
   have hlk69 := vA hd73.1
   refine xC (xH (oR F rfl rfl rfl fun a F => xF (xG (xC (vZ F rfl hlk69 (xO (xG (xC ?_))))))))
   have ikk69 := k64 (Nat.le_of_lt hd73.1) i22
   have ink69 := zW hd73.1 i22
   refine oU (xC (xH (xB F rfl rfl fun a F => oI underlying35 sizeOf95 F rfl rfl rfl h20 hxk69 fun a p75 h76 F => olA isAgg95 sizeOf95 F rfl rfl H.sm h76 fun a v77 h78 F => oA zeroValue3 F rfl rfl H fun a w b79 H F => oA zeroValue95 F rfl rfl H fun a w b80 H F => oW sizeOf3 F rfl rfl rfl (H.s [1, 0, 2, 3] rfl rfl) rfl rfl rfl (fun w H => ?_))))
   obtain ⟨v83, rfl, i81, i82, h84⟩ := xL.o h78
   refine oWA (vs := [.int .i64 x71.free, .int .i64 x71.vars, v83]) sizeOf95 F rfl rfl rfl (H.s [1, 0, 2, 3] rfl rfl) (oc rfl (oc rfl (oc ((H.s [1, 0, 2, 3] rfl rfl).a h84).one on))) rfl rfl fun w H => xF (xG (xC (xH (oBA isAgg33 sizeOf33 F rfl rfl (H.b 2 rfl) rfl rfl fun a F => oBA isAgg95 sizeOf95 F rfl rfl (H.b 0 rfl) rfl rfl (fun a F => ?_)))))
   obtain ⟨z85, c86, hR⟩ := xI hR
   refine oG F rfl call102 rfl (impl_valueOf_c z85 c86 _ aA (xJ.m i15 (H.a h17)) (xL.m i81 i82 (H.a h84))) (fun a vv w ⟨v88, hv90, S, i87⟩ F => ?_)
   subst vv
   have H := H.r1 S n0
   refine oA zeroValue84 F rfl rfl H fun a w b91 H F => oWA (vs := [.int .i64 z85.arity, v88]) sizeOf84 F rfl rfl rfl H (oc rfl (oc (H.l 1 rfl).one on)) rfl rfl fun w H => xF (xG (xC (xH (oM fa33_0 F rfl rfl rfl fun a F => oB isAgg2 F rfl rfl (H.b 5 rfl) rfl fun a F => oM fa95_0 F rfl rfl rfl fun a F => oB isAgg2 F rfl rfl (H.b 2 rfl) rfl fun a F => o_func F rfl rfl rfl (fun a F => ?_)))))
   obtain ⟨z92, c93, hR⟩ := xI hR
   refine oG F rfl call103 rfl (impl_relOf_c z92 c93 _ aA i11 i81 call104 (fun a0 r h W l1 u0 f0 => impl_firstWrong_1_c r h W aA f0 ((qE.b (H.g 0 rfl).bk i87 (H.l 1 rfl)).w l1) ((xJ.b (H.g 5 rfl).bk i11 (H.a h13)).w l1) ((c1I (H.g 3 rfl).bk ikk69).w l1))) (fun a vv w ⟨v95, hv97, S, i94⟩ F => ?_)
   subst vv
   have H := H.r1 S n0
   refine oA zeroValue84 F rfl rfl H fun a w b98 H F => oWA (vs := [.int .i64 z92.arity, v95]) sizeOf84 F rfl rfl rfl H (oc rfl (oc (H.l 1 rfl).one on)) rfl rfl fun w H => xF (xG (xC (xH (oM fa84_1 F rfl rfl rfl fun a F => oB isAgg82 F rfl rfl (H.b 0 rfl) rfl fun a F => oL underlying82 F rfl rfl (H.l 1 rfl) fun a i99 F => o_gtr F rfl rfl rfl fun a F => xF ?_))))
   refine xG (vC F rfl (fun hb100 => ?_) (fun hb100 => ?_))
   ·
    replace hR := zD hb100 hR
    refine xC ?_
    obtain ⟨w106, rfl⟩ : ∃ x, x = w := ⟨_, rfl⟩
    obtain ⟨X101, N102, g103, e104, H, th105⟩ := (H.s [1, 0, 2, 3, 4, 5, 6, 7] rfl rfl).fz
    have h107 := g103.ld
    refine xQ H (by kernel_rfl) (by kernel_rfl) (qB isAgg3 F rfl rfl (H.qb 4 rfl) rfl fun a F => xN F rfl (fun w l => zJ fa84_1 F rfl rfl) fun a F => qB isAgg82 F rfl rfl (H.qb 0 rfl) rfl (fun a F => ?_))
    obtain ⟨z108, c109, hR⟩ := xI hR
    refine qI underlying82 sizeOf42 F rfl rfl rfl h107 c109 fun a p110 h111 F => qlS isAgg42 F rfl rfl H.q h111 fun a v112 h113 F => xN F rfl (fun w l => vO F rfl) fun a F => xN F rfl (fun w l => vO F rfl) fun a F => kA fun w H => xG (xW (kB (oV (oV ?_))))
    replace hR := l_ret hR hn66
    refine kB (oV ?_)
    replace hR := j_ret hR hk64
    refine oV ?_
    have H := H.rob h113
    have H := (th105.2.1 (H.s [0] rfl rfl) (Ns.all trivial))
    refine kY F rfl (oO F rfl) (oO F rfl) ?_
    obtain rfl := Option.some.inj hR
    exact ⟨_, rfl, v112, rfl, H, ikk69⟩
   replace hR := zE hb100 hR
   refine xO (zN (xG (xH (vM F rfl rfl rfl ink69 fun a F => xB F rfl rfl fun a F => xF (xG ?_)))))
   replace hR := zH hR hn66
   exact ⟨_, Nat.lt_succ_self _, k69 + 1, rest70, ⟨hd73.1, hd73.2.2⟩, rfl, hR, F.sub (sc rfl (sc rfl (sc rfl (sc rfl (sc rfl sn))))), (H.s [6, 7] rfl rfl)⟩
 intro a w ⟨ho65, F, H⟩
 subst ho65
 have hR := xZ hk64
 refine xG (xC (xH (xA F rfl rfl fun a F => xA F rfl rfl fun a F => xF (xG (xW ?_)))))
 have H := H.rob (Bo.snil (sz := 1) (R := xK))
 refine kY F rfl (oO F rfl) (oO F rfl) ?_
 obtain rfl := Option.some.inj hR
 exact ⟨_, rfl, (.slice none 0 0), rfl, H, (show xY (-1) by decide)⟩

def impl_ValidGadgets (N : Nat) (x0 : Template) (x1 : Template) (x2 : Gadgets) : Option Bool :=
 oJ (impl_areFormulas (Template.mk x0.size x0.rels) (Template.mk x1.size x1.rels) (Gadgets.mk x2.formulas)) fun z22 =>
 if (!z22) then
  some false
 else
  oJ (impl_firstWrong N (Template.mk x0.size x0.rels) (Template.mk x1.size x1.rels) (Gadgets.mk x2.formulas)) fun z25 =>
  some ((decide (z25.1 < 0)))
theorem impl_ValidGadgets_c {B : Nat → Prop} {N : Nat} {x0 : Template} {x1 : Template} {x2 : Gadgets} (r : Bool) (hR : impl_ValidGadgets N x0 x1 x2 = some r) {v0 : Value} {v1 : Value} {v2 : Value} (w0 : World) (hN : ∀ c, B c → c < w0.heap.size) (A0 : Bo B w0 (qH 2 xJ) v0 x0) (A1 : Bo B w0 (qH 2 xJ) v1 x1) (A2 : Bo B w0 (qH 1 xV) v2 x2) : Calls Tryz.prog 15 #[v0, v1, v2] w0 (vR (.bool r) w0) := by
 unfold impl_ValidGadgets at hR
 refine oD (L := [(0, v0), (1, v1), (2, v2)]) func15 rfl rfl rfl (sc rfl (sc rfl (sc rfl sn))) (fun a F => ?_)
 have H := Sep.start hN
 refine xC (xH ?_)
 obtain ⟨v12, rfl, i11, h13⟩ := xJ.o A0
 refine oX F rfl rfl rfl H (fun a w b14 H F => ?_)
 obtain ⟨v16, rfl, i15, h17⟩ := xJ.o A1
 refine oX F rfl rfl rfl H (fun a w b18 H F => ?_)
 obtain ⟨v19, rfl, h20⟩ := xV.o A2
 refine oX F rfl rfl rfl H fun a w b21 H F => xA F rfl rfl fun a F => xF (xG (xC (xC (xH (oBA isAgg33 sizeOf33 F rfl rfl (H.b 2 rfl) rfl rfl fun a F => oBA isAgg33 sizeOf33 F rfl rfl (H.b 1 rfl) rfl rfl fun a F => oBA isAgg37 sizeOf37 F rfl rfl (H.b 0 rfl) rfl rfl (fun a F => ?_))))))
 obtain ⟨z22, c23, hR⟩ := xI hR
 refine oK F rfl call47 rfl H (impl_areFormulas_c z22 c23 _ aA (xJ.m i11 (H.a h13)) (xJ.m i15 (H.a h17)) (xV.m (H.a h20))) fun a w H F => kE F rfl rfl fun a F => xF (xG (vC F rfl (fun hb24 => ?_) (fun hb24 => ?_)))
 ·
  replace hR := zD hb24 hR
  refine xC (xH (xA F rfl rfl fun a F => xF (xG (xW (oV (xR F rfl (oO F rfl) ?_))))))
  obtain rfl := Option.some.inj hR
  exact ⟨rfl, H.bl⟩
 replace hR := zE hb24 hR
 refine xO (xG (xC (xH (oBA isAgg33 sizeOf33 F rfl rfl (H.b 2 rfl) rfl rfl fun a F => oBA isAgg33 sizeOf33 F rfl rfl (H.b 1 rfl) rfl rfl fun a F => oBA isAgg37 sizeOf37 F rfl rfl (H.b 0 rfl) rfl rfl (fun a F => ?_)))))
 obtain ⟨z25, c26, hR⟩ := xI hR
 refine oG F rfl call48 rfl (impl_firstWrong_c z25 c26 _ H.hN (xJ.m i11 (H.u h13)) (xJ.m i15 (H.u h17)) (xV.m (H.u h20))) (fun a vv w ⟨v28, hv30, S, i27⟩ F => ?_)
 subst vv
 have H := H.r1 S n1
 refine xB F rfl rfl fun a F => vE F rfl rfl rfl fun a F => vE F rfl rfl rfl fun a F => xA F rfl rfl fun a F => xA F rfl rfl fun a F => xF (xG (xC (xH (xB F rfl rfl fun a F => oR F rfl rfl rfl (fun a F => ?_)))))
 refine xA F rfl rfl fun a F => xF (xG (xW (xR F rfl (oO F rfl) ?_)))
 obtain rfl := Option.some.inj hR
 exact ⟨rfl, H.bl⟩
end Go.Proofs.YtmgdjaiaekhkgaaGreat
