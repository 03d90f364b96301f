/-
  Functions of the program as plain functions, and that they compute them. Printed by sg.py.
-/
import Derived.Test.YtmgdjaiaekhkgaaGreatS5
namespace Go.Proofs.YtmgdjaiaekhkgaaGreat
open Go.Proofs.Tryz
set_option maxHeartbeats 1000000
set_option linter.unusedVariables false
set_option linter.unusedSimpArgs false
set_option maxRecDepth 100000
open Go.RowKit
def spec_l05Holds (x0 : Template) (x1 : Con) (x2 : List Int) : Option Bool :=
 oJ (ix x0.rels x1.rel) fun z18 =>
 oJ (spec_l01At x2 x1.scope) fun z26 =>
 oJ (spec_l01Has z18 z26) fun z31 =>
 some z31
theorem spec_l05Holds_c {B : Nat → Prop} {x0 : Template} {x1 : Con} {x2 : List Int} (r : Bool) (hR : spec_l05Holds x0 x1 x2 = some r) {v0 : Value} {v1 : Value} {v2 : Value} (w0 : World) (hN : ∀ c, B c → c < w0.heap.size) (A0 : Bo B w0 (Pt 2 xJ) v0 x0) (A1 : Bo B w0 (Pt 2 oZ) v1 x1) (A2 : Bo B w0 (Sl 1 xK) v2 x2) : Calls Tryz.prog 134 #[v0, v1, v2] w0 (vR (.bool r) w0) := by
 unfold spec_l05Holds at hR
 refine oD (L := [(0, v0), (1, v1), (2, v2)]) func134 rfl rfl rfl (sc rfl (sc rfl (sc rfl sn))) (fun a F => ?_)
 have H := Sep.start hN
 refine xC (xH (xA F rfl rfl fun a F => xF (xG (xC ?_))))
 obtain ⟨z18, c19, hR⟩ := xI hR
 obtain ⟨z26, c27, hR⟩ := xI hR
 obtain ⟨z31, c32, hR⟩ := xI hR
 refine xD H (by kernel_rfl) fun w H => zZ 0 rfl (by kernel_rfl) (by kernel_rfl) (by kernel_rfl) (qO F rfl (fun w l => xP F rfl) fun a F => b_q 1 (by kernel_rfl) rfl (by kernel_rfl) (by kernel_rfl) (by kernel_rfl) (by kernel_rfl) (vN F rfl rfl A0 fun a F => b_q 2 (by kernel_rfl) rfl (by kernel_rfl) (by kernel_rfl) (by kernel_rfl) (by kernel_rfl) (vF (s' := 1) fa33_1 F rfl rfl A0 xJ.f1 fun a p33 h34 F => b_q 3 (by kernel_rfl) rfl (by kernel_rfl) (by kernel_rfl) (by kernel_rfl) (by kernel_rfl) (vlS isAgg31 F rfl rfl H.v h34 fun a v35 h36 F => zZ 4 rfl (by kernel_rfl) (by kernel_rfl) (by kernel_rfl) (qO F rfl (fun w l => xP F rfl) (fun a F => ?_))))))
 refine b_q 5 (by kernel_rfl) rfl (by kernel_rfl) (by kernel_rfl) (by kernel_rfl) (by kernel_rfl) (vN F rfl rfl A1 fun a F => b_q 6 (by kernel_rfl) rfl (by kernel_rfl) (by kernel_rfl) (by kernel_rfl) (by kernel_rfl) (vF (s' := 1) fa165_0 F rfl rfl A1 oZ.f0 fun a p37 h38 F => b_q 7 (by kernel_rfl) rfl (by kernel_rfl) (by kernel_rfl) (by kernel_rfl) (by kernel_rfl) (vlI isAgg2 F rfl rfl H.v h38 fun a i39 F => b_q 8 (by kernel_rfl) rfl (by kernel_rfl) (by kernel_rfl) (by kernel_rfl) (by kernel_rfl) (vI underlying31 sizeOf84 F rfl rfl rfl h36 c19 fun a p40 h41 F => zZ 9 rfl (by kernel_rfl) (by kernel_rfl) (by kernel_rfl) (qO F rfl (fun w l => xP F rfl) fun a F => zZ 10 rfl (by kernel_rfl) (by kernel_rfl) (by kernel_rfl) ?_)))))
 refine qO F rfl (fun w l => xP F rfl) fun a F => b_q 11 (by kernel_rfl) rfl (by kernel_rfl) (by kernel_rfl) (by kernel_rfl) (by kernel_rfl) (vN F rfl rfl A1 fun a F => b_q 12 (by kernel_rfl) rfl (by kernel_rfl) (by kernel_rfl) (by kernel_rfl) (by kernel_rfl) (vF (s' := 1) fa165_1 F rfl rfl A1 oZ.f1 fun a p42 h43 F => b_q 13 (by kernel_rfl) rfl (by kernel_rfl) (by kernel_rfl) (by kernel_rfl) (by kernel_rfl) (vlS isAgg42 F rfl rfl H.v h43 fun a v44 h45 F => xE H 14 rfl (by kernel_rfl) (oG F rfl call74 rfl (spec_l01At_c z26 c27 _ aA (H.a A2) (H.a h45)) (fun a vv w ⟨v46, hv48, S⟩ F => ?_)))))
 subst vv
 have H := H.r1 S n0
 refine xF (xG (⟨⟨_, H⟩, ?_⟩))
 refine xE H 15 rfl (by kernel_rfl) (oK F rfl call55 rfl H (spec_l01Has_c z31 c32 _ aA (H.a h41) (H.l 0 rfl)) fun a w H F => xF (xG (⟨⟨_, H⟩, ?_⟩)))
 refine zZ 16 rfl (by kernel_rfl) (by kernel_rfl) (by kernel_rfl) (qO F rfl (fun w l => vO F rfl) fun a F => b_end (by kernel_rfl) (xG (xW (xR F rfl (oO F rfl) ?_))))
 obtain rfl := Option.some.inj hR
 exact ⟨rfl, H.bl⟩

def spec_l05Failing (x0 : Template) (x1 : Instance) (x2 : List Int) : Option Int :=
 kJ (σ := Unit) (
  qT (σ := Unit) (ρ := Int) (fun (k36 : Nat) (x38 : Con) (s : Unit) =>
    match s with
    | _ =>
    oJ (spec_l05Holds x0 x38 x2) fun z53 =>
    if (!z53) then
     some (.ret ((k36 : Int)))
    else
     some (.go ())) x1.cons 0 ()) fun _ =>
 some ((-1))
theorem spec_l05Failing_c {B : Nat → Prop} {x0 : Template} {x1 : Instance} {x2 : List Int} (r : Int) (hR : spec_l05Failing x0 x1 x2 = some r) {v0 : Value} {v1 : Value} {v2 : Value} (w0 : World) (hN : ∀ c, B c → c < w0.heap.size) (A0 : Bo B w0 (Pt 2 xJ) v0 x0) (A1 : Bo B w0 (Pt 2 xM) v1 x1) (A2 : Bo B w0 (Sl 1 xK) v2 x2) : Calls Tryz.prog 73 #[v0, v1, v2] w0 (SaysI r w0) := by
 unfold spec_l05Failing at hR
 refine oD (L := [(0, v0), (1, v1), (2, v2)]) func73 rfl rfl rfl (sc rfl (sc rfl (sc rfl sn))) (fun a F => ?_)
 have H := Sep.start hN
 refine xC (xH (xA F rfl rfl fun a F => xF (xG (xC (xC (xH (xA F rfl rfl fun a F => xF (xG ?_))))))))
 obtain ⟨o30, hR, hk31⟩ := xS hR
 refine oQ (fun a w => o30 = .nx () ∧ Sk a 28 [] ∧ Sep [] B w0 w []) ?_ ?_
 ·
  refine oU ?_
  obtain ⟨fl34, hf35, hR⟩ := qP hR
  refine qU (fun g a w => ∃ (k36 : Nat) (rest37 : List Con), (k36 ≤ x1.cons.length ∧ x1.cons.drop k36 = rest37) ∧ rest37.length = g ∧ qT fl34 rest37 k36 () = some o30 ∧ Sk a 28 [(7, .int .i64 (k36 : Int)), (0, v0), (1, v1), (2, v2)] ∧ Sep [] B w0 w []) x1.cons.length ?_ ?_
  ·
   exact ⟨0, x1.cons, ⟨Nat.zero_le _, rfl⟩, rfl, hR, F.sub (sc rfl (sc rfl (sc rfl (sc rfl sn)))), H⟩
  intro g39 a w ⟨k36, rest37, hd40, hg41, hR, F, H⟩
  cases rest37 with
  | nil =>
   replace hR := qS hR
   have hkk36 := qR hd40.1 hd40.2
   have hlk36 := vW hkk36
   refine xC (xC (xH (xB F rfl rfl fun a F => xB F rfl rfl fun a F => oN F rfl rfl A1 fun a F => oF (s' := 1) fa58_1 F rfl rfl A1 xM.f1 fun a p56 h57 F => olS isAgg56 F rfl rfl H.sm h57 fun a v58 h59 F => oL underlying56 F rfl rfl h59 fun a i60 F => oR F rfl rfl rfl fun a F => xF ?_)))
   refine xG (vV F rfl hlk36 (qK (qQ (qQ (zT (xG ?_))))))
   exact ⟨(Option.some.inj hR).symm, F.sub sn, H⟩
  | cons x38 rest37 =>
   subst hg41
   replace hd40 := qD hd40.2
   have hxk36 := qG hd40.2.1
   obtain ⟨ck36, hR, hn33⟩ := qC hR
   rw [hf35] at hR
   have hlk36 := vA hd40.1
   refine xC (xC (xH (xB F rfl rfl fun a F => xB F rfl rfl fun a F => oN F rfl rfl A1 fun a F => oF (s' := 1) fa58_1 F rfl rfl A1 xM.f1 fun a p42 h43 F => olS isAgg56 F rfl rfl H.sm h43 fun a v44 h45 F => oL underlying56 F rfl rfl h45 fun a i46 F => oR F rfl rfl rfl fun a F => xF ?_)))
   refine xG (vZ F rfl hlk36 (xO (xG (xC ?_))))
   have ikk36 := k64 (Nat.le_of_lt hd40.1) i46
   have ink36 := zW hd40.1 i46
   refine oU (xC (xH (xB F rfl rfl fun a F => xB F rfl rfl fun a F => oN F rfl rfl A1 fun a F => oF (s' := 1) fa58_1 F rfl rfl A1 xM.f1 fun a p47 h48 F => olS isAgg56 F rfl rfl H.sm h48 fun a v49 h50 F => xB F rfl rfl fun a F => oI underlying56 sizeOf165 F rfl rfl rfl h50 hxk36 fun a p51 h52 F => xB F rfl rfl (fun a F => ?_))))
   obtain ⟨z53, c54, hR⟩ := xI hR
   refine oK F rfl call134 rfl H (spec_l05Holds_c z53 c54 _ aA (H.a A0) (H.a h52) (H.a A2)) fun a w H F => kE F rfl rfl fun a F => xF (xG (vC F rfl (fun hb55 => ?_) (fun hb55 => ?_)))
   ·
    replace hR := zD hb55 hR
    refine xC (xH (xB F rfl rfl fun a F => xA F rfl rfl fun a F => xF (xG (xW (kB (oV (oV ?_)))))))
    replace hR := l_ret hR hn33
    refine kB (oV ?_)
    replace hR := j_ret hR hk31
    refine oV (xR F rfl (oO F rfl) ?_)
    obtain rfl := Option.some.inj hR
    exact ⟨⟨rfl, H.bl⟩, ikk36⟩
   replace hR := zE hb55 hR
   refine xO (zN (xG (xH (xB F rfl rfl fun a F => vM F rfl rfl rfl ink36 fun a F => xA F rfl rfl fun a F => xF (xG ?_)))))
   replace hR := zH hR hn33
   exact ⟨_, Nat.lt_succ_self _, k36 + 1, rest37, ⟨hd40.1, hd40.2.2⟩, rfl, hR, F.sub (sc rfl (sc rfl (sc rfl (sc rfl sn)))), H⟩
 intro a w ⟨ho32, F, H⟩
 subst ho32
 have hR := xZ hk31
 refine xG (xC (xH (xA F rfl rfl fun a F => xF (xG (xW (xR F rfl (oO F rfl) ?_))))))
 obtain rfl := Option.some.inj hR
 exact ⟨⟨rfl, H.bl⟩, (show xY (-1) by decide)⟩

def impl_failing_1 (N : Nat) (x0 : Con) (y0 : Template) (y1 : (List Int)) : Option Bool :=
 oJ (ix y0.rels x0.rel) fun z19 =>
 oJ (impl_chosen y1 x0.scope) fun z27 =>
 oJ (impl_Rel_has N z19 z27) fun z32 =>
 some ((!z32))
theorem impl_failing_1_c {B : Nat → Prop} {N : Nat} {x0 : Con} {y0 : Template} {y1 : (List Int)} (r : Bool) (hR : impl_failing_1 N x0 y0 y1 = some r) {v0 : Value} {v1 : Value} {v2 : Value} (w0 : World) (hN : ∀ c, B c → c < w0.heap.size) (A0 : Bo B w0 (qH 2 oZ) v0 x0) (A1 : Bo B w0 (Pt 2 xJ) v1 y0) (A2 : Bo B w0 (Pt 1 (RSl 1 xK)) v2 y1) : Calls Tryz.prog 139 #[v0, v1, v2] w0 (vR (.bool r) w0) := by
 unfold impl_failing_1 at hR
 refine oD (L := [(0, v0), (1, v1), (2, v2)]) func139 rfl rfl rfl (sc rfl (sc rfl (sc rfl sn))) (fun a F => ?_)
 have H := Sep.start hN
 refine xC (xH ?_)
 obtain ⟨v12, rfl, i11, h13⟩ := oZ.o A0
 refine oX F rfl rfl rfl H fun a w b14 H F => xA F rfl rfl fun a F => xF (xG (xC ?_))
 obtain ⟨z19, c20, hR⟩ := xI hR
 obtain ⟨z27, c28, hR⟩ := xI hR
 obtain ⟨z32, c33, hR⟩ := xI hR
 obtain ⟨w39, rfl⟩ : ∃ x, x = w := ⟨_, rfl⟩
 obtain ⟨X34, N35, g36, e37, H, th38⟩ := H.fz
 have K40 := g36.bk
 refine xD H (by kernel_rfl) fun w H => b_q 0 (by kernel_rfl) rfl (by kernel_rfl) (by kernel_rfl) (by kernel_rfl) (by kernel_rfl) (vF (s' := 1) fa33_1 F rfl rfl (e37 A1) xJ.f1 fun a p41 h42 F => b_q 1 (by kernel_rfl) rfl (by kernel_rfl) (by kernel_rfl) (by kernel_rfl) (by kernel_rfl) (vlS isAgg31 F rfl rfl H.v h42 fun a v43 h44 F => b_q 2 (by kernel_rfl) rfl (by kernel_rfl) (by kernel_rfl) (by kernel_rfl) (by kernel_rfl) (qO F rfl (fun w l => zJ fa165_0 F rfl rfl) fun a F => b_q 3 (by kernel_rfl) rfl (by kernel_rfl) (by kernel_rfl) (by kernel_rfl) (by kernel_rfl) (vB isAgg2 F rfl rfl (K40.v H.sm) rfl fun a F => b_q 4 (by kernel_rfl) rfl (by kernel_rfl) (by kernel_rfl) (by kernel_rfl) (by kernel_rfl) (vI underlying31 sizeOf84 F rfl rfl rfl h44 c20 (fun a p45 h46 F => ?_))))))
 refine b_q 5 (by kernel_rfl) rfl (by kernel_rfl) (by kernel_rfl) (by kernel_rfl) (by kernel_rfl) (vlA isAgg84 sizeOf84 F rfl rfl H.v h46 fun a v47 h48 F => b_q 6 (by kernel_rfl) rfl (by kernel_rfl) (by kernel_rfl) (by kernel_rfl) (by kernel_rfl) (vlS isAgg42 F rfl rfl H.v (e37 A2) fun a v49 h50 F => b_q 7 (by kernel_rfl) rfl (by kernel_rfl) (by kernel_rfl) (by kernel_rfl) (by kernel_rfl) (qO F rfl (fun w l => zJ fa165_1 F rfl rfl) fun a F => b_q 8 (by kernel_rfl) rfl (by kernel_rfl) (by kernel_rfl) (by kernel_rfl) (by kernel_rfl) (vB isAgg42 F rfl rfl (K40.v H.sm) rfl fun a F => xE H 9 rfl (by kernel_rfl) (oG F rfl call77 rfl (impl_chosen_c z27 c28 _ aA (H.a h50) (H.a (e37 h13))) (fun a vv w ⟨v51, hv53, S⟩ F => ?_))))))
 subst vv
 have H := H.r1 S n0
 refine xF (xG (⟨⟨_, H⟩, ?_⟩))
 refine xE H 10 rfl (by kernel_rfl) (oK F rfl call105 rfl H (impl_Rel_has_c z32 c33 _ aA (H.a h48) (H.l 0 rfl)) fun a w H F => xF (xG (⟨⟨_, H⟩, ?_⟩)))
 refine zZ 11 rfl (by kernel_rfl) (by kernel_rfl) (by kernel_rfl) (qO F rfl (fun w l => r_not F rfl) fun a F => zZ 12 rfl (by kernel_rfl) (by kernel_rfl) (by kernel_rfl) (qO F rfl (fun w l => vO F rfl) fun a F => b_end (by kernel_rfl) (xG (xW ?_))))
 have H := (th38.1 H (Ns.all ⟨n0, trivial⟩))
 refine xR F rfl (oO F rfl) ?_
 obtain rfl := Option.some.inj hR
 exact ⟨rfl, H.bl⟩

def impl_failing (N : Nat) (x0 : Template) (x1 : Instance) (x2 : List Int) : Option Int :=
 oJ (zC x1.cons (fun a0 => impl_failing_1 N a0 (Template.mk x0.size x0.rels) x2)) fun z20 =>
 some z20
theorem impl_failing_c {B : Nat → Prop} {N : Nat} {x0 : Template} {x1 : Instance} {x2 : List Int} (r : Int) (hR : impl_failing N x0 x1 x2 = some r) {v0 : Value} {v1 : Value} {v2 : Value} (w0 : World) (hN : ∀ c, B c → c < w0.heap.size) (A0 : Bo B w0 (qH 2 xJ) v0 x0) (A1 : Bo B w0 (qH 2 xM) v1 x1) (A2 : Bo B w0 (Sl 1 xK) v2 x2) : Calls Tryz.prog 76 #[v0, v1, v2] w0 (SaysI r w0) := by
 unfold impl_failing at hR
 refine oD (L := [(0, v0), (1, v1), (2, v2)]) func76 rfl rfl rfl (sc rfl (sc rfl (sc rfl sn))) (fun a F => ?_)
 have H := Sep.start hN
 refine xC (xH ?_)
 obtain ⟨v12, rfl, i11, h13⟩ := xJ.o A0
 refine oX F rfl rfl rfl H (fun a w b14 H F => ?_)
 obtain ⟨v16, rfl, i15, h17⟩ := xM.o A1
 refine oX F rfl rfl rfl H fun a w b18 H F => oX F rfl rfl (one_cells (H.a A2).one) H fun a w b19 H F => xA F rfl rfl fun a F => xF (xG (xC (xH (oM fa58_1 F rfl rfl rfl fun a F => oB isAgg56 F rfl rfl (H.b 1 rfl) rfl fun a F => o_func F rfl rfl rfl (fun a F => ?_)))))
 obtain ⟨z20, c21, hR⟩ := xI hR
 refine oKI F rfl call138 rfl H (slices_IndexFunc_s_Con_Con_c z20 c21 _ aA (H.a h17) call139 (fun a0 r h W l1 u0 f0 => impl_failing_1_c r h W aA f0 ((xJ.b (H.g 2 rfl).bk i11 (H.a h13)).w l1) ((c1S (H.g 0 rfl).bk (H.a A2)).w l1))) fun a w H iz20 F => xA F rfl rfl fun a F => xF (xG (xW (xR F rfl (oO F rfl) ?_)))
 obtain rfl := Option.some.inj hR
 exact ⟨⟨rfl, H.bl⟩, iz20⟩

end Go.Proofs.YtmgdjaiaekhkgaaGreat
