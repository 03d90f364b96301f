/-
  Functions of the program as plain functions, and that they compute them. Printed by sg.py.
-/
import Derived.Test.YtmgdjaiaekhkgaaGreatS1b
namespace Go.Proofs.YtmgdjaiaekhkgaaGreat
open Go.Proofs.Tryz
set_option maxHeartbeats 1000000
set_option linter.unusedVariables false
set_option linter.unusedSimpArgs false
set_option maxRecDepth 100000
open Go.RowKit
def zV (x0 : List Int) : Option (List Int) :=
 some x0
theorem slices_Clip_s_int64_int64_c {B : Nat → Prop} {x0 : List Int} (r : (List Int)) (hR : zV x0 = some r) {v0 : Value} (w0 : World) (hN : ∀ c, B c → c < w0.heap.size) (A0 : Bo B w0 (Sl 1 xK) v0 x0) : Calls Tryz.prog 222 #[v0] w0 (Gv (fun v w' => ∃ (v1' : Option Addr), v = (.slice v1' r.length r.length) ∧ Sep [] B w0 w' [] ∧ Bo B w0 (Sl 1 xK) (.slice v1' r.length r.length) r)) := by
 unfold zV at hR
 refine oD (L := [(0, v0)]) func222 rfl rfl rfl (sc rfl sn) (fun a F => ?_)
 have H := Sep.start hN
 refine xC (xH (xA F rfl rfl fun a F => xF (xG (xC (xH (xB F rfl rfl fun a F => xB F rfl rfl fun a F => oL underlying42 F rfl rfl A0 fun a i11 F => xB F rfl rfl (fun a F => ?_)))))))
 refine oL underlying42 F rfl rfl A0 fun a i12 F => oCl underlying42 sizeOf2 F rfl rfl rfl rfl A0 fun a p13 h14 F => xA F rfl rfl fun a F => xF (xG (xW (xR F rfl (oO F rfl) ?_)))
 obtain rfl := Option.some.inj hR
 exact ⟨_, rfl, p13, rfl, H, h14⟩

def impl_solver_goes_1 (N : Nat) (x0 : Atom) (y0 : solver) (y1 : (List Int)) : Option Bool :=
 oJ (kQ N y0.t (Atom.mk x0.rel x0.args) y1) fun z23 =>
 some ((!z23))
theorem impl_solver_goes_1_c {B : Nat → Prop} {N : Nat} {x0 : Atom} {y0 : solver} {y1 : (List Int)} (r : Bool) (hR : impl_solver_goes_1 N x0 y0 y1 = some r) {v0 : Value} {v1 : Value} {v2 : Value} (w0 : World) (hN : ∀ c, B c → c < w0.heap.size) (A0 : Bo B w0 (qH 2 xU) v0 x0) (A1 : Bo B w0 (Pt 1 (RP 4 vL)) v1 y0) (A2 : Bo B w0 (Pt 1 (RSl 1 xK)) v2 y1) : Calls Tryz.prog 220 #[v0, v1, v2] w0 (vR (.bool r) w0) := by
 unfold impl_solver_goes_1 at hR
 refine oD (L := [(0, v0), (1, v1), (2, v2)]) func220 rfl rfl rfl (sc rfl (sc rfl (sc rfl sn))) (fun a F => ?_)
 have H := Sep.start hN
 refine xC (xH ?_)
 obtain ⟨v12, rfl, i11, h13⟩ := xU.o A0
 refine oX F rfl rfl rfl H fun a w b14 H F => xA F rfl rfl fun a F => xF (xG (xC (xQ H (by kernel_rfl) (by kernel_rfl) (qlP isAgg133 F rfl rfl H.q A1 fun a v15 h16 F => qN F rfl rfl h16 fun a F => qF (s' := 2) fa257_0 F rfl rfl h16 vL.f0 fun a p17 h18 F => qlA isAgg33 sizeOf33 F rfl rfl H.q h18 fun a v19 h20 F => qBA isAgg158 sizeOf158 F rfl rfl (H.qb 0 rfl) rfl rfl (fun a F => ?_)))))
 refine qlS isAgg42 F rfl rfl H.q A2 (fun a v21 h22 F => ?_)
 obtain ⟨z23, c24, hR⟩ := xI hR
 refine q_says F rfl call221 rfl (fun w w' h l => l.through h) (fun w l => impl_Template_holds_c z23 c24 w aA ((H.go l).a h20) (xU.m i11 ((H.go l).a h13)) ((H.go l).a h22)) fun a F => xN F rfl (fun w l => r_not F rfl) fun a F => xN F rfl (fun w l => vO F rfl) fun a F => kA fun w H => xG (xW (xR F rfl (oO F rfl) ?_))
 obtain rfl := Option.some.inj hR
 exact ⟨rfl, H.bl⟩

def kZ (N : Nat) (x0 : solver) (x1 : List Int) : Option Bool :=
 oJ (ck ((x1.length : Int) - 1)) fun z18 =>
 oJ (ix x0.due z18) fun z20 =>
 oJ (vQ z20 (fun a0 => impl_solver_goes_1 N a0 x0 x1)) fun z26 =>
 some ((!z26))
theorem impl_solver_goes_c {B : Nat → Prop} {N : Nat} {x0 : solver} {x1 : List Int} (r : Bool) (hR : kZ N x0 x1 = some r) {v0 : Value} {v1 : Value} (w0 : World) (hN : ∀ c, B c → c < w0.heap.size) (A0 : Bo B w0 (Pt 4 vL) v0 x0) (A1 : Bo B w0 (Sl 1 xK) v1 x1) : Calls Tryz.prog 167 #[v0, v1] w0 (vR (.bool r) w0) := by
 unfold kZ at hR
 refine oD (L := [(0, v0), (1, v1)]) func167 rfl rfl rfl (sc rfl (sc rfl sn)) (fun a F => ?_)
 have H := Sep.start hN
 refine xC (xH (oX F rfl rfl (one_cells (H.a A0).pone) H fun a w b11 H F => oX F rfl rfl (one_cells (H.a A1).one) H fun a w b12 H F => xA F rfl rfl fun a F => xF (xG (xC (xQ H (by kernel_rfl) (by kernel_rfl) (qB isAgg133 F rfl rfl (H.qb 1 rfl) rfl fun a F => qN F rfl rfl A0 (fun a F => ?_)))))))
 refine qF (s' := 1) fa257_2 F rfl rfl A0 vL.f2 fun a p13 h14 F => qlS isAgg255 F rfl rfl H.q h14 fun a v15 h16 F => qB isAgg42 F rfl rfl (H.qb 0 rfl) rfl fun a F => qL underlying42 F rfl rfl A1 (fun a i17 F => ?_)
 obtain ⟨z18, c19, hR⟩ := xI hR
 refine xN F rfl (fun w l => r_sub F rfl rfl c19) (fun a F => ?_)
 obtain ⟨z20, c21, hR⟩ := xI hR
 refine qI underlying255 sizeOf93 F rfl rfl rfl h16 c21 fun a p22 h23 F => qlS isAgg93 F rfl rfl H.q h23 fun a v24 h25 F => xN F rfl (fun w l => r_func F rfl rfl) (fun a F => ?_)
 obtain ⟨z26, c27, hR⟩ := xI hR
 refine q_says F rfl call178 rfl (fun w w' h l => l.through h) (fun w l => slices_ContainsFunc_s_Atom_Atom_c z26 c27 w aA ((H.go l).a h25) call220 (fun a0 r h W l1 u0 f0 => impl_solver_goes_1_c r h W aA f0 ((c1P ((H.go l).g 1 rfl).bk ((H.go l).a A0)).w l1) ((c1S ((H.go l).g 0 rfl).bk ((H.go l).a A1)).w l1))) fun a F => xN F rfl (fun w l => r_not F rfl) fun a F => xN F rfl (fun w l => vO F rfl) fun a F => kA fun w H => xG (xW (xR F rfl (oO F rfl) ?_))
 obtain rfl := Option.some.inj hR
 exact ⟨rfl, H.bl⟩
end Go.Proofs.YtmgdjaiaekhkgaaGreat
