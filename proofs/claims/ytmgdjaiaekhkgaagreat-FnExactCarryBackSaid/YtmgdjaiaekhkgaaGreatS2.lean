/-
  Functions of the program as plain functions, and that they compute them. Printed by sg.py.
-/
import Derived.Test.YtmgdjaiaekhkgaaGreatS1b
namespace Go.Proofs.YtmgdjaiaekhkgaaGreat
set_option linter.unusedVariables false
set_option linter.unusedSimpArgs false
set_option maxRecDepth 100000
open Go.RowKit
def slices_Clip_s_int64_int64 (x0 : List Int) : Option (List Int) :=
 some x0
set_option maxHeartbeats 1000000 in
theorem slices_Clip_s_int64_int64_c {B : Nat → Prop} {x0 : List Int} (r : (List Int)) (hR : slices_Clip_s_int64_int64 x0 = some r) {v0 : Value} (w0 : World) (hN : ∀ c, B c → c < w0.heap.size) (A0 : Bo B w0 (Sl 1 RInt) v0 x0) : Calls Tryz.prog 222 #[v0] w0 (Gv (fun v w' => ∃ (v1' : Option Addr), v = (.slice v1' r.length r.length) ∧ Sep [] B w0 w' [] ∧ Bo B w0 (Sl 1 RInt) (.slice v1' r.length r.length) r)) := by
 unfold slices_Clip_s_int64_int64 at hR
 refine x_enter (L := [(0, v0)]) Tryz.func222 rfl rfl rfl (sc rfl sn) (fun a F => ?_)
 have H := Sep.start hN
 refine x_seq (x_reg (o_assign F rfl rfl fun a F => x_end (x_tn (x_seq (x_reg (o_move F rfl rfl fun a F => o_move F rfl rfl fun a F => oL Tryz.underlying42 F rfl rfl A0 fun a i11 F => o_move F rfl rfl (fun a F => ?_)))))))
 refine oL Tryz.underlying42 F rfl rfl A0 fun a i12 F => oCl Tryz.underlying42 Tryz.sizeOf2 F rfl rfl rfl rfl A0 fun a p13 h14 F => o_assign F rfl rfl fun a F => x_end (x_tn (x_ret (x_res1 F rfl (rv_t F rfl) ?_)))
 obtain rfl := Option.some.inj hR
 exact ⟨_, rfl, p13, rfl, H, h14⟩

def impl_solver_goes_1 (N : Nat) (x0 : Atom) (y0 : solver) (y1 : (List Int)) : Option Bool :=
 bnd (impl_Template_holds N y0.t (Atom.mk x0.rel x0.args) y1) fun z23 =>
 some ((!z23))
set_option maxHeartbeats 1000000 in
theorem impl_solver_goes_1_c {B : Nat → Prop} {N : Nat} {x0 : Atom} {y0 : solver} {y1 : (List Int)} (r : Bool) (hR : impl_solver_goes_1 N x0 y0 y1 = some r) {v0 : Value} {v1 : Value} {v2 : Value} (w0 : World) (hN : ∀ c, B c → c < w0.heap.size) (A0 : Bo B w0 (Agg 2 RAtom) v0 x0) (A1 : Bo B w0 (Pt 1 (RP 4 Rsolver)) v1 y0) (A2 : Bo B w0 (Pt 1 (RSl 1 RInt)) v2 y1) : Calls Tryz.prog 220 #[v0, v1, v2] w0 (Says (.bool r) w0) := by
 unfold impl_solver_goes_1 at hR
 refine x_enter (L := [(0, v0), (1, v1), (2, v2)]) Tryz.func220 rfl rfl rfl (sc rfl (sc rfl (sc rfl sn))) (fun a F => ?_)
 have H := Sep.start hN
 refine x_seq (x_reg ?_)
 obtain ⟨v12, rfl, i11, h13⟩ := RAtom.o A0
 refine oX F rfl rfl rfl H fun a w b14 H F => o_assign F rfl rfl fun a F => x_end (x_tn (x_seq (xQ H (by kernel_rfl) (by kernel_rfl) (qlP Tryz.isAgg133 F rfl rfl H.q A1 fun a v15 h16 F => qN F rfl rfl h16 fun a F => qF (s' := 2) fa257_0 F rfl rfl h16 Rsolver.f0 fun a p17 h18 F => qlA Tryz.isAgg33 Tryz.sizeOf33 F rfl rfl H.q h18 fun a v19 h20 F => qBA Tryz.isAgg158 Tryz.sizeOf158 F rfl rfl (H.qb 0 rfl) rfl rfl (fun a F => ?_)))))
 refine qlS Tryz.isAgg42 F rfl rfl H.q A2 (fun a v21 h22 F => ?_)
 obtain ⟨z23, c24, hR⟩ := bnd_some hR
 refine q_says F rfl Tryz.call221 rfl (fun w w' h l => l.through h) (fun w l => impl_Template_holds_c z23 c24 w aA ((H.go l).a h20) (RAtom.m i11 ((H.go l).a h13)) ((H.go l).a h22)) fun a F => q_val F rfl (fun w l => r_not F rfl) fun a F => q_val F rfl (fun w l => r_assign F rfl) fun a F => q_end fun w H => x_tn (x_ret (x_res1 F rfl (rv_t F rfl) ?_))
 obtain rfl := Option.some.inj hR
 exact ⟨rfl, H.bl⟩

def impl_solver_goes (N : Nat) (x0 : solver) (x1 : List Int) : Option Bool :=
 bnd (ck ((x1.length : Int) - 1)) fun z18 =>
 bnd (ix x0.due z18) fun z20 =>
 bnd (slices_ContainsFunc_s_Atom_Atom z20 (fun a0 => impl_solver_goes_1 N a0 x0 x1)) fun z26 =>
 some ((!z26))
set_option maxHeartbeats 1000000 in
theorem impl_solver_goes_c {B : Nat → Prop} {N : Nat} {x0 : solver} {x1 : List Int} (r : Bool) (hR : impl_solver_goes N x0 x1 = some r) {v0 : Value} {v1 : Value} (w0 : World) (hN : ∀ c, B c → c < w0.heap.size) (A0 : Bo B w0 (Pt 4 Rsolver) v0 x0) (A1 : Bo B w0 (Sl 1 RInt) v1 x1) : Calls Tryz.prog 167 #[v0, v1] w0 (Says (.bool r) w0) := by
 unfold impl_solver_goes at hR
 refine x_enter (L := [(0, v0), (1, v1)]) Tryz.func167 rfl rfl rfl (sc rfl (sc rfl sn)) (fun a F => ?_)
 have H := Sep.start hN
 refine x_seq (x_reg (oX F rfl rfl (one_cells (H.a A0).pone) H fun a w b11 H F => oX F rfl rfl (one_cells (H.a A1).one) H fun a w b12 H F => o_assign F rfl rfl fun a F => x_end (x_tn (x_seq (xQ H (by kernel_rfl) (by kernel_rfl) (qB Tryz.isAgg133 F rfl rfl (H.qb 1 rfl) rfl fun a F => qN F rfl rfl A0 (fun a F => ?_)))))))
 refine qF (s' := 1) fa257_2 F rfl rfl A0 Rsolver.f2 fun a p13 h14 F => qlS Tryz.isAgg255 F rfl rfl H.q h14 fun a v15 h16 F => qB Tryz.isAgg42 F rfl rfl (H.qb 0 rfl) rfl fun a F => qL Tryz.underlying42 F rfl rfl A1 (fun a i17 F => ?_)
 obtain ⟨z18, c19, hR⟩ := bnd_some hR
 refine q_val F rfl (fun w l => r_sub F rfl rfl c19) (fun a F => ?_)
 obtain ⟨z20, c21, hR⟩ := bnd_some hR
 refine qI Tryz.underlying255 Tryz.sizeOf93 F rfl rfl rfl h16 c21 fun a p22 h23 F => qlS Tryz.isAgg93 F rfl rfl H.q h23 fun a v24 h25 F => q_val F rfl (fun w l => r_func F rfl rfl) (fun a F => ?_)
 obtain ⟨z26, c27, hR⟩ := bnd_some hR
 refine q_says F rfl Tryz.call178 rfl (fun w w' h l => l.through h) (fun w l => slices_ContainsFunc_s_Atom_Atom_c z26 c27 w aA ((H.go l).a h25) Tryz.call220 (fun a0 r h W l1 u0 f0 => impl_solver_goes_1_c r h W aA f0 ((c1P ((H.go l).g 1 rfl).bk ((H.go l).a A0)).w l1) ((c1S ((H.go l).g 0 rfl).bk ((H.go l).a A1)).w l1))) fun a F => q_val F rfl (fun w l => r_not F rfl) fun a F => q_val F rfl (fun w l => r_assign F rfl) fun a F => q_end fun w H => x_tn (x_ret (x_res1 F rfl (rv_t F rfl) ?_))
 obtain rfl := Option.some.inj hR
 exact ⟨rfl, H.bl⟩
end Go.Proofs.YtmgdjaiaekhkgaaGreat
