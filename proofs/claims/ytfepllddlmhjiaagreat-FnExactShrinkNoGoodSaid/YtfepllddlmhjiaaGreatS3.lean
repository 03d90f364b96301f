/-
  Functions of the program as plain functions, and that they compute them. Printed by fxio.py.
-/
import Derived.Test.YtfepllddlmhjiaaGreatS2b
namespace Go.Proofs.YtfepllddlmhjiaaGreat
set_option linter.unusedVariables false
set_option linter.unusedSimpArgs false
set_option maxRecDepth 100000
open Go.RowKit
def impl_searcher_arcs (N : Nat) (x0_0 : Int) (x0_1 : List Rel) (x0_2 : Int) (x0_3 : List Con) (x0_4 : Int) (x0_5 : Int) (x0_6 : List Line) (x0_7 : List Int) (x0_8 : Int) (x1 : List (List Int)) : Option (Bool × Int × (List Line) × (List Int) × Int × (List (List Int))) :=
 if (x0_5 == x0_4) then
  some (false, x0_5, x0_6, x0_7, 7, x1)
 else
  bnd (ck (x0_5 + 1)) fun z21 =>
  bnd (impl_searcher_arcs_1 x1) fun z23 =>
  if z23 then
   some (true, z21, x0_6, x0_7, x0_8, x1)
  else
   bnd (impl_makeArcs_ends N (Template.mk x0_0 x0_1) (Instance.mk x0_2 x0_3) x1) fun z28 =>
   thn (σ := (List Line)) (
    forL (σ := (List Line)) (ρ := Bool × Int × (List Line) × (List Int) × Int × (List (List Int))) (fun (k204 : Nat) (x206 : ArcStep) (s180 : (List Line)) =>
     bnd (ap s180 ([(Line.mk 2 x206.var x206.value x206.con)])) fun z253 =>
     some (.go z253)) z28.1 0 x0_6) fun s193 =>
   some (true, z21, s193, x0_7, x0_8, z28.2)
set_option maxHeartbeats 1000000 in
theorem impl_searcher_arcs_c {N : Nat} {x0_0 : Int} {x0_1 : List Rel} {x0_2 : Int} {x0_3 : List Con} {x0_4 : Int} {x0_5 : Int} {x0_6 : List Line} {x0_7 : List Int} {x0_8 : Int} {x1 : List (List Int)} (r : Bool × Int × (List Line) × (List Int) × Int × (List (List Int))) (hR : impl_searcher_arcs N x0_0 x0_1 x0_2 x0_3 x0_4 x0_5 x0_6 x0_7 x0_8 x1 = some r) {b0 : Nat} {v0_1 : Value} {b0_1 : List Nat} {v0_3 : Value} {b0_3 : List Nat} {v0_6 : Value} {rb0_6 : List Nat} {v0_7 : Value} {rb0_7 : List Nat} {v1 : Value} {rb1 ib1 : List Nat} (w0 : World) (hx0_0 : I64 x0_0) (A0_1 : Rd (Sl 2 RRel) w0 v0_1 x0_1 b0_1) (hx0_2 : I64 x0_2) (A0_3 : Rd (Sl 2 RCon) w0 v0_3 x0_3 b0_3) (hx0_4 : I64 x0_4) (hx0_5 : I64 x0_5) (A0_6 : Row 4 RLine 161 0 w0 v0_6 x0_6 rb0_6 []) (A0_7 : Row 1 RInt 2 0 w0 v0_7 x0_7 rb0_7 []) (hx0_8 : I64 x0_8) (K0 : Blk w0 b0 #[.int .i64 x0_0, v0_1, .int .i64 x0_2, v0_3, .int .i64 x0_4, .int .i64 x0_5, v0_6, v0_7, .int .i64 x0_8] 129) (A1 : Row 1 (RSl 1 RInt) 46 0 w0 v1 x1 rb1 ib1) (dA0_1 : Dj b0_1 (rb0_6 ++ (rb0_7 ++ ([b0] ++ rb1)))) (dA0_3 : Dj b0_3 (rb0_6 ++ (rb0_7 ++ ([b0] ++ rb1)))) (dRC_0_6_C_0_7 : Dj (rb0_6 ++ []) rb0_7) (dRC_0_6_B_0 : Dj (rb0_6 ++ []) [b0]) (dRC_0_6_P_1 : Dj (rb0_6 ++ []) rb1) (dRC_0_7_C_0_6 : Dj (rb0_7 ++ []) rb0_6) (dRC_0_7_B_0 : Dj (rb0_7 ++ []) [b0]) (dRC_0_7_P_1 : Dj (rb0_7 ++ []) rb1) (dRP_1_C_0_6 : Dj (rb1 ++ ib1) rb0_6) (dRP_1_C_0_7 : Dj (rb1 ++ ib1) rb0_7) (dRP_1_B_0 : Dj (rb1 ++ ib1) [b0]) : Calls Tryz.prog 220 #[.pointer (some ⟨b0, 0, none⟩), v1] w0 (GivesX (rb0_6 ++ (rb0_7 ++ ([b0] ++ rb1))) (fun v w' => ∃ (v1' : Value) (rb2' : List Nat) (v3' : Value) (rb4' : List Nat) (ib5' : List Nat), v = .bool r.1 ∧ I64 r.2.1 ∧ Row 4 RLine 161 0 w' v1' r.2.2.1 rb2' [] ∧ Frs (rb0_6 ++ (rb0_7 ++ ([b0] ++ rb1))) w0.heap.size rb2' ∧ Row 1 RInt 2 0 w' v3' r.2.2.2.1 rb4' [] ∧ Frs (rb0_6 ++ (rb0_7 ++ ([b0] ++ rb1))) w0.heap.size rb4' ∧ I64 r.2.2.2.2.1 ∧ Blk w' b0 #[.int .i64 x0_0, v0_1, .int .i64 x0_2, v0_3, .int .i64 x0_4, .int .i64 r.2.1, v1', v3', .int .i64 r.2.2.2.2.1] 129 ∧ Row 1 (RSl 1 RInt) 46 0 w' v1 r.2.2.2.2.2 rb1 ib5' ∧ Frs ib1 w0.heap.size ib5' ∧ Dj (rb2' ++ []) rb4' ∧ Dj (rb2' ++ []) [b0] ∧ Dj (rb2' ++ []) rb1 ∧ Dj (rb4' ++ []) rb2' ∧ Dj (rb4' ++ []) [b0] ∧ Dj (rb4' ++ []) rb1 ∧ Dj (rb1 ++ ib5') rb2' ∧ Dj (rb1 ++ ib5') rb4' ∧ Dj (rb1 ++ ib5') [b0]) w0) := by
 unfold impl_searcher_arcs at hR
 refine x_enter (L := [(0, .pointer (some ⟨b0, 0, none⟩)), (1, v1)]) Tryz.func220 rfl rfl rfl (sc rfl (sc rfl sn)) (fun a F => ?_)
 have hB := Only.refl (rb0_6 ++ (rb0_7 ++ ([b0] ++ rb1))) w0
 have frA0_6 : Frs (rb0_6 ++ (rb0_7 ++ ([b0] ++ rb1))) w0.heap.size rb0_6 := Frs.mem (fun c hc => by simp [hc])
 have frA0_7 : Frs (rb0_6 ++ (rb0_7 ++ ([b0] ++ rb1))) w0.heap.size rb0_7 := Frs.mem (fun c hc => by simp [hc])
 have frK0 : Frs (rb0_6 ++ (rb0_7 ++ ([b0] ++ rb1))) w0.heap.size [b0] := Frs.mem (fun c hc => by simp at hc; simp [hc])
 have frA1 : Frs (rb0_6 ++ (rb0_7 ++ ([b0] ++ rb1))) w0.heap.size rb1 := Frs.mem (fun c hc => by simp [hc])
 have fiA1 : Frs ib1 w0.heap.size ib1 := Frs.mem (fun c hc => hc)
 refine x_seq ?_
 refine x_reg ?_
 refine o_box F rfl rfl (one_cells (A1.rd).r.one) (fun a w b11 K12 l BK12 F => ?_)
 have d13 := dj1 A0_6.memR BK12
 have d14 := dj1 A0_7.memR BK12
 have d15 := dj1 A1.memR BK12
 have nb16 := Dj.bb K0 BK12
 have d17 := (dj1 A0_6.rd.m BK12).symm
 have d18 := (dj1 A0_7.rd.m BK12).symm
 have d19 := (dj1 A1.rd.m BK12).symm
 have CK12 := Nat.le_trans hB.size BK12
 have frK12 : Frs (rb0_6 ++ (rb0_7 ++ ([b0] ++ rb1))) w0.heap.size _ := Frs.box hB.size BK12
 replace hB := hB.thru l
 replace A0_6 := A0_6.go l
 replace A0_7 := A0_7.go l
 replace A1 := A1.go l
 replace K0 := K0.thru l
 refine o_assign F rfl rfl (fun a F => ?_)
 refine x_end ?_
 refine x_tn ?_
 refine x_seq ?_
 refine x_seq ?_
 refine x_draw (by kernel_rfl) (by kernel_rfl) ?_
 refine q_val F rfl (fun w l => r_move F rfl) (fun a F => ?_)
 refine q_val F rfl (fun w l => r_nilCheck F rfl) (fun a F => ?_)
 refine q_val F rfl (fun w l => r_bfield fa129_3 F rfl rfl) (fun a F => ?_)
 refine q_val F rfl (fun w l => r_load1 Tryz.isAgg2 F rfl (((K0.thru l).cell _).trans rfl)) (fun a F => ?_)
 refine q_val F rfl (fun w l => r_move F rfl) (fun a F => ?_)
 refine q_val F rfl (fun w l => r_nilCheck F rfl) (fun a F => ?_)
 refine q_val F rfl (fun w l => r_bfield fa129_2 F rfl rfl) (fun a F => ?_)
 refine q_val F rfl (fun w l => r_load1 Tryz.isAgg2 F rfl (((K0.thru l).cell _).trans rfl)) (fun a F => ?_)
 refine q_val F rfl (fun w l => r_eql F rfl rfl) (fun a F => ?_)
 refine q_end (fun w l => ?_)
 replace hB := hB.thru l
 replace A0_6 := A0_6.go l
 replace A0_7 := A0_7.go l
 replace A1 := A1.go l
 replace K0 := K0.thru l
 replace K12 := K12.thru l
 refine x_tn ?_
 refine x_if F rfl (fun hb20 => ?_) (fun hb20 => ?_)
 ·
  replace hR := ifT hb20 hR
  refine x_seq ?_
  refine x_reg ?_
  refine o_move F rfl rfl (fun a F => ?_)
  refine o_nilCheck F rfl rfl (fun a F => ?_)
  refine o_bfield fa129_6 F rfl rfl rfl (fun a F => ?_)
  refine o_bstore Tryz.sizeOf2 F rfl rfl rfl K0 rfl (by simp) rfl (fun w K0 l => ?_)
  replace hB := hB.oo l frK0
  replace A0_6 := A0_6.goO l dRC_0_6_B_0
  replace A0_7 := A0_7.goO l dRC_0_7_B_0
  replace A1 := A1.goO l dRP_1_B_0
  refine x_end ?_
  refine x_tn ?_
  refine x_seq ?_
  refine x_reg ?_
  refine o_assign F rfl rfl (fun a F => ?_)
  refine x_end ?_
  refine x_tn ?_
  refine x_ret ?_
  refine x_tr ?_
  refine x_res1 F rfl (rv_t F rfl) ?_
  obtain rfl := Option.some.inj hR
  exact ⟨_, rfl, hB, v0_6, rb0_6, v0_7, rb0_7, ib1, rfl, hx0_5, A0_6, frA0_6, A0_7, frA0_7, (show I64 (7) by decide), K0, A1, fiA1, dRC_0_6_C_0_7, dRC_0_6_B_0, dRC_0_6_P_1, dRC_0_7_C_0_6, dRC_0_7_B_0, dRC_0_7_P_1, dRP_1_C_0_6, dRP_1_C_0_7, dRP_1_B_0⟩
 ·
  replace hR := ifF hb20 hR
  refine x_skip ?_
  refine x_tn ?_
  refine x_seq ?_
  refine x_reg ?_
  refine o_move F rfl rfl (fun a F => ?_)
  refine o_nilCheck F rfl rfl (fun a F => ?_)
  refine o_bfield fa129_3 F rfl rfl rfl (fun a F => ?_)
  refine o_bload Tryz.isAgg2 F rfl rfl K0 rfl (fun a F => ?_)
  obtain ⟨z21, c22, hR⟩ := bnd_some hR
  refine o_add F rfl rfl rfl c22 (fun a F => ?_)
  refine o_nilCheck F rfl rfl (fun a F => ?_)
  refine o_bfield fa129_3 F rfl rfl rfl (fun a F => ?_)
  refine o_bstore Tryz.sizeOf2 F rfl rfl rfl K0 rfl (by simp) rfl (fun w K0 l => ?_)
  replace hB := hB.oo l frK0
  replace A0_6 := A0_6.goO l dRC_0_6_B_0
  replace A0_7 := A0_7.goO l dRC_0_7_B_0
  replace A1 := A1.goO l dRP_1_B_0
  replace K12 := K12.only l (by simpa using nb16.symm)
  refine x_end ?_
  refine x_tn ?_
  refine x_seq ?_
  refine x_reg ?_
  refine o_func F rfl rfl rfl (fun a F => ?_)
  refine o_assign F rfl rfl (fun a F => ?_)
  refine x_end ?_
  refine x_tn ?_
  refine x_seq ?_
  refine x_seq ?_
  refine x_reg ?_
  refine o_move F rfl rfl (fun a F => ?_)
  obtain ⟨z23, c24, hR⟩ := bnd_some hR
  refine o_saysV (lb := [.pointer (some ⟨b11, 0, none⟩)]) F rfl rfl Tryz.call251 rfl (impl_searcher_arcs_1_c z23 c24 _ (cell1S K12 A1.rd)) (fun a w l F => ?_)
  replace hB := hB.thru l
  replace A0_6 := A0_6.go l
  replace A0_7 := A0_7.go l
  replace A1 := A1.go l
  replace K0 := K0.thru l
  replace K12 := K12.thru l
  refine x_end ?_
  refine x_tn ?_
  refine x_if F rfl (fun hb25 => ?_) (fun hb25 => ?_)
  ·
   replace hR := ifT hb25 hR
   refine x_seq ?_
   refine x_reg ?_
   refine o_assign F rfl rfl (fun a F => ?_)
   refine x_end ?_
   refine x_tn ?_
   refine x_ret ?_
   refine x_tr ?_
   refine x_res1 F rfl (rv_t F rfl) ?_
   obtain rfl := Option.some.inj hR
   exact ⟨_, rfl, hB, v0_6, rb0_6, v0_7, rb0_7, ib1, rfl, (ck64 c22), A0_6, frA0_6, A0_7, frA0_7, hx0_8, K0, A1, fiA1, dRC_0_6_C_0_7, dRC_0_6_B_0, dRC_0_6_P_1, dRC_0_7_C_0_6, dRC_0_7_B_0, dRC_0_7_P_1, dRP_1_C_0_6, dRP_1_C_0_7, dRP_1_B_0⟩
  ·
   replace hR := ifF hb25 hR
   refine x_skip ?_
   refine x_tn ?_
   refine x_seq ?_
   refine x_seq ?_
   refine x_drawn (by kernel_rfl) (fun w l => ?_)
   replace hB := hB.thru l
   replace A0_6 := A0_6.go l
   replace A0_7 := A0_7.go l
   replace A1 := A1.go l
   replace K0 := K0.thru l
   replace K12 := K12.thru l
   refine b_q0 0 rfl (by kernel_rfl) (by kernel_rfl) (by kernel_rfl) ?_
   refine v_val F rfl (fun w l => r_move F rfl) (fun a F => ?_)
   refine b_q 1 (by kernel_rfl) rfl (by kernel_rfl) (by kernel_rfl) (by kernel_rfl) (by kernel_rfl) ?_
   refine v_val F rfl (fun w l => r_nilCheck F rfl) (fun a F => ?_)
   refine b_q 2 (by kernel_rfl) rfl (by kernel_rfl) (by kernel_rfl) (by kernel_rfl) (by kernel_rfl) ?_
   refine v_val F rfl (fun w l => r_bfield fa129_0 F rfl rfl) (fun a F => ?_)
   refine b_q 3 (by kernel_rfl) rfl (by kernel_rfl) (by kernel_rfl) (by kernel_rfl) (by kernel_rfl) ?_
   refine v_val F rfl (fun w l => r_bloadA (cs := [.int .i64 x0_0, v0_1]) Tryz.isAgg33 Tryz.sizeOf33 F rfl (K0.thru l) rfl (fun j hj => by match j, hj with | 0, _ => rfl | 1, _ => rfl)) (fun a F => ?_)
   have h26 := RTemplate.mk2 (w := w) hx0_0 (A0_1.goO hB dA0_1)
   refine b_q0 4 rfl (by kernel_rfl) (by kernel_rfl) (by kernel_rfl) ?_
   refine v_val F rfl (fun w l => r_move F rfl) (fun a F => ?_)
   refine b_q 5 (by kernel_rfl) rfl (by kernel_rfl) (by kernel_rfl) (by kernel_rfl) (by kernel_rfl) ?_
   refine v_val F rfl (fun w l => r_nilCheck F rfl) (fun a F => ?_)
   refine b_q 6 (by kernel_rfl) rfl (by kernel_rfl) (by kernel_rfl) (by kernel_rfl) (by kernel_rfl) ?_
   refine v_val F rfl (fun w l => r_bfield fa129_1 F rfl rfl) (fun a F => ?_)
   refine b_q 7 (by kernel_rfl) rfl (by kernel_rfl) (by kernel_rfl) (by kernel_rfl) (by kernel_rfl) ?_
   refine v_val F rfl (fun w l => r_bloadA (cs := [.int .i64 x0_2, v0_3]) Tryz.isAgg51 Tryz.sizeOf51 F rfl (K0.thru l) rfl (fun j hj => by match j, hj with | 0, _ => rfl | 1, _ => rfl)) (fun a F => ?_)
   have h27 := RInstance.mk2 (w := w) hx0_2 (A0_3.goO hB dA0_3)
   refine b_q 8 (by kernel_rfl) rfl (by kernel_rfl) (by kernel_rfl) (by kernel_rfl) (by kernel_rfl) ?_
   refine v_val F rfl (fun w l => r_load1 Tryz.isAgg72 F rfl (((K12.thru l).cell _).trans rfl)) (fun a F => ?_)
   refine b_q0 9 rfl (by kernel_rfl) (by kernel_rfl) (by kernel_rfl) ?_
   refine v_val F rfl (fun w l => r_move F rfl) (fun a F => ?_)
   refine b_q0 12 rfl (by kernel_rfl) (by kernel_rfl) (by kernel_rfl) ?_
   refine v_val F rfl (fun w l => r_move F rfl) (fun a F => ?_)
   refine b_e 10 rfl (by kernel_rfl) ?_
   obtain ⟨z28, c29, hR⟩ := bnd_some hR
   have d40 : Dj (rb0_6 ++ []) rb1 := dRC_0_6_P_1
   have d41 : Dj (rb0_7 ++ []) rb1 := dRC_0_7_P_1
   have d42 : Dj [b0] rb1 := (Dj.symm (Dj.l dRP_1_B_0))
   refine o_givesX F rfl Tryz.call253 rfl (impl_makeArcs_ends_c z28 c29 _ h26 h27 (A1.base (Nat.zero_le _)) K12 (Dj.frs A0_1.m dA0_1 frA1) (Dj.frs A0_3.m dA0_3 frA1) d19) (fun a vv w l ⟨v30, rb31, ib35, hv39, h33, d37, d38, h34, fi36⟩ F => ?_)
   subst vv
   have d43 := Dj.prov dRP_1_C_0_6 A0_6.memR fi36
   have d44 := Dj.prov dRP_1_C_0_7 A0_7.memR fi36
   have d45 := Dj.prov dRP_1_B_0 (inm1 K0) fi36
   have fi46 := Frs.trans fi36 fiA1 hB.size
   have d47 := Dj.new A0_6.rd.m h33.ownR (Nat.le_refl _)
   have d48 := Dj.new A0_7.rd.m h33.ownR (Nat.le_refl _)
   have d49 := Dj.new (inm1 K0) h33.ownR (Nat.le_refl _)
   have fr50 : Frs [] w0.heap.size _ := Frs.new hB.size h33.lo
   replace h33 := h33.base (Nat.zero_le _)
   replace hB := hB.oo l frA1
   replace A0_6 := A0_6.goO l d40
   replace A0_7 := A0_7.goO l d41
   replace K0 := K0.only l (Dj.not d42)
   refine x_end ?_
   refine x_tn ?_
   refine ⟨.inr (by kernel_rfl), ?_⟩
   refine b_q 11 (by kernel_rfl) rfl (by kernel_rfl) (by kernel_rfl) (by kernel_rfl) (by kernel_rfl) ?_
   refine v_val F rfl (fun w l => r_len Tryz.underlying265 F rfl (h33.rd).r w) (fun a F => ?_)
   have i53 := (h33.rd).r.len64
   refine b_end (by kernel_rfl) ?_
   refine x_tn ?_
   obtain ⟨o174, hR, hk175⟩ := thn_some hR
   refine x_cutQ (fun a w => ∃ (s193 : List Line) (v196 : Value) (rb197 : List Nat), o174 = .nx s193 ∧ Sk a 63 [(0, .pointer (some ⟨b0, 0, none⟩)), (1, v1)] ∧ Only (rb0_6 ++ (rb0_7 ++ ([b0] ++ rb1))) w0 w ∧ Row 4 RLine 161 0 w v196 s193 rb197 ([]) ∧ Frs (rb0_6 ++ (rb0_7 ++ ([b0] ++ rb1))) w0.heap.size rb197 ∧ Row 1 RInt 2 0 w v0_7 x0_7 rb0_7 ([]) ∧ Row 1 (RSl 1 RInt) 46 0 w v1 z28.2 rb1 ib35 ∧ Blk w b0 #[.int .i64 x0_0, v0_1, .int .i64 x0_2, v0_3, .int .i64 x0_4, .int .i64 z21, v196, v0_7, .int .i64 x0_8] 129 ∧ Dj (rb197 ++ []) [b0] ∧ Dj (rb0_7 ++ []) rb197 ∧ Dj (rb197 ++ []) rb0_7 ∧ Dj (rb1 ++ ib35) rb197 ∧ Dj (rb197 ++ []) rb1) ?_ ?_
   ·
    refine x_blk ?_
    obtain ⟨fl178, hf179, hR⟩ := forL_gen hR
    refine x_loop (fun g a w => ∃ (k204 : Nat) (rest205 : List ArcStep) (s180 : List Line) (v183 : Value) (rb184 : List Nat), (k204 ≤ z28.1.length ∧ z28.1.drop k204 = rest205) ∧ rest205.length = g ∧ forL fl178 rest205 k204 s180 = some o174 ∧ Sk a 63 [(42, .int .i64 (k204 : Int)), (0, .pointer (some ⟨b0, 0, none⟩)), (1, v1), (40, v30), (41, .int .i64 (z28.1.length : Int))] ∧ Only (rb0_6 ++ (rb0_7 ++ ([b0] ++ rb1))) w0 w ∧ Row 4 RLine 161 0 w v183 s180 rb184 ([]) ∧ Frs (rb0_6 ++ (rb0_7 ++ ([b0] ++ rb1))) w0.heap.size rb184 ∧ Row 1 RInt 2 0 w v0_7 x0_7 rb0_7 ([]) ∧ Row 1 (RSl 1 RInt) 46 0 w v1 z28.2 rb1 ib35 ∧ Row 3 RArcStep 268 0 w v30 z28.1 rb31 ([]) ∧ Blk w b0 #[.int .i64 x0_0, v0_1, .int .i64 x0_2, v0_3, .int .i64 x0_4, .int .i64 z21, v183, v0_7, .int .i64 x0_8] 129 ∧ Dj (rb184 ++ []) [b0] ∧ Dj (rb0_7 ++ []) rb184 ∧ Dj (rb184 ++ []) rb0_7 ∧ Dj (rb1 ++ ib35) rb184 ∧ Dj (rb184 ++ []) rb1 ∧ Dj (rb31 ++ []) rb184 ∧ Dj (rb184 ++ []) rb31) z28.1.length ?_ ?_
    ·
     exact ⟨0, z28.1, x0_6, v0_6, rb0_6, ⟨Nat.zero_le _, rfl⟩, rfl, hR, F.sub (sc rfl (sc rfl (sc rfl (sc rfl (sc rfl sn))))), hB, A0_6, frA0_6, A0_7, h34, h33, K0, dRC_0_6_B_0, dRC_0_7_C_0_6, dRC_0_6_C_0_7, d43, dRC_0_6_P_1, (Dj.app' (Dj.symm (Dj.l d47)) (Dj.nil' _)), d47⟩
    ·
     intro g207 a w ⟨k204, rest205, s180, v183, rb184, hd208, hg209, hR, F, hB, h182, fr185, A0_7, h34, h33, K0, d186, d187, d188, d189, d190, d191, d192⟩
     cases rest205 with
     | nil =>
      replace hR := forL_nil hR
      have hkk204 := drop_nil hd208.1 hd208.2
      have hlk204 := dec_no hkk204
      refine x_seq ?_
      refine x_reg ?_
      refine o_lss F rfl rfl rfl (fun a F => ?_)
      refine x_end ?_
      refine x_tn ?_
      refine x_seq ?_
      refine x_ifF F rfl hlk204 ?_
      refine x_exit ?_
      refine x_te ?_
      refine x_te ?_
      refine x_be ?_
      refine x_tn ?_
      exact ⟨s180, v183, rb184, (Option.some.inj hR).symm, F.sub (sc rfl (sc rfl sn)), hB, h182, fr185, A0_7, h34, K0, d186, d187, d188, d189, d190⟩
     | cons x206 rest205 =>
      subst hg209
      replace hd208 := drop_cons hd208.2
      have hxk204 := ix_nat hd208.2.1
      obtain ⟨ck204, hR, hn177⟩ := forL_cons hR
      rw [hf179] at hR
      have hlk204 := dec_yes hd208.1
      refine x_seq ?_
      refine x_reg ?_
      refine o_lss F rfl rfl rfl (fun a F => ?_)
      refine x_end ?_
      refine x_tn ?_
      refine x_seq ?_
      refine x_ifT F rfl hlk204 ?_
      refine x_skip ?_
      refine x_tn ?_
      refine x_seq ?_
      have ikk204 := k64 (Nat.le_of_lt hd208.1) i53
      have ink204 := inc64 hd208.1 i53
      refine x_blk ?_
      refine x_seq ?_
      refine x_reg ?_
      refine o_rindex Tryz.underlying265 Tryz.sizeOf268 F rfl rfl rfl h33 hxk204 (fun a p210 b211 h212 s213 rp214 F => ?_)
      refine o_loadA Tryz.isAgg268 Tryz.sizeOf268 F rfl rfl h212 (fun a v215 b216 h217 s218 F => ?_)
      refine o_alloc Tryz.zeroValue268 F rfl rfl (fun a w b219 K220 l BK220 F => ?_)
      have d221 := dj1 A0_7.memR BK220
      have d222 := dj1 h34.memR BK220
      have d223 := dj1 h33.memR BK220
      have d224 := dj1 h182.memR BK220
      have nb225 := Dj.bb K0 BK220
      have d226 := (dj1 h212.m BK220).symm
      have d227 := (dj1 h217.m BK220).symm
      have d228 := (dj1 A0_7.rd.m BK220).symm
      have d229 := (dj1 h34.rd.m BK220).symm
      have d230 := (dj1 h33.rd.m BK220).symm
      have d231 := (dj1 h182.rd.m BK220).symm
      have CK220 := Nat.le_trans hB.size BK220
      have frK220 : Frs (rb0_6 ++ (rb0_7 ++ ([b0] ++ rb1))) w0.heap.size _ := Frs.box hB.size BK220
      replace hB := hB.thru l
      replace A0_7 := A0_7.go l
      replace h34 := h34.go l
      replace h33 := h33.go l
      replace h182 := h182.go l
      replace h217 := h217.go l
      replace K0 := K0.thru l
      obtain ⟨e236, i233, i234, i235, eb232⟩ := RArcStep.rd h217
      subst e236
      refine o_bstoreA (vs := [.int .i64 x206.var, .int .i64 x206.value, .int .i64 x206.con]) Tryz.sizeOf268 F rfl rfl rfl K220 (oc rfl (oc rfl (oc rfl on))) (Nat.le_of_ble_eq_true rfl) rfl (fun w K220 l => ?_)
      replace hB := hB.oo l frK220
      replace A0_7 := A0_7.goO l d228
      replace h34 := h34.goO l d229
      replace h33 := h33.goO l d230
      replace h182 := h182.goO l d231
      replace K0 := K0.only l (by simpa using nb225)
      refine x_end ?_
      refine x_tn ?_
      refine x_drawn (by kernel_rfl) (fun w l => ?_)
      replace hB := hB.thru l
      replace A0_7 := A0_7.go l
      replace h34 := h34.go l
      replace h33 := h33.go l
      replace h182 := h182.go l
      replace K0 := K0.thru l
      replace K220 := K220.thru l
      refine b_q0 0 rfl (by kernel_rfl) (by kernel_rfl) (by kernel_rfl) ?_
      refine v_val F rfl (fun w l => r_move F rfl) (fun a F => ?_)
      refine b_q0 1 rfl (by kernel_rfl) (by kernel_rfl) (by kernel_rfl) ?_
      refine v_val F rfl (fun w l => r_move F rfl) (fun a F => ?_)
      refine b_q 2 (by kernel_rfl) rfl (by kernel_rfl) (by kernel_rfl) (by kernel_rfl) (by kernel_rfl) ?_
      refine v_val F rfl (fun w l => r_nilCheck F rfl) (fun a F => ?_)
      refine b_q 3 (by kernel_rfl) rfl (by kernel_rfl) (by kernel_rfl) (by kernel_rfl) (by kernel_rfl) ?_
      refine v_val F rfl (fun w l => r_bfield fa129_4 F rfl rfl) (fun a F => ?_)
      refine b_q 4 (by kernel_rfl) rfl (by kernel_rfl) (by kernel_rfl) (by kernel_rfl) (by kernel_rfl) ?_
      refine v_val F rfl (fun w l => r_load1 Tryz.isAgg75 F rfl (((K0.thru l).cell _).trans rfl)) (fun a F => ?_)
      refine b_q 5 (by kernel_rfl) rfl (by kernel_rfl) (by kernel_rfl) (by kernel_rfl) (by kernel_rfl) ?_
      refine v_val F rfl (fun w l => r_bfield fa268_0 F rfl rfl) (fun a F => ?_)
      refine b_q 6 (by kernel_rfl) rfl (by kernel_rfl) (by kernel_rfl) (by kernel_rfl) (by kernel_rfl) ?_
      refine v_val F rfl (fun w l => r_load1 Tryz.isAgg2 F rfl (((K220.thru l).cell _).trans rfl)) (fun a F => ?_)
      refine b_q 7 (by kernel_rfl) rfl (by kernel_rfl) (by kernel_rfl) (by kernel_rfl) (by kernel_rfl) ?_
      refine v_val F rfl (fun w l => r_bfield fa268_1 F rfl rfl) (fun a F => ?_)
      refine b_q 8 (by kernel_rfl) rfl (by kernel_rfl) (by kernel_rfl) (by kernel_rfl) (by kernel_rfl) ?_
      refine v_val F rfl (fun w l => r_load1 Tryz.isAgg2 F rfl (((K220.thru l).cell _).trans rfl)) (fun a F => ?_)
      refine b_q 9 (by kernel_rfl) rfl (by kernel_rfl) (by kernel_rfl) (by kernel_rfl) (by kernel_rfl) ?_
      refine v_val F rfl (fun w l => r_bfield fa268_2 F rfl rfl) (fun a F => ?_)
      refine b_q 10 (by kernel_rfl) rfl (by kernel_rfl) (by kernel_rfl) (by kernel_rfl) (by kernel_rfl) ?_
      refine v_val F rfl (fun w l => r_load1 Tryz.isAgg2 F rfl (((K220.thru l).cell _).trans rfl)) (fun a F => ?_)
      refine b_q 11 (by kernel_rfl) rfl (by kernel_rfl) (by kernel_rfl) (by kernel_rfl) (by kernel_rfl) ?_
      refine v_val F rfl (fun w l => r_build Tryz.underlying161 Tryz.zeroValue161 (fun w => by simp [Tryz.sizeOf2]; rfl) F rfl rfl rfl rfl (oc rfl (oc rfl (oc rfl (oc rfl on)))) rfl rfl) (fun a F => ?_)
      have h237 := RLine.mk2 (w := w) (show I64 (2) by decide) i233 i234 i235
      refine b_e 12 rfl (by kernel_rfl) ?_
      refine o_lit1 (R := RLine) (y := (Line.mk 2 x206.var x206.value x206.con)) Tryz.underlying75 Tryz.sizeOf161 Tryz.zeroValue161 rfl (by decide) (by decide) F rfl rfl (El.agg h237) (fun a w v238 rb239 h240 l F => ?_)
      have d242 := Dj.new A0_7.rd.m h240.ownR (Nat.le_refl _)
      have d243 := Dj.new h34.rd.m h240.ownR (Nat.le_refl _)
      have d244 := Dj.new h33.rd.m h240.ownR (Nat.le_refl _)
      have d245 := Dj.new h182.rd.m h240.ownR (Nat.le_refl _)
      have d246 := Dj.new (inm1 K0) h240.ownR (Nat.le_refl _)
      have d247 := Dj.app' (Dj.new A0_7.memR h240.ownR (Nat.le_refl _)).symm (Dj.nil' _)
      have d248 := Dj.app' (Dj.new h34.memR h240.ownR (Nat.le_refl _)).symm (Dj.nil' _)
      have d249 := Dj.app' (Dj.new h34.mem h240.ownR (Nat.le_refl _)).symm (Dj.nil' _)
      have d250 := Dj.app' (Dj.new h33.memR h240.ownR (Nat.le_refl _)).symm (Dj.nil' _)
      have d251 := Dj.app' (Dj.new h182.memR h240.ownR (Nat.le_refl _)).symm (Dj.nil' _)
      have fr252 : Frs [] w0.heap.size _ := Frs.new hB.size h240.lo
      replace h240 := h240.base (Nat.zero_le _)
      replace hB := hB.thru l
      replace A0_7 := A0_7.go l
      replace h34 := h34.go l
      replace h33 := h33.go l
      replace h182 := h182.go l
      replace K0 := K0.thru l
      refine x_end ?_
      refine x_tn ?_
      refine ⟨.inl l, ?_⟩
      refine b_e 13 rfl (by kernel_rfl) ?_
      obtain ⟨z253, c254, hR⟩ := bnd_some hR
      refine o_append (sz := 4) (R := RLine) (z := (.agg #[.int .i64 0, .int .i64 0, .int .i64 0, .int .i64 0])) (bytes := 32) Tryz.underlying75 (by kernel_rfl) rfl (by decide) (by decide) (by decide) F rfl rfl rfl h182 h240.src (Nat.zero_le _) (Dj.nil _) c254 (fun a w v255 rb256 h257 l keep F => ?_)
      replace h257 := row_nil2 h257
      have fr259 := Frs.keep fr185 hB.size keep
      have d260 := keep _ (inm1 K0) (Dj.symm (Dj.l d186))
      have d261 := keep _ A0_7.rd.m d187
      have d262 := keep _ h34.rd.m d189
      have d263 := keep _ h33.rd.m d191
      replace hB := hB.oo l fr185
      replace A0_7 := A0_7.goO l d187
      replace h34 := h34.goO l d189
      replace h33 := h33.goO l d191
      replace K0 := K0.only l (Dj.symm (Dj.l d186)).not
      refine x_end ?_
      refine x_tn ?_
      refine ⟨.inr (by kernel_rfl), ?_⟩
      refine b_q 14 (by kernel_rfl) rfl (by kernel_rfl) (by kernel_rfl) (by kernel_rfl) (by kernel_rfl) ?_
      refine v_val F rfl (fun w l => r_nilCheck F rfl) (fun a F => ?_)
      refine b_q 15 (by kernel_rfl) rfl (by kernel_rfl) (by kernel_rfl) (by kernel_rfl) (by kernel_rfl) ?_
      refine v_val F rfl (fun w l => r_bfield fa129_4 F rfl rfl) (fun a F => ?_)
      refine b_e 16 rfl (by kernel_rfl) ?_
      refine o_bstore Tryz.sizeOf75 F rfl rfl rfl K0 (h257.rd).r.one (by simp) rfl (fun w K0 l => ?_)
      replace hB := hB.oo l frK0
      replace A0_7 := A0_7.goO l dRC_0_7_B_0
      replace h34 := h34.goO l d45
      replace h33 := h33.goO l (Dj.app' (Dj.symm d49) (Dj.nil' _))
      replace h257 := h257.goO l (Dj.app' (Dj.symm d260) (Dj.nil' _))
      refine x_end ?_
      refine x_tn ?_
      refine ⟨.inr (by kernel_rfl), ?_⟩
      refine b_end (by kernel_rfl) ?_
      refine x_bn ?_
      refine x_tn ?_
      refine x_reg ?_
      refine o_inc F rfl rfl rfl ink204 (fun a F => ?_)
      refine o_move F rfl rfl (fun a F => ?_)
      refine x_end ?_
      refine x_tn ?_
      replace hR := l_go hR hn177
      exact ⟨_, Nat.lt_succ_self _, k204 + 1, rest205, z253, v255, rb256, ⟨hd208.1, hd208.2.2⟩, rfl, hR, F.sub (sc rfl (sc rfl (sc rfl (sc rfl (sc rfl sn))))), hB, h257, fr259, A0_7, h34, h33, K0, (Dj.app' (Dj.symm d260) (Dj.nil' _)), d261, (Dj.app' (Dj.symm (Dj.l d261)) (Dj.nil' _)), d262, (Dj.app' (Dj.symm (Dj.l d262)) (Dj.nil' _)), d263, (Dj.app' (Dj.symm (Dj.l d263)) (Dj.nil' _))⟩
   ·
    intro a w ⟨s193, v196, rb197, ho176, F, hB, h195, fr198, A0_7, h34, K0, d199, d200, d201, d202, d203⟩
    subst ho176
    have hR := then_nx hk175
    refine x_tn ?_
    refine x_seq ?_
    refine x_reg ?_
    refine o_assign F rfl rfl (fun a F => ?_)
    refine x_end ?_
    refine x_tn ?_
    refine x_ret ?_
    refine x_res1 F rfl (rv_t F rfl) ?_
    obtain rfl := Option.some.inj hR
    exact ⟨_, rfl, hB, v196, rb197, v0_7, rb0_7, ib35, rfl, (ck64 c22), h195, fr198, A0_7, frA0_7, hx0_8, K0, h34, fi46, d201, d199, d203, d200, dRC_0_7_B_0, dRC_0_7_P_1, d202, d44, d45⟩

def impl_searcher_level : Nat → Int → (List Rel) → Int → (List Con) → Int → Int → (List Line) → (List Int) → Int → (List (List Int)) → Option (Bool × Int × (List Line) × (List Int) × Int × (List (List Int)))
  | 0, _, _, _, _, _, _, _, _, _, _ => none
  | N + 1, x0_0, x0_1, x0_2, x0_3, x0_4, x0_5, x0_6, x0_7, x0_8, x1 =>
  thn (σ := (List (List Int)) × Int × (List Line) × (List Int) × Int) (
   whl (σ := (List (List Int)) × Int × (List Line) × (List Int) × Int) (ρ := Bool × Int × (List Line) × (List Int) × Int × (List (List Int))) (fun (s : (List (List Int)) × Int × (List Line) × (List Int) × Int) =>
     match s with
     | (s875, s880, s882, s888, s894) =>
     bnd (impl_searcher_arcs N x0_0 x0_1 x0_2 x0_3 x0_4 s880 s882 s888 s894 s875) fun z941 =>
     if z941.1 then
      bnd (slices_IndexFunc_s_s_int64_s_int64 z941.2.2.2.2.2 (fun a0 => impl_isEmpty a0)) fun z974 =>
      if (decide (0 ≤ z974)) then
       bnd (ap z941.2.2.1 ([(Line.mk 3 z974 0 0)])) fun z991 =>
       some (.ret (true, z941.2.1, z991, z941.2.2.2.1, z941.2.2.2.2.1, z941.2.2.2.2.2))
      else
       bnd (impl_branch z941.2.2.2.2.2) fun z1001 =>
       if (decide (z1001 < 0)) then
        thn (σ := (List Int)) (
         forL (σ := (List Int)) (ρ := (Ctl ((List (List Int)) × Int × (List Line) × (List Int) × Int) (Bool × Int × (List Line) × (List Int) × Int × (List (List Int))))) (fun (k1135 : Nat) (x1137 : (List Int)) (s1113 : (List Int)) =>
          bnd (ix x1137 0) fun z1150 =>
          bnd (ap s1113 ([z1150])) fun z1170 =>
          some (.go z1170)) z941.2.2.2.2.2 0 []) fun s1124 =>
        some (.ret (false, z941.2.1, z941.2.2.1, s1124, z941.2.2.2.2.1, z941.2.2.2.2.2))
       else
        bnd (ix z941.2.2.2.2.2 z1001) fun z1180 =>
        bnd (ix z1180 0) fun z1191 =>
        bnd (ap z941.2.2.1 ([(Line.mk 1 z1001 z1191 0)])) fun z1212 =>
        bnd (impl_ownLists z941.2.2.2.2.2) fun z1222 =>
        bnd (ix z1222 z1001) fun z1258 =>
        bnd (impl_searcher_level N x0_0 x0_1 x0_2 x0_3 x0_4 z941.2.1 z1212 z941.2.2.2.1 z941.2.2.2.2.1 (z1222.set (z1001).toNat ([z1191]))) fun z1277 =>
        if (!z1277.1) then
         some (.ret (false, z1277.2.1, z1277.2.2.1, z1277.2.2.2.1, z1277.2.2.2.2.1, z941.2.2.2.2.2))
        else
         bnd (impl_without N z1180 z1191) fun z1322 =>
         some (.go ((z941.2.2.2.2.2.set (z1001).toNat z1322), z1277.2.1, z1277.2.2.1, z1277.2.2.2.1, z1277.2.2.2.2.1))
     else
      some (.brk (z941.2.2.2.2.2, z941.2.1, z941.2.2.1, z941.2.2.2.1, z941.2.2.2.2.1))) N (x1, x0_5, x0_6, x0_7, x0_8)) fun (s905, s910, s912, s918, s924) =>
  some (false, s910, s912, s918, s924, s905)
set_option maxHeartbeats 1000000 in
theorem impl_searcher_level_cA : ∀ (N : Nat) {x0_0 : Int} {x0_1 : List Rel} {x0_2 : Int} {x0_3 : List Con} {x0_4 : Int} {x0_5 : Int} {x0_6 : List Line} {x0_7 : List Int} {x0_8 : Int} {x1 : List (List Int)} (r : Bool × Int × (List Line) × (List Int) × Int × (List (List Int))) (hR : impl_searcher_level N x0_0 x0_1 x0_2 x0_3 x0_4 x0_5 x0_6 x0_7 x0_8 x1 = some r) {b0 : Nat} {v0_1 : Value} {b0_1 : List Nat} {v0_3 : Value} {b0_3 : List Nat} {v0_6 : Value} {rb0_6 : List Nat} {v0_7 : Value} {rb0_7 : List Nat} {v1 : Value} {rb1 ib1 : List Nat} (w0 : World) (hx0_0 : I64 x0_0) (A0_1 : Rd (Sl 2 RRel) w0 v0_1 x0_1 b0_1) (hx0_2 : I64 x0_2) (A0_3 : Rd (Sl 2 RCon) w0 v0_3 x0_3 b0_3) (hx0_4 : I64 x0_4) (hx0_5 : I64 x0_5) (A0_6 : Row 4 RLine 161 0 w0 v0_6 x0_6 rb0_6 []) (A0_7 : Row 1 RInt 2 0 w0 v0_7 x0_7 rb0_7 []) (hx0_8 : I64 x0_8) (K0 : Blk w0 b0 #[.int .i64 x0_0, v0_1, .int .i64 x0_2, v0_3, .int .i64 x0_4, .int .i64 x0_5, v0_6, v0_7, .int .i64 x0_8] 129) (A1 : Row 1 (RSl 1 RInt) 46 0 w0 v1 x1 rb1 ib1) (dA0_1 : Dj b0_1 (rb0_6 ++ (rb0_7 ++ ([b0] ++ rb1)))) (dA0_3 : Dj b0_3 (rb0_6 ++ (rb0_7 ++ ([b0] ++ rb1)))) (dRC_0_6_C_0_7 : Dj (rb0_6 ++ []) rb0_7) (dRC_0_6_B_0 : Dj (rb0_6 ++ []) [b0]) (dRC_0_6_P_1 : Dj (rb0_6 ++ []) rb1) (dRC_0_7_C_0_6 : Dj (rb0_7 ++ []) rb0_6) (dRC_0_7_B_0 : Dj (rb0_7 ++ []) [b0]) (dRC_0_7_P_1 : Dj (rb0_7 ++ []) rb1) (dRP_1_C_0_6 : Dj (rb1 ++ ib1) rb0_6) (dRP_1_C_0_7 : Dj (rb1 ++ ib1) rb0_7) (dRP_1_B_0 : Dj (rb1 ++ ib1) [b0]), Calls Tryz.prog 156 #[.pointer (some ⟨b0, 0, none⟩), v1] w0 (GivesX (rb0_6 ++ (rb0_7 ++ ([b0] ++ rb1))) (fun v w' => ∃ (v1' : Value) (rb2' : List Nat) (v3' : Value) (rb4' : List Nat) (ib5' : List Nat), v = .bool r.1 ∧ I64 r.2.1 ∧ Row 4 RLine 161 0 w' v1' r.2.2.1 rb2' [] ∧ Frs (rb0_6 ++ (rb0_7 ++ ([b0] ++ rb1))) w0.heap.size rb2' ∧ Row 1 RInt 2 0 w' v3' r.2.2.2.1 rb4' [] ∧ Frs (rb0_6 ++ (rb0_7 ++ ([b0] ++ rb1))) w0.heap.size rb4' ∧ I64 r.2.2.2.2.1 ∧ Blk w' b0 #[.int .i64 x0_0, v0_1, .int .i64 x0_2, v0_3, .int .i64 x0_4, .int .i64 r.2.1, v1', v3', .int .i64 r.2.2.2.2.1] 129 ∧ Row 1 (RSl 1 RInt) 46 0 w' v1 r.2.2.2.2.2 rb1 ib5' ∧ Frs ib1 w0.heap.size ib5' ∧ Dj (rb2' ++ []) rb4' ∧ Dj (rb2' ++ []) [b0] ∧ Dj (rb2' ++ []) rb1 ∧ Dj (rb4' ++ []) rb2' ∧ Dj (rb4' ++ []) [b0] ∧ Dj (rb4' ++ []) rb1 ∧ Dj (rb1 ++ ib5') rb2' ∧ Dj (rb1 ++ ib5') rb4' ∧ Dj (rb1 ++ ib5') [b0]) w0) := by
  intro N
  induction N with
  | zero => intro x0_0 x0_1 x0_2 x0_3 x0_4 x0_5 x0_6 x0_7 x0_8 x1 r hR; unfold impl_searcher_level at hR; cases hR
  | succ N ih =>
  intro x0_0 x0_1 x0_2 x0_3 x0_4 x0_5 x0_6 x0_7 x0_8 x1 r hR b0 v0_1 b0_1 v0_3 b0_3 v0_6 rb0_6 v0_7 rb0_7 v1 rb1 ib1 w0 hx0_0 A0_1 hx0_2 A0_3 hx0_4 hx0_5 A0_6 A0_7 hx0_8 K0 A1 dA0_1 dA0_3 dRC_0_6_C_0_7 dRC_0_6_B_0 dRC_0_6_P_1 dRC_0_7_C_0_6 dRC_0_7_B_0 dRC_0_7_P_1 dRP_1_C_0_6 dRP_1_C_0_7 dRP_1_B_0
  rw [impl_searcher_level] at hR
  refine x_enter (L := [(0, .pointer (some ⟨b0, 0, none⟩)), (1, v1)]) Tryz.func156 rfl rfl rfl (sc rfl (sc rfl sn)) (fun a F => ?_)
  have hB := Only.refl (rb0_6 ++ (rb0_7 ++ ([b0] ++ rb1))) w0
  have frA0_6 : Frs (rb0_6 ++ (rb0_7 ++ ([b0] ++ rb1))) w0.heap.size rb0_6 := Frs.mem (fun c hc => by simp [hc])
  have frA0_7 : Frs (rb0_6 ++ (rb0_7 ++ ([b0] ++ rb1))) w0.heap.size rb0_7 := Frs.mem (fun c hc => by simp [hc])
  have frK0 : Frs (rb0_6 ++ (rb0_7 ++ ([b0] ++ rb1))) w0.heap.size [b0] := Frs.mem (fun c hc => by simp at hc; simp [hc])
  have frA1 : Frs (rb0_6 ++ (rb0_7 ++ ([b0] ++ rb1))) w0.heap.size rb1 := Frs.mem (fun c hc => by simp [hc])
  have fiA1 : Frs ib1 w0.heap.size ib1 := Frs.mem (fun c hc => hc)
  refine x_seq ?_
  refine x_reg ?_
  refine o_assign F rfl rfl (fun a F => ?_)
  refine x_end ?_
  refine x_tn ?_
  refine x_seq ?_
  obtain ⟨o869, hR, hk870⟩ := thn_some hR
  refine x_cutQ (fun a w => ∃ (s905 : List (List Int)) (ib908 : List Nat) (s910 : Int) (s912 : List Line) (v915 : Value) (rb916 : List Nat) (s918 : List Int) (v921 : Value) (rb922 : List Nat) (s924 : Int), o869 = .nx (s905, s910, s912, s918, s924) ∧ Sk a 94 [(0, .pointer (some ⟨b0, 0, none⟩)), (1, v1)] ∧ Only (rb0_6 ++ (rb0_7 ++ ([b0] ++ rb1))) w0 w ∧ Row 1 (RSl 1 RInt) 46 0 w v1 s905 rb1 ib908 ∧ Frs ib1 w0.heap.size ib908 ∧ I64 s910 ∧ Row 4 RLine 161 0 w v915 s912 rb916 ([]) ∧ Frs (rb0_6 ++ (rb0_7 ++ ([b0] ++ rb1))) w0.heap.size rb916 ∧ Row 1 RInt 2 0 w v921 s918 rb922 ([]) ∧ Frs (rb0_6 ++ (rb0_7 ++ ([b0] ++ rb1))) w0.heap.size rb922 ∧ I64 s924 ∧ Blk w b0 #[.int .i64 x0_0, v0_1, .int .i64 x0_2, v0_3, .int .i64 x0_4, .int .i64 s910, v915, v921, .int .i64 s924] 129 ∧ Dj (rb1 ++ ib908) [b0] ∧ Dj (rb916 ++ []) rb1 ∧ Dj (rb922 ++ []) rb1 ∧ Dj (rb916 ++ []) [b0] ∧ Dj (rb1 ++ ib908) rb916 ∧ Dj (rb922 ++ []) rb916 ∧ Dj (rb922 ++ []) [b0] ∧ Dj (rb1 ++ ib908) rb922 ∧ Dj (rb916 ++ []) rb922) ?_ ?_
  ·
   refine x_blk ?_
   obtain ⟨fl873, hf874, hR⟩ := whl_gen hR
   refine x_loop (fun g a w => ∃ (s875 : List (List Int)) (ib878 : List Nat) (s880 : Int) (s882 : List Line) (v885 : Value) (rb886 : List Nat) (s888 : List Int) (v891 : Value) (rb892 : List Nat) (s894 : Int), whl fl873 g (s875, s880, s882, s888, s894) = some o869 ∧ Sk a 94 [(0, .pointer (some ⟨b0, 0, none⟩)), (1, v1)] ∧ Only (rb0_6 ++ (rb0_7 ++ ([b0] ++ rb1))) w0 w ∧ Row 1 (RSl 1 RInt) 46 0 w v1 s875 rb1 ib878 ∧ Frs ib1 w0.heap.size ib878 ∧ I64 s880 ∧ Row 4 RLine 161 0 w v885 s882 rb886 ([]) ∧ Frs (rb0_6 ++ (rb0_7 ++ ([b0] ++ rb1))) w0.heap.size rb886 ∧ Row 1 RInt 2 0 w v891 s888 rb892 ([]) ∧ Frs (rb0_6 ++ (rb0_7 ++ ([b0] ++ rb1))) w0.heap.size rb892 ∧ I64 s894 ∧ Blk w b0 #[.int .i64 x0_0, v0_1, .int .i64 x0_2, v0_3, .int .i64 x0_4, .int .i64 s880, v885, v891, .int .i64 s894] 129 ∧ Dj (rb1 ++ ib878) [b0] ∧ Dj (rb886 ++ []) rb1 ∧ Dj (rb892 ++ []) rb1 ∧ Dj (rb886 ++ []) [b0] ∧ Dj (rb1 ++ ib878) rb886 ∧ Dj (rb892 ++ []) rb886 ∧ Dj (rb892 ++ []) [b0] ∧ Dj (rb1 ++ ib878) rb892 ∧ Dj (rb886 ++ []) rb892) N ?_ ?_
   ·
    exact ⟨x1, ib1, x0_5, x0_6, v0_6, rb0_6, x0_7, v0_7, rb0_7, x0_8, hR, F.sub (sc rfl (sc rfl sn)), hB, A1, fiA1, hx0_5, A0_6, frA0_6, A0_7, frA0_7, hx0_8, K0, dRP_1_B_0, dRC_0_6_P_1, dRC_0_7_P_1, dRC_0_6_B_0, dRP_1_C_0_6, dRC_0_7_C_0_6, dRC_0_7_B_0, dRP_1_C_0_7, dRC_0_6_C_0_7⟩
   ·
    intro g938 a w ⟨s875, ib878, s880, s882, v885, rb886, s888, v891, rb892, s894, hR, F, hB, h877, fi879, i881, h884, fr887, h890, fr893, i895, K0, d896, d897, d898, d899, d900, d901, d902, d903, d904⟩
    obtain ⟨ck935, rest936, hg940, hR, hn872⟩ := whl_round hR
    rw [hf874] at hR
    refine x_seq ?_
    refine x_seq ?_
    refine x_reg ?_
    refine o_move F rfl rfl (fun a F => ?_)
    refine o_move F rfl rfl (fun a F => ?_)
    obtain ⟨z941, c942, hR⟩ := bnd_some hR
    refine o_givesX F rfl Tryz.call220 rfl (impl_searcher_arcs_c z941 c942 _ hx0_0 (A0_1.goO hB dA0_1) hx0_2 (A0_3.goO hB dA0_3) hx0_4 i881 (h884.base (Nat.zero_le _)) (h890.base (Nat.zero_le _)) i895 K0 (h877.base (Nat.zero_le _)) (Dj.app (Dj.frs A0_1.m dA0_1 fr887) (Dj.app (Dj.frs A0_1.m dA0_1 fr893) (Dj.app (Dj.frs A0_1.m dA0_1 frK0) (Dj.frs A0_1.m dA0_1 frA1)))) (Dj.app (Dj.frs A0_3.m dA0_3 fr887) (Dj.app (Dj.frs A0_3.m dA0_3 fr893) (Dj.app (Dj.frs A0_3.m dA0_3 frK0) (Dj.frs A0_3.m dA0_3 frA1)))) d904 d899 d897 d901 d902 d898 d900 d903 d896) (fun a vv w l ⟨v944, rb945, v948, rb949, ib955, hv966, i943, h946, fr947, h950, fr951, i952, K953, h954, fi956, d957, d958, d959, d960, d961, d962, d963, d964, d965⟩ F => ?_)
    subst vv
    have fr967 := Frs.trans fr947 (Frs.app fr887 (Frs.app fr893 (Frs.app frK0 frA1))) hB.size
    have fr968 := Frs.trans fr951 (Frs.app fr887 (Frs.app fr893 (Frs.app frK0 frA1))) hB.size
    have fi969 := Frs.trans fi956 fi879 hB.size
    replace hB := hB.oo l (Frs.app fr887 (Frs.app fr893 (Frs.app frK0 frA1)))
    replace K0 := K953
    refine x_end ?_
    refine x_tn ?_
    refine x_if F rfl (fun hb973 => ?_) (fun hb973 => ?_)
    ·
     replace hR := ifT hb973 hR
     refine x_skip ?_
     refine x_tn ?_
     refine x_blk ?_
     refine x_seq ?_
     refine x_seq ?_
     refine x_reg ?_
     refine o_move F rfl rfl (fun a F => ?_)
     obtain ⟨z974, c975, hR⟩ := bnd_some hR
     refine o_saysI F rfl Tryz.call221 rfl (slices_IndexFunc_s_s_int64_s_int64_c z974 c975 _ h954.rd Tryz.call222 (fun a0 r h W l u0 c0 f0 => impl_isEmpty_c r h W f0)) (fun a w l iz974 F => ?_)
     replace hB := hB.thru l
     replace h946 := h946.go l
     replace h950 := h950.go l
     replace h954 := h954.go l
     replace K0 := K0.thru l
     refine o_assign F rfl rfl (fun a F => ?_)
     refine x_end ?_
     refine x_tn ?_
     refine x_seq ?_
     refine x_reg ?_
     refine o_move F rfl rfl (fun a F => ?_)
     refine o_geq F rfl rfl rfl (fun a F => ?_)
     refine x_end ?_
     refine x_tn ?_
     refine x_if F rfl (fun hb976 => ?_) (fun hb976 => ?_)
     ·
      replace hR := ifT hb976 hR
      refine x_seq ?_
      refine x_reg ?_
      refine o_move F rfl rfl (fun a F => ?_)
      refine o_move F rfl rfl (fun a F => ?_)
      refine o_nilCheck F rfl rfl (fun a F => ?_)
      refine o_bfield fa129_4 F rfl rfl rfl (fun a F => ?_)
      refine o_bload Tryz.isAgg75 F rfl rfl K0 rfl (fun a F => ?_)
      refine o_move F rfl rfl (fun a F => ?_)
      refine o_build Tryz.underlying161 Tryz.zeroValue161 (fun w => by simp [Tryz.sizeOf2]; rfl) F rfl rfl rfl rfl rfl (oc rfl (oc rfl on)) rfl rfl (fun a F => ?_)
      have h977 := RLine.mk2 (w := w) (show I64 (3) by decide) iz974 (show I64 0 by decide) (show I64 0 by decide)
      refine o_lit1 (R := RLine) (y := (Line.mk 3 z974 0 0)) Tryz.underlying75 Tryz.sizeOf161 Tryz.zeroValue161 rfl (by decide) (by decide) F rfl rfl (El.agg h977) (fun a w v978 rb979 h980 l F => ?_)
      have d982 := Dj.new h946.rd.m h980.ownR (Nat.le_refl _)
      have d983 := Dj.new h950.rd.m h980.ownR (Nat.le_refl _)
      have d984 := Dj.new h954.rd.m h980.ownR (Nat.le_refl _)
      have d985 := Dj.new (inm1 K0) h980.ownR (Nat.le_refl _)
      have d986 := Dj.app' (Dj.new h946.memR h980.ownR (Nat.le_refl _)).symm (Dj.nil' _)
      have d987 := Dj.app' (Dj.new h950.memR h980.ownR (Nat.le_refl _)).symm (Dj.nil' _)
      have d988 := Dj.app' (Dj.new h954.memR h980.ownR (Nat.le_refl _)).symm (Dj.nil' _)
      have d989 := Dj.app' (Dj.new h954.mem h980.ownR (Nat.le_refl _)).symm (Dj.nil' _)
      have fr990 : Frs [] w0.heap.size _ := Frs.new hB.size h980.lo
      replace h980 := h980.base (Nat.zero_le _)
      replace hB := hB.thru l
      replace h946 := h946.go l
      replace h950 := h950.go l
      replace h954 := h954.go l
      replace K0 := K0.thru l
      obtain ⟨z991, c992, hR⟩ := bnd_some hR
      refine o_append (sz := 4) (R := RLine) (z := (.agg #[.int .i64 0, .int .i64 0, .int .i64 0, .int .i64 0])) (bytes := 32) Tryz.underlying75 (by kernel_rfl) rfl (by decide) (by decide) (by decide) F rfl rfl rfl h946 h980.src (Nat.zero_le _) (Dj.nil _) c992 (fun a w v993 rb994 h995 l keep F => ?_)
      replace h995 := row_nil2 h995
      have fr997 := Frs.keep fr967 hB.size keep
      have d998 := keep _ (inm1 K0) (Dj.symm (Dj.l d958))
      have d999 := keep _ h950.rd.m d960
      have d1000 := keep _ h954.rd.m d963
      replace hB := hB.oo l fr967
      replace h950 := h950.goO l d960
      replace h954 := h954.goO l d963
      replace K0 := K0.only l (Dj.symm (Dj.l d958)).not
      refine o_nilCheck F rfl rfl (fun a F => ?_)
      refine o_bfield fa129_4 F rfl rfl rfl (fun a F => ?_)
      refine o_bstore Tryz.sizeOf75 F rfl rfl rfl K0 (h995.rd).r.one (by simp) rfl (fun w K0 l => ?_)
      replace hB := hB.oo l frK0
      replace h950 := h950.goO l d961
      replace h954 := h954.goO l d965
      replace h995 := h995.goO l (Dj.app' (Dj.symm d998) (Dj.nil' _))
      refine x_end ?_
      refine x_tn ?_
      refine x_seq ?_
      refine x_reg ?_
      refine o_assign F rfl rfl (fun a F => ?_)
      refine x_end ?_
      refine x_tn ?_
      refine x_ret ?_
      refine x_tr ?_
      refine x_br ?_
      refine x_tr ?_
      replace hR := l_ret hR hn872
      refine x_br ?_
      refine x_tr ?_
      replace hR := j_ret hR hk870
      refine x_tr ?_
      refine x_res1 F rfl (rv_t F rfl) ?_
      obtain rfl := Option.some.inj hR
      exact ⟨_, rfl, hB, v993, rb994, v948, rb949, ib955, rfl, i943, h995, fr997, h950, fr968, i952, K0, h954, fi969, (Dj.app' (Dj.symm (Dj.l d999)) (Dj.nil' _)), (Dj.app' (Dj.symm d998) (Dj.nil' _)), (Dj.app' (Dj.symm (Dj.l d1000)) (Dj.nil' _)), d999, d961, d962, d1000, d964, d965⟩
     ·
      replace hR := ifF hb976 hR
      refine x_skip ?_
      refine x_tn ?_
      refine x_seq ?_
      refine x_reg ?_
      refine o_move F rfl rfl (fun a F => ?_)
      obtain ⟨z1001, c1002, hR⟩ := bnd_some hR
      refine o_saysI F rfl Tryz.call223 rfl (impl_branch_c z1001 c1002 _ h954.rd) (fun a w l iz1001 F => ?_)
      replace hB := hB.thru l
      replace h946 := h946.go l
      replace h950 := h950.go l
      replace h954 := h954.go l
      replace K0 := K0.thru l
      refine o_assign F rfl rfl (fun a F => ?_)
      refine x_end ?_
      refine x_tn ?_
      refine x_seq ?_
      refine x_seq ?_
      refine x_reg ?_
      refine o_move F rfl rfl (fun a F => ?_)
      refine o_lss F rfl rfl rfl (fun a F => ?_)
      refine x_end ?_
      refine x_tn ?_
      refine x_if F rfl (fun hb1003 => ?_) (fun hb1003 => ?_)
      ·
       replace hR := ifT hb1003 hR
       refine x_seq ?_
       refine x_reg ?_
       refine o_move F rfl rfl (fun a F => ?_)
       refine o_lit0 (R := RInt) Tryz.underlying46 Tryz.sizeOf2 F rfl (fun a w v1004 rb1005 h1006 l F => ?_)
       have d1008 := Dj.new h946.rd.m h1006.ownR (Nat.le_refl _)
       have d1009 := Dj.new h950.rd.m h1006.ownR (Nat.le_refl _)
       have d1010 := Dj.new h954.rd.m h1006.ownR (Nat.le_refl _)
       have d1011 := Dj.new (inm1 K0) h1006.ownR (Nat.le_refl _)
       have d1012 := Dj.app' (Dj.new h946.memR h1006.ownR (Nat.le_refl _)).symm (Dj.nil' _)
       have d1013 := Dj.app' (Dj.new h950.memR h1006.ownR (Nat.le_refl _)).symm (Dj.nil' _)
       have d1014 := Dj.app' (Dj.new h954.memR h1006.ownR (Nat.le_refl _)).symm (Dj.nil' _)
       have d1015 := Dj.app' (Dj.new h954.mem h1006.ownR (Nat.le_refl _)).symm (Dj.nil' _)
       have fr1016 : Frs [] w0.heap.size _ := Frs.new hB.size h1006.lo
       replace h1006 := h1006.base (Nat.zero_le _)
       replace hB := hB.thru l
       replace h946 := h946.go l
       replace h950 := h950.go l
       replace h954 := h954.go l
       replace K0 := K0.thru l
       refine o_nilCheck F rfl rfl (fun a F => ?_)
       refine o_bfield fa129_5 F rfl rfl rfl (fun a F => ?_)
       refine o_bstore Tryz.sizeOf46 F rfl rfl rfl K0 (h1006.rd).r.one (by simp) rfl (fun w K0 l => ?_)
       replace hB := hB.oo l frK0
       replace h946 := h946.goO l d958
       replace h954 := h954.goO l d965
       replace h1006 := h1006.goO l (Dj.app' (Dj.symm d1011) (Dj.nil' _))
       refine x_end ?_
       refine x_tn ?_
       refine x_seq ?_
       refine x_seq ?_
       refine x_reg ?_
       refine o_move F rfl rfl (fun a F => ?_)
       refine o_len Tryz.underlying72 F rfl rfl h954.rd (fun a F => ?_)
       have i1017 := (h954.rd).r.len64
       refine o_move F rfl rfl (fun a F => ?_)
       refine x_end ?_
       refine x_tn ?_
       obtain ⟨o1107, hR, hk1108⟩ := thn_some hR
       refine x_cutQ (fun a w => ∃ (s1124 : List Int) (v1127 : Value) (rb1128 : List Nat), o1107 = .nx s1124 ∧ Sk a 94 [(0, .pointer (some ⟨b0, 0, none⟩)), (1, v1)] ∧ Only (rb0_6 ++ (rb0_7 ++ ([b0] ++ rb1))) w0 w ∧ Row 1 RInt 2 0 w v1127 s1124 rb1128 ([]) ∧ Frs ([]) w0.heap.size rb1128 ∧ Row 4 RLine 161 0 w v944 z941.2.2.1 rb945 ([]) ∧ Row 1 (RSl 1 RInt) 46 0 w v1 z941.2.2.2.2.2 rb1 ib955 ∧ Blk w b0 #[.int .i64 x0_0, v0_1, .int .i64 x0_2, v0_3, .int .i64 x0_4, .int .i64 z941.2.1, v944, v1127, .int .i64 z941.2.2.2.2.1] 129 ∧ Dj (rb1128 ++ []) [b0] ∧ Dj (rb945 ++ []) rb1128 ∧ Dj (rb1128 ++ []) rb945 ∧ Dj (rb1 ++ ib955) rb1128 ∧ Dj (rb1128 ++ []) rb1) ?_ ?_
       ·
        refine x_blk ?_
        obtain ⟨fl1111, hf1112, hR⟩ := forL_gen hR
        refine x_loop (fun g a w => ∃ (k1135 : Nat) (rest1136 : List (List Int)) (s1113 : List Int) (v1116 : Value) (rb1117 : List Nat), (k1135 ≤ z941.2.2.2.2.2.length ∧ z941.2.2.2.2.2.drop k1135 = rest1136) ∧ rest1136.length = g ∧ forL fl1111 rest1136 k1135 s1113 = some o1107 ∧ Sk a 94 [(39, .int .i64 (k1135 : Int)), (0, .pointer (some ⟨b0, 0, none⟩)), (1, v1), (37, v1), (38, .int .i64 (z941.2.2.2.2.2.length : Int))] ∧ Only (rb0_6 ++ (rb0_7 ++ ([b0] ++ rb1))) w0 w ∧ Row 1 RInt 2 0 w v1116 s1113 rb1117 ([]) ∧ Frs ([]) w0.heap.size rb1117 ∧ Row 4 RLine 161 0 w v944 z941.2.2.1 rb945 ([]) ∧ Row 1 (RSl 1 RInt) 46 0 w v1 z941.2.2.2.2.2 rb1 ib955 ∧ Blk w b0 #[.int .i64 x0_0, v0_1, .int .i64 x0_2, v0_3, .int .i64 x0_4, .int .i64 z941.2.1, v944, v1116, .int .i64 z941.2.2.2.2.1] 129 ∧ Dj (rb1117 ++ []) [b0] ∧ Dj (rb945 ++ []) rb1117 ∧ Dj (rb1117 ++ []) rb945 ∧ Dj (rb1 ++ ib955) rb1117 ∧ Dj (rb1117 ++ []) rb1) z941.2.2.2.2.2.length ?_ ?_
        ·
         exact ⟨0, z941.2.2.2.2.2, [], v1004, rb1005, ⟨Nat.zero_le _, rfl⟩, rfl, hR, F.sub (sc rfl (sc rfl (sc rfl (sc rfl (sc rfl sn))))), hB, h1006, fr1016, h946, h954, K0, (Dj.app' (Dj.symm d1011) (Dj.nil' _)), d1008, d1012, d1010, d1014⟩
        ·
         intro g1138 a w ⟨k1135, rest1136, s1113, v1116, rb1117, hd1139, hg1140, hR, F, hB, h1115, fr1118, h946, h954, K0, d1119, d1120, d1121, d1122, d1123⟩
         cases rest1136 with
         | nil =>
          replace hR := forL_nil hR
          have hkk1135 := drop_nil hd1139.1 hd1139.2
          have hlk1135 := dec_no hkk1135
          refine x_seq ?_
          refine x_reg ?_
          refine o_lss F rfl rfl rfl (fun a F => ?_)
          refine x_end ?_
          refine x_tn ?_
          refine x_seq ?_
          refine x_ifF F rfl hlk1135 ?_
          refine x_exit ?_
          refine x_te ?_
          refine x_te ?_
          refine x_be ?_
          refine x_tn ?_
          exact ⟨s1113, v1116, rb1117, (Option.some.inj hR).symm, F.sub (sc rfl (sc rfl sn)), hB, h1115, fr1118, h946, h954, K0, d1119, d1120, d1121, d1122, d1123⟩
         | cons x1137 rest1136 =>
          subst hg1140
          replace hd1139 := drop_cons hd1139.2
          have hxk1135 := ix_nat hd1139.2.1
          obtain ⟨ck1135, hR, hn1110⟩ := forL_cons hR
          rw [hf1112] at hR
          have hlk1135 := dec_yes hd1139.1
          refine x_seq ?_
          refine x_reg ?_
          refine o_lss F rfl rfl rfl (fun a F => ?_)
          refine x_end ?_
          refine x_tn ?_
          refine x_seq ?_
          refine x_ifT F rfl hlk1135 ?_
          refine x_skip ?_
          refine x_tn ?_
          refine x_seq ?_
          have ikk1135 := k64 (Nat.le_of_lt hd1139.1) i1017
          have ink1135 := inc64 hd1139.1 i1017
          refine x_blk ?_
          refine x_seq ?_
          refine x_reg ?_
          refine o_rindex Tryz.underlying72 Tryz.sizeOf46 F rfl rfl rfl h954 hxk1135 (fun a p1141 b1142 h1143 s1144 rp1145 F => ?_)
          refine o_loadS Tryz.isAgg46 F rfl rfl h1143 (fun a v1146 b1147 h1148 s1149 F => ?_)
          refine o_assign F rfl rfl (fun a F => ?_)
          refine x_end ?_
          refine x_tn ?_
          refine x_drawn (by kernel_rfl) (fun w l => ?_)
          replace hB := hB.thru l
          replace h946 := h946.go l
          replace h954 := h954.go l
          replace h1115 := h1115.go l
          replace h1148 := h1148.go l
          replace K0 := K0.thru l
          refine b_q0 0 rfl (by kernel_rfl) (by kernel_rfl) (by kernel_rfl) ?_
          refine v_val F rfl (fun w l => r_move F rfl) (fun a F => ?_)
          refine b_q0 1 rfl (by kernel_rfl) (by kernel_rfl) (by kernel_rfl) ?_
          refine v_val F rfl (fun w l => r_move F rfl) (fun a F => ?_)
          refine b_q 2 (by kernel_rfl) rfl (by kernel_rfl) (by kernel_rfl) (by kernel_rfl) (by kernel_rfl) ?_
          refine v_val F rfl (fun w l => r_nilCheck F rfl) (fun a F => ?_)
          refine b_q 3 (by kernel_rfl) rfl (by kernel_rfl) (by kernel_rfl) (by kernel_rfl) (by kernel_rfl) ?_
          refine v_val F rfl (fun w l => r_bfield fa129_5 F rfl rfl) (fun a F => ?_)
          refine b_q 4 (by kernel_rfl) rfl (by kernel_rfl) (by kernel_rfl) (by kernel_rfl) (by kernel_rfl) ?_
          refine v_val F rfl (fun w l => r_load1 Tryz.isAgg46 F rfl (((K0.thru l).cell _).trans rfl)) (fun a F => ?_)
          refine b_q0 5 rfl (by kernel_rfl) (by kernel_rfl) (by kernel_rfl) ?_
          refine v_val F rfl (fun w l => r_move F rfl) (fun a F => ?_)
          refine b_q 6 (by kernel_rfl) rfl (by kernel_rfl) (by kernel_rfl) (by kernel_rfl) (by kernel_rfl) ?_
          obtain ⟨z1150, c1151, hR⟩ := bnd_some hR
          refine v_index Tryz.underlying46 Tryz.sizeOf2 F rfl rfl rfl h1148 c1151 (fun a p1152 b1153 h1154 s1155 F => ?_)
          refine b_q 7 (by kernel_rfl) rfl (by kernel_rfl) (by kernel_rfl) (by kernel_rfl) (by kernel_rfl) ?_
          have i1156 := (h1154).i64
          refine v_val F rfl (fun w l => r_loadI Tryz.isAgg2 F rfl ((h1154).go l)) (fun a F => ?_)
          refine b_e 8 rfl (by kernel_rfl) ?_
          refine o_lit1 (R := RInt) (y := z1150) Tryz.underlying46 Tryz.sizeOf2 Tryz.zeroValue2 rfl (by decide) (by decide) F rfl rfl (El.int i1156) (fun a w v1157 rb1158 h1159 l F => ?_)
          have d1161 := Dj.new h946.rd.m h1159.ownR (Nat.le_refl _)
          have d1162 := Dj.new h954.rd.m h1159.ownR (Nat.le_refl _)
          have d1163 := Dj.new h1115.rd.m h1159.ownR (Nat.le_refl _)
          have d1164 := Dj.new (inm1 K0) h1159.ownR (Nat.le_refl _)
          have d1165 := Dj.app' (Dj.new h946.memR h1159.ownR (Nat.le_refl _)).symm (Dj.nil' _)
          have d1166 := Dj.app' (Dj.new h954.memR h1159.ownR (Nat.le_refl _)).symm (Dj.nil' _)
          have d1167 := Dj.app' (Dj.new h954.mem h1159.ownR (Nat.le_refl _)).symm (Dj.nil' _)
          have d1168 := Dj.app' (Dj.new h1115.memR h1159.ownR (Nat.le_refl _)).symm (Dj.nil' _)
          have fr1169 : Frs [] w0.heap.size _ := Frs.new hB.size h1159.lo
          replace h1159 := h1159.base (Nat.zero_le _)
          replace hB := hB.thru l
          replace h946 := h946.go l
          replace h954 := h954.go l
          replace h1115 := h1115.go l
          replace K0 := K0.thru l
          refine x_end ?_
          refine x_tn ?_
          refine ⟨.inl l, ?_⟩
          refine b_e 9 rfl (by kernel_rfl) ?_
          obtain ⟨z1170, c1171, hR⟩ := bnd_some hR
          refine o_append (sz := 1) (R := RInt) (z := (.int .i64 0)) (bytes := 8) Tryz.underlying46 (by kernel_rfl) rfl (by decide) (by decide) (by decide) F rfl rfl rfl h1115 h1159.src (Nat.zero_le _) (Dj.nil _) c1171 (fun a w v1172 rb1173 h1174 l keep F => ?_)
          replace h1174 := row_nil2 h1174
          have fr1176 := Frs.keep fr1118 hB.size keep
          have d1177 := keep _ (inm1 K0) (Dj.symm (Dj.l d1119))
          have d1178 := keep _ h946.rd.m d1120
          have d1179 := keep _ h954.rd.m d1122
          replace hB := hB.oo l (Frs.up fr1118)
          replace h946 := h946.goO l d1120
          replace h954 := h954.goO l d1122
          replace K0 := K0.only l (Dj.symm (Dj.l d1119)).not
          refine x_end ?_
          refine x_tn ?_
          refine ⟨.inr (by kernel_rfl), ?_⟩
          refine b_q 10 (by kernel_rfl) rfl (by kernel_rfl) (by kernel_rfl) (by kernel_rfl) (by kernel_rfl) ?_
          refine v_val F rfl (fun w l => r_nilCheck F rfl) (fun a F => ?_)
          refine b_q 11 (by kernel_rfl) rfl (by kernel_rfl) (by kernel_rfl) (by kernel_rfl) (by kernel_rfl) ?_
          refine v_val F rfl (fun w l => r_bfield fa129_5 F rfl rfl) (fun a F => ?_)
          refine b_e 12 rfl (by kernel_rfl) ?_
          refine o_bstore Tryz.sizeOf46 F rfl rfl rfl K0 (h1174.rd).r.one (by simp) rfl (fun w K0 l => ?_)
          replace hB := hB.oo l frK0
          replace h946 := h946.goO l d958
          replace h954 := h954.goO l d965
          replace h1174 := h1174.goO l (Dj.app' (Dj.symm d1177) (Dj.nil' _))
          refine x_end ?_
          refine x_tn ?_
          refine ⟨.inr (by kernel_rfl), ?_⟩
          refine b_end (by kernel_rfl) ?_
          refine x_bn ?_
          refine x_tn ?_
          refine x_reg ?_
          refine o_inc F rfl rfl rfl ink1135 (fun a F => ?_)
          refine o_move F rfl rfl (fun a F => ?_)
          refine x_end ?_
          refine x_tn ?_
          replace hR := l_go hR hn1110
          exact ⟨_, Nat.lt_succ_self _, k1135 + 1, rest1136, z1170, v1172, rb1173, ⟨hd1139.1, hd1139.2.2⟩, rfl, hR, F.sub (sc rfl (sc rfl (sc rfl (sc rfl (sc rfl sn))))), hB, h1174, fr1176, h946, h954, K0, (Dj.app' (Dj.symm d1177) (Dj.nil' _)), d1178, (Dj.app' (Dj.symm (Dj.l d1178)) (Dj.nil' _)), d1179, (Dj.app' (Dj.symm (Dj.l d1179)) (Dj.nil' _))⟩
       ·
        intro a w ⟨s1124, v1127, rb1128, ho1109, F, hB, h1126, fr1129, h946, h954, K0, d1130, d1131, d1132, d1133, d1134⟩
        subst ho1109
        have hR := then_nx hk1108
        refine x_tn ?_
        refine x_seq ?_
        refine x_reg ?_
        refine o_assign F rfl rfl (fun a F => ?_)
        refine x_end ?_
        refine x_tn ?_
        refine x_ret ?_
        refine x_tr ?_
        refine x_br ?_
        refine x_tr ?_
        replace hR := l_ret hR hn872
        refine x_br ?_
        refine x_tr ?_
        replace hR := j_ret hR hk870
        refine x_tr ?_
        refine x_res1 F rfl (rv_t F rfl) ?_
        obtain rfl := Option.some.inj hR
        exact ⟨_, rfl, hB, v944, rb945, v1127, rb1128, ib955, rfl, i943, h946, fr967, h1126, (Frs.up fr1129), i952, K0, h954, fi969, d1131, d958, d959, d1132, d1130, d1134, d963, d1133, d965⟩
      ·
       replace hR := ifF hb1003 hR
       refine x_skip ?_
       refine x_tn ?_
       refine x_seq ?_
       refine x_reg ?_
       refine o_move F rfl rfl (fun a F => ?_)
       refine o_move F rfl rfl (fun a F => ?_)
       obtain ⟨z1180, c1181, hR⟩ := bnd_some hR
       refine o_rindex Tryz.underlying72 Tryz.sizeOf46 F rfl rfl rfl h954 c1181 (fun a p1182 b1183 h1184 s1185 rp1186 F => ?_)
       refine o_loadS Tryz.isAgg46 F rfl rfl h1184 (fun a v1187 b1188 h1189 s1190 F => ?_)
       obtain ⟨z1191, c1192, hR⟩ := bnd_some hR
       refine o_index Tryz.underlying46 Tryz.sizeOf2 F rfl rfl rfl h1189 c1192 (fun a p1193 b1194 h1195 s1196 F => ?_)
       have i1197 := (h1195).i64
       refine o_loadI Tryz.isAgg2 F rfl rfl h1195 (fun a F => ?_)
       refine o_assign F rfl rfl (fun a F => ?_)
       refine x_end ?_
       refine x_tn ?_
       refine x_seq ?_
       refine x_reg ?_
       refine o_move F rfl rfl (fun a F => ?_)
       refine o_move F rfl rfl (fun a F => ?_)
       refine o_nilCheck F rfl rfl (fun a F => ?_)
       refine o_bfield fa129_4 F rfl rfl rfl (fun a F => ?_)
       refine o_bload Tryz.isAgg75 F rfl rfl K0 rfl (fun a F => ?_)
       refine o_move F rfl rfl (fun a F => ?_)
       refine o_move F rfl rfl (fun a F => ?_)
       refine o_build Tryz.underlying161 Tryz.zeroValue161 (fun w => by simp [Tryz.sizeOf2]; rfl) F rfl rfl rfl rfl rfl (oc rfl (oc rfl (oc rfl on))) rfl rfl (fun a F => ?_)
       have h1198 := RLine.mk2 (w := w) (show I64 (1) by decide) iz1001 i1197 (show I64 0 by decide)
       refine o_lit1 (R := RLine) (y := (Line.mk 1 z1001 z1191 0)) Tryz.underlying75 Tryz.sizeOf161 Tryz.zeroValue161 rfl (by decide) (by decide) F rfl rfl (El.agg h1198) (fun a w v1199 rb1200 h1201 l F => ?_)
       have d1203 := Dj.new h946.rd.m h1201.ownR (Nat.le_refl _)
       have d1204 := Dj.new h950.rd.m h1201.ownR (Nat.le_refl _)
       have d1205 := Dj.new h954.rd.m h1201.ownR (Nat.le_refl _)
       have d1206 := Dj.new (inm1 K0) h1201.ownR (Nat.le_refl _)
       have d1207 := Dj.app' (Dj.new h946.memR h1201.ownR (Nat.le_refl _)).symm (Dj.nil' _)
       have d1208 := Dj.app' (Dj.new h950.memR h1201.ownR (Nat.le_refl _)).symm (Dj.nil' _)
       have d1209 := Dj.app' (Dj.new h954.memR h1201.ownR (Nat.le_refl _)).symm (Dj.nil' _)
       have d1210 := Dj.app' (Dj.new h954.mem h1201.ownR (Nat.le_refl _)).symm (Dj.nil' _)
       have fr1211 : Frs [] w0.heap.size _ := Frs.new hB.size h1201.lo
       replace h1201 := h1201.base (Nat.zero_le _)
       replace hB := hB.thru l
       replace h946 := h946.go l
       replace h950 := h950.go l
       replace h954 := h954.go l
       replace K0 := K0.thru l
       obtain ⟨z1212, c1213, hR⟩ := bnd_some hR
       refine o_append (sz := 4) (R := RLine) (z := (.agg #[.int .i64 0, .int .i64 0, .int .i64 0, .int .i64 0])) (bytes := 32) Tryz.underlying75 (by kernel_rfl) rfl (by decide) (by decide) (by decide) F rfl rfl rfl h946 h1201.src (Nat.zero_le _) (Dj.nil _) c1213 (fun a w v1214 rb1215 h1216 l keep F => ?_)
       replace h1216 := row_nil2 h1216
       have fr1218 := Frs.keep fr967 hB.size keep
       have d1219 := keep _ (inm1 K0) (Dj.symm (Dj.l d958))
       have d1220 := keep _ h950.rd.m d960
       have d1221 := keep _ h954.rd.m d963
       replace hB := hB.oo l fr967
       replace h950 := h950.goO l d960
       replace h954 := h954.goO l d963
       replace K0 := K0.only l (Dj.symm (Dj.l d958)).not
       refine o_nilCheck F rfl rfl (fun a F => ?_)
       refine o_bfield fa129_4 F rfl rfl rfl (fun a F => ?_)
       refine o_bstore Tryz.sizeOf75 F rfl rfl rfl K0 (h1216.rd).r.one (by simp) rfl (fun w K0 l => ?_)
       replace hB := hB.oo l frK0
       replace h950 := h950.goO l d961
       replace h954 := h954.goO l d965
       replace h1216 := h1216.goO l (Dj.app' (Dj.symm d1219) (Dj.nil' _))
       refine x_end ?_
       refine x_tn ?_
       refine x_seq ?_
       refine x_reg ?_
       refine o_move F rfl rfl (fun a F => ?_)
       obtain ⟨z1222, c1223, hR⟩ := bnd_some hR
       refine o_gives F rfl Tryz.call109 rfl (impl_ownLists_c z1222 c1223 _ h954.rd) (fun a vv w l ⟨v1224, rb1225, ib1226, hv1229, h1227, ow1228⟩ F => ?_)
       subst vv
       have o1230 := h1227.own ow1228
       have d1231 := (Dj.new (inm1 K0) o1230 (Nat.le_refl _)).symm
       have d1232 := (Dj.new h950.memR o1230 (Nat.le_refl _)).symm
       have d1233 := (Dj.new h954.memR o1230 (Nat.le_refl _)).symm
       have d1234 := (Dj.new h954.mem o1230 (Nat.le_refl _)).symm
       have d1235 := (Dj.new h1216.memR o1230 (Nat.le_refl _)).symm
       have d1237 := Dj.new h950.rd.m h1227.ownR (Nat.le_refl _)
       have d1238 := Dj.new h954.rd.m h1227.ownR (Nat.le_refl _)
       have d1239 := Dj.new h1216.rd.m h1227.ownR (Nat.le_refl _)
       have d1240 := Dj.new (inm1 K0) h1227.ownR (Nat.le_refl _)
       have fr1241 : Frs [] w0.heap.size _ := Frs.new hB.size h1227.lo
       replace h1227 := h1227.base (Nat.zero_le _)
       replace ow1228 := ow1228.mono hB.size
       replace hB := hB.thru l
       replace h950 := h950.go l
       replace h954 := h954.go l
       replace h1216 := h1216.go l
       replace K0 := K0.thru l
       refine o_assign F rfl rfl (fun a F => ?_)
       refine x_end ?_
       refine x_tn ?_
       refine x_seq ?_
       refine x_reg ?_
       refine o_move F rfl rfl (fun a F => ?_)
       refine o_move F rfl rfl (fun a F => ?_)
       refine o_move F rfl rfl (fun a F => ?_)
       refine o_lit1 (R := RInt) (y := z1191) Tryz.underlying46 Tryz.sizeOf2 Tryz.zeroValue2 rfl (by decide) (by decide) F rfl rfl (El.int i1197) (fun a w v1242 rb1243 h1244 l F => ?_)
       have d1246 := Dj.new h950.rd.m h1244.ownR (Nat.le_refl _)
       have d1247 := Dj.new h954.rd.m h1244.ownR (Nat.le_refl _)
       have d1248 := Dj.new h1216.rd.m h1244.ownR (Nat.le_refl _)
       have d1249 := Dj.new h1227.rd.m h1244.ownR (Nat.le_refl _)
       have d1250 := Dj.new (inm1 K0) h1244.ownR (Nat.le_refl _)
       have d1251 := Dj.app' (Dj.new h950.memR h1244.ownR (Nat.le_refl _)).symm (Dj.nil' _)
       have d1252 := Dj.app' (Dj.new h954.memR h1244.ownR (Nat.le_refl _)).symm (Dj.nil' _)
       have d1253 := Dj.app' (Dj.new h954.mem h1244.ownR (Nat.le_refl _)).symm (Dj.nil' _)
       have d1254 := Dj.app' (Dj.new h1216.memR h1244.ownR (Nat.le_refl _)).symm (Dj.nil' _)
       have d1255 := Dj.app' (Dj.new h1227.memR h1244.ownR (Nat.le_refl _)).symm (Dj.nil' _)
       have d1256 := Dj.app' (Dj.new h1227.mem h1244.ownR (Nat.le_refl _)).symm (Dj.nil' _)
       have fr1257 : Frs [] w0.heap.size _ := Frs.new hB.size h1244.lo
       replace h1244 := h1244.base (Nat.zero_le _)
       replace hB := hB.thru l
       replace h950 := h950.go l
       replace h954 := h954.go l
       replace h1216 := h1216.go l
       replace h1227 := h1227.go l
       replace ow1228 := ow1228.go l
       replace K0 := K0.thru l
       obtain ⟨z1258, c1259, hR⟩ := bnd_some hR
       refine o_rindex Tryz.underlying72 Tryz.sizeOf46 F rfl rfl rfl h1227 c1259 (fun a p1260 b1261 h1262 s1263 rp1264 F => ?_)
       refine o_rstore Tryz.sizeOf46 F rfl rfl rfl h1227 rp1264 (ix_lt c1259) (El.sl h1244.rd) (h1244.rd).r.one (Dj.symm d1255) (fun w ib1266 h1265 l s1267 keep => ?_)
       have d1269 := keep _ h950.rd.m d1237
       have d1270 := keep _ h954.rd.m d1238
       have d1271 := keep _ h1216.rd.m d1239
       have d1272 := keep _ (inm1 K0) d1240
       replace hB := hB.oo l (Frs.up fr1241)
       replace h950 := h950.goO l d1237
       replace h954 := h954.goO l d1238
       replace h1216 := h1216.goO l d1239
       replace K0 := K0.only l d1240.not
       have d1273 := Dj.stor d1232 d1251 s1267
       have d1274 := Dj.stor d1233 d1252 s1267
       have d1275 := Dj.stor d1235 d1254 s1267
       have d1276 := Dj.stor d1231 (Dj.app' (Dj.symm d1250) (Dj.nil' _)) s1267
       refine x_end ?_
       refine x_tn ?_
       refine x_seq ?_
       refine x_seq ?_
       refine x_reg ?_
       refine o_move F rfl rfl (fun a F => ?_)
       refine o_move F rfl rfl (fun a F => ?_)
       obtain ⟨z1277, c1278, hR⟩ := bnd_some hR
       have d1303 : Dj (rb1 ++ ib955) (rb1215 ++ (rb949 ++ ([b0] ++ rb1225))) := (Dj.app d1221 (Dj.app d964 (Dj.app d965 d1270)))
       refine o_givesX F rfl Tryz.call156 rfl (ih z1277 c1278 _ hx0_0 (A0_1.goO hB dA0_1) hx0_2 (A0_3.goO hB dA0_3) hx0_4 i943 (h1216.base (Nat.zero_le _)) (h950.base (Nat.zero_le _)) i952 K0 (h1265.base (Nat.zero_le _)) (Dj.app (Dj.frs A0_1.m dA0_1 fr1218) (Dj.app (Dj.frs A0_1.m dA0_1 fr968) (Dj.app (Dj.frs A0_1.m dA0_1 frK0) (Dj.frs A0_1.m dA0_1 (Frs.up fr1241))))) (Dj.app (Dj.frs A0_3.m dA0_3 fr1218) (Dj.app (Dj.frs A0_3.m dA0_3 fr968) (Dj.app (Dj.frs A0_3.m dA0_3 frK0) (Dj.frs A0_3.m dA0_3 (Frs.up fr1241))))) (Dj.app' (Dj.symm (Dj.l d1220)) (Dj.nil' _)) (Dj.app' (Dj.symm d1219) (Dj.nil' _)) d1271 d1220 d961 d1269 d1275 d1273 d1276) (fun a vv w l ⟨v1280, rb1281, v1284, rb1285, ib1291, hv1302, i1279, h1282, fr1283, h1286, fr1287, i1288, K1289, h1290, fi1292, d1293, d1294, d1295, d1296, d1297, d1298, d1299, d1300, d1301⟩ F => ?_)
       subst vv
       have d1304 := Dj.frs h954.rd.m d1303 fr1283
       have fr1305 := Frs.trans fr1283 (Frs.app fr1218 (Frs.app fr968 (Frs.app frK0 (Frs.up fr1241)))) hB.size
       have d1306 := Dj.frs h954.rd.m d1303 fr1287
       have fr1307 := Frs.trans fr1287 (Frs.app fr1218 (Frs.app fr968 (Frs.app frK0 (Frs.up fr1241)))) hB.size
       have d1308 := Dj.prov d1274 h954.memR fi1292
       replace hB := hB.oo l (Frs.app fr1218 (Frs.app fr968 (Frs.app frK0 (Frs.up fr1241))))
       replace h954 := h954.goO l d1303
       replace K0 := K1289
       refine o_not F rfl rfl (fun a F => ?_)
       refine x_end ?_
       refine x_tn ?_
       refine x_if F rfl (fun hb1312 => ?_) (fun hb1312 => ?_)
       ·
        replace hR := ifT hb1312 hR
        refine x_seq ?_
        refine x_reg ?_
        refine o_assign F rfl rfl (fun a F => ?_)
        refine x_end ?_
        refine x_tn ?_
        refine x_ret ?_
        refine x_tr ?_
        refine x_br ?_
        refine x_tr ?_
        replace hR := l_ret hR hn872
        refine x_br ?_
        refine x_tr ?_
        replace hR := j_ret hR hk870
        refine x_tr ?_
        refine x_res1 F rfl (rv_t F rfl) ?_
        obtain rfl := Option.some.inj hR
        exact ⟨_, rfl, hB, v1280, rb1281, v1284, rb1285, ib955, rfl, i1279, h1282, fr1305, h1286, fr1307, i1288, K0, h954, fi969, d1293, d1294, (Dj.app' (Dj.symm (Dj.l d1304)) (Dj.nil' _)), d1296, d1297, (Dj.app' (Dj.symm (Dj.l d1306)) (Dj.nil' _)), d1304, d1306, d965⟩
       ·
        replace hR := ifF hb1312 hR
        refine x_skip ?_
        refine x_tn ?_
        refine x_reg ?_
        refine o_move F rfl rfl (fun a F => ?_)
        refine o_move F rfl rfl (fun a F => ?_)
        refine o_move F rfl rfl (fun a F => ?_)
        refine o_move F rfl rfl (fun a F => ?_)
        refine o_rindex Tryz.underlying72 Tryz.sizeOf46 F rfl rfl rfl h954 c1181 (fun a p1313 b1314 h1315 s1316 rp1317 F => ?_)
        refine o_loadS Tryz.isAgg46 F rfl rfl h1315 (fun a v1318 b1319 h1320 s1321 F => ?_)
        refine o_move F rfl rfl (fun a F => ?_)
        obtain ⟨z1322, c1323, hR⟩ := bnd_some hR
        refine o_gives F rfl Tryz.call114 rfl (impl_without_c z1322 c1323 _ h1320 i1197) (fun a vv w l ⟨v1324, rb1325, hv1328, h1327⟩ F => ?_)
        subst vv
        have d1330 := Dj.new h954.rd.m h1327.ownR (Nat.le_refl _)
        have d1331 := Dj.new h1282.rd.m h1327.ownR (Nat.le_refl _)
        have d1332 := Dj.new h1286.rd.m h1327.ownR (Nat.le_refl _)
        have d1333 := Dj.new (inm1 K0) h1327.ownR (Nat.le_refl _)
        have d1334 := Dj.app' (Dj.new h954.memR h1327.ownR (Nat.le_refl _)).symm (Dj.nil' _)
        have d1335 := Dj.app' (Dj.new h954.mem h1327.ownR (Nat.le_refl _)).symm (Dj.nil' _)
        have d1336 := Dj.app' (Dj.new h1282.memR h1327.ownR (Nat.le_refl _)).symm (Dj.nil' _)
        have d1337 := Dj.app' (Dj.new h1286.memR h1327.ownR (Nat.le_refl _)).symm (Dj.nil' _)
        have d1338 := Dj.app' (Dj.new h1290.memR h1327.ownR (Nat.le_refl _)).symm (Dj.nil' _)
        have d1339 := Dj.app' (Dj.new h1290.mem h1327.ownR (Nat.le_refl _)).symm (Dj.nil' _)
        have fr1340 : Frs [] w0.heap.size _ := Frs.new hB.size h1327.lo
        replace h1327 := h1327.base (Nat.zero_le _)
        replace hB := hB.thru l
        replace h954 := h954.go l
        replace h1282 := h1282.go l
        replace h1286 := h1286.go l
        replace K0 := K0.thru l
        refine o_rindex Tryz.underlying72 Tryz.sizeOf46 F rfl rfl rfl h954 c1181 (fun a p1341 b1342 h1343 s1344 rp1345 F => ?_)
        refine o_rstore Tryz.sizeOf46 F rfl rfl rfl h954 rp1345 (ix_lt c1181) (El.sl h1327.rd) (h1327.rd).r.one (Dj.symm d1334) (fun w ib1347 h1346 l s1348 keep => ?_)
        have fi1350 : Frs ib1 w0.heap.size _ := Frs.stor fi969 (Frs.app (Frs.up fr1340) (Frs.nil _ _)) s1348
        have d1351 := keep _ (inm1 K0) (Dj.symm (Dj.l d965))
        replace hB := hB.oo l frA1
        replace h1282 := h1282.goO l (Dj.app' (Dj.symm (Dj.l d1304)) (Dj.nil' _))
        replace h1286 := h1286.goO l (Dj.app' (Dj.symm (Dj.l d1306)) (Dj.nil' _))
        replace K0 := K0.only l (Dj.symm (Dj.l d965)).not
        have d1352 := Dj.stor d1304 d1336 s1348
        have d1353 := Dj.stor d1306 d1337 s1348
        have d1354 := Dj.stor d965 (Dj.app' (Dj.symm d1333) (Dj.nil' _)) s1348
        refine x_end ?_
        refine x_bn ?_
        refine x_tn ?_
        replace hR := l_go hR hn872
        exact ⟨rest936, (by omega), (z941.2.2.2.2.2.set (z1001).toNat z1322), ib1347, z1277.2.1, z1277.2.2.1, v1280, rb1281, z1277.2.2.2.1, v1284, rb1285, z1277.2.2.2.2.1, hR, F.sub (sc rfl (sc rfl sn)), hB, h1346, fi1350, i1279, h1282, fr1305, h1286, fr1307, i1288, K0, d1354, (Dj.app' (Dj.symm (Dj.l d1352)) (Dj.nil' _)), (Dj.app' (Dj.symm (Dj.l d1353)) (Dj.nil' _)), d1294, d1352, d1296, d1297, d1353, d1293⟩
    ·
     replace hR := ifF hb973 hR
     refine x_exit ?_
     refine x_te ?_
     refine x_te ?_
     replace hR := l_brk hR hn872
     refine x_be ?_
     refine x_tn ?_
     exact ⟨z941.2.2.2.2.2, ib955, z941.2.1, z941.2.2.1, v944, rb945, z941.2.2.2.1, v948, rb949, z941.2.2.2.2.1, (Option.some.inj hR).symm, F.sub (sc rfl (sc rfl sn)), hB, h954, fi969, i943, h946, fr967, h950, fr968, i952, K0, d965, d959, d962, d958, d963, d960, d961, d964, d957⟩
  ·
   intro a w ⟨s905, ib908, s910, s912, v915, rb916, s918, v921, rb922, s924, ho871, F, hB, h907, fi909, i911, h914, fr917, h920, fr923, i925, K0, d926, d927, d928, d929, d930, d931, d932, d933, d934⟩
   subst ho871
   have hR := then_nx hk870
   refine x_tn ?_
   refine x_seq ?_
   refine x_reg ?_
   refine o_assign F rfl rfl (fun a F => ?_)
   refine x_end ?_
   refine x_tn ?_
   refine x_ret ?_
   refine x_res1 F rfl (rv_t F rfl) ?_
   obtain rfl := Option.some.inj hR
   exact ⟨_, rfl, hB, v915, rb916, v921, rb922, ib908, rfl, i911, h914, fr917, h920, fr923, i925, K0, h907, fi909, d934, d929, d927, d931, d932, d928, d930, d933, d926⟩
theorem impl_searcher_level_c {N : Nat} {x0_0 : Int} {x0_1 : List Rel} {x0_2 : Int} {x0_3 : List Con} {x0_4 : Int} {x0_5 : Int} {x0_6 : List Line} {x0_7 : List Int} {x0_8 : Int} {x1 : List (List Int)} (r : Bool × Int × (List Line) × (List Int) × Int × (List (List Int))) (hR : impl_searcher_level N x0_0 x0_1 x0_2 x0_3 x0_4 x0_5 x0_6 x0_7 x0_8 x1 = some r) {b0 : Nat} {v0_1 : Value} {b0_1 : List Nat} {v0_3 : Value} {b0_3 : List Nat} {v0_6 : Value} {rb0_6 : List Nat} {v0_7 : Value} {rb0_7 : List Nat} {v1 : Value} {rb1 ib1 : List Nat} (w0 : World) (hx0_0 : I64 x0_0) (A0_1 : Rd (Sl 2 RRel) w0 v0_1 x0_1 b0_1) (hx0_2 : I64 x0_2) (A0_3 : Rd (Sl 2 RCon) w0 v0_3 x0_3 b0_3) (hx0_4 : I64 x0_4) (hx0_5 : I64 x0_5) (A0_6 : Row 4 RLine 161 0 w0 v0_6 x0_6 rb0_6 []) (A0_7 : Row 1 RInt 2 0 w0 v0_7 x0_7 rb0_7 []) (hx0_8 : I64 x0_8) (K0 : Blk w0 b0 #[.int .i64 x0_0, v0_1, .int .i64 x0_2, v0_3, .int .i64 x0_4, .int .i64 x0_5, v0_6, v0_7, .int .i64 x0_8] 129) (A1 : Row 1 (RSl 1 RInt) 46 0 w0 v1 x1 rb1 ib1) (dA0_1 : Dj b0_1 (rb0_6 ++ (rb0_7 ++ ([b0] ++ rb1)))) (dA0_3 : Dj b0_3 (rb0_6 ++ (rb0_7 ++ ([b0] ++ rb1)))) (dRC_0_6_C_0_7 : Dj (rb0_6 ++ []) rb0_7) (dRC_0_6_B_0 : Dj (rb0_6 ++ []) [b0]) (dRC_0_6_P_1 : Dj (rb0_6 ++ []) rb1) (dRC_0_7_C_0_6 : Dj (rb0_7 ++ []) rb0_6) (dRC_0_7_B_0 : Dj (rb0_7 ++ []) [b0]) (dRC_0_7_P_1 : Dj (rb0_7 ++ []) rb1) (dRP_1_C_0_6 : Dj (rb1 ++ ib1) rb0_6) (dRP_1_C_0_7 : Dj (rb1 ++ ib1) rb0_7) (dRP_1_B_0 : Dj (rb1 ++ ib1) [b0]) : Calls Tryz.prog 156 #[.pointer (some ⟨b0, 0, none⟩), v1] w0 (GivesX (rb0_6 ++ (rb0_7 ++ ([b0] ++ rb1))) (fun v w' => ∃ (v1' : Value) (rb2' : List Nat) (v3' : Value) (rb4' : List Nat) (ib5' : List Nat), v = .bool r.1 ∧ I64 r.2.1 ∧ Row 4 RLine 161 0 w' v1' r.2.2.1 rb2' [] ∧ Frs (rb0_6 ++ (rb0_7 ++ ([b0] ++ rb1))) w0.heap.size rb2' ∧ Row 1 RInt 2 0 w' v3' r.2.2.2.1 rb4' [] ∧ Frs (rb0_6 ++ (rb0_7 ++ ([b0] ++ rb1))) w0.heap.size rb4' ∧ I64 r.2.2.2.2.1 ∧ Blk w' b0 #[.int .i64 x0_0, v0_1, .int .i64 x0_2, v0_3, .int .i64 x0_4, .int .i64 r.2.1, v1', v3', .int .i64 r.2.2.2.2.1] 129 ∧ Row 1 (RSl 1 RInt) 46 0 w' v1 r.2.2.2.2.2 rb1 ib5' ∧ Frs ib1 w0.heap.size ib5' ∧ Dj (rb2' ++ []) rb4' ∧ Dj (rb2' ++ []) [b0] ∧ Dj (rb2' ++ []) rb1 ∧ Dj (rb4' ++ []) rb2' ∧ Dj (rb4' ++ []) [b0] ∧ Dj (rb4' ++ []) rb1 ∧ Dj (rb1 ++ ib5') rb2' ∧ Dj (rb1 ++ ib5') rb4' ∧ Dj (rb1 ++ ib5') [b0]) w0) :=
  impl_searcher_level_cA N r hR w0 hx0_0 A0_1 hx0_2 A0_3 hx0_4 hx0_5 A0_6 A0_7 hx0_8 K0 A1 dA0_1 dA0_3 dRC_0_6_C_0_7 dRC_0_6_B_0 dRC_0_6_P_1 dRC_0_7_C_0_6 dRC_0_7_B_0 dRC_0_7_P_1 dRP_1_C_0_6 dRP_1_C_0_7 dRP_1_B_0

def impl_searched (N : Nat) (x0 : Template) (x1 : Instance) (x2 : List (List Int)) (x3 : Int) : Option ((Int × Int × Int × Int × (List Line) × (List Int) × Int) × (List (List Int))) :=
 bnd (impl_searcher_level N x0.size x0.rels x1.vars x1.cons x3 0 ([]) ([]) 0 x2) fun z52 =>
 if z52.1 then
  some ((x0.size, x1.vars, x3, z52.2.1, z52.2.2.1, z52.2.2.2.1, 6), z52.2.2.2.2.2)
 else
  some ((x0.size, x1.vars, x3, z52.2.1, z52.2.2.1, z52.2.2.2.1, z52.2.2.2.2.1), z52.2.2.2.2.2)
set_option maxHeartbeats 1000000 in
theorem impl_searched_c {N : Nat} {x0 : Template} {x1 : Instance} {x2 : List (List Int)} {x3 : Int} (r : (Int × Int × Int × Int × (List Line) × (List Int) × Int) × (List (List Int))) (hR : impl_searched N x0 x1 x2 x3 = some r) {v0 : Value} {b0 : List Nat} {v1 : Value} {b1 : List Nat} {v2 : Value} {rb2 ib2 : List Nat} (w0 : World) (A0 : Rd (Agg 2 RTemplate) w0 v0 x0 b0) (A1 : Rd (Agg 2 RInstance) w0 v1 x1 b1) (A2 : Row 1 (RSl 1 RInt) 46 0 w0 v2 x2 rb2 ib2) (hx3 : I64 x3) (dA0 : Dj b0 rb2) (dA1 : Dj b1 rb2) : Calls Tryz.prog 87 #[v0, v1, v2, .int .i64 x3] w0 (GivesX rb2 (fun v w' => ∃ (b1' : Nat) (v2' : Value) (v3' : Value) (v4' : Value) (rb5' : List Nat) (v7' : Value) (rb8' : List Nat) (ib10' : List Nat), v = .pointer (some ⟨b1', 0, none⟩) ∧ Blk w' b1' #[.int .i64 r.1.1, v2', .int .i64 r.1.2.1, v3', .int .i64 r.1.2.2.1, .int .i64 r.1.2.2.2.1, v4', v7', .int .i64 r.1.2.2.2.2.2.2] 129 ∧ w0.heap.size ≤ b1' ∧ I64 r.1.1 ∧ I64 r.1.2.1 ∧ I64 r.1.2.2.1 ∧ I64 r.1.2.2.2.1 ∧ Row 4 RLine 161 0 w' v4' r.1.2.2.2.2.1 rb5' [] ∧ Frs rb2 w0.heap.size rb5' ∧ Row 1 RInt 2 0 w' v7' r.1.2.2.2.2.2.1 rb8' [] ∧ Frs rb2 w0.heap.size rb8' ∧ I64 r.1.2.2.2.2.2.2 ∧ Dj [b1'] rb5' ∧ Dj [b1'] rb8' ∧ Dj (rb5' ++ []) (rb8' ++ []) ∧ Dj (rb5' ++ []) rb2 ∧ Dj (rb2 ++ ib10') rb5' ∧ Dj (rb8' ++ []) rb2 ∧ Dj (rb2 ++ ib10') rb8' ∧ Row 1 (RSl 1 RInt) 46 0 w' v2 r.2 rb2 ib10' ∧ Frs ib2 w0.heap.size ib10') w0) := by
 unfold impl_searched at hR
 refine x_enter (L := [(0, v0), (1, v1), (2, v2), (3, .int .i64 x3)]) Tryz.func87 rfl rfl rfl (sc rfl (sc rfl (sc rfl (sc rfl sn)))) (fun a F => ?_)
 have hB := Only.refl rb2 w0
 have frA2 : Frs rb2 w0.heap.size rb2 := Frs.mem (fun c hc => by simp [hc])
 have fiA2 : Frs ib2 w0.heap.size ib2 := Frs.mem (fun c hc => hc)
 refine x_seq ?_
 refine x_reg ?_
 obtain ⟨v15, b16, e18, i14, h17, eb13⟩ := RTemplate.rd (A0.goO hB dA0)
 subst e18
 refine o_box F rfl rfl rfl (fun a w b11 K12 l BK12 F => ?_)
 have d19 := dj1 A2.memR BK12
 have d20 := (dj1 h17.m BK12).symm
 have d21 := (dj1 A2.rd.m BK12).symm
 have CK12 := Nat.le_trans hB.size BK12
 have frK12 : Frs rb2 w0.heap.size _ := Frs.box hB.size BK12
 replace hB := hB.thru l
 replace A2 := A2.go l
 replace h17 := h17.go l
 obtain ⟨v26, b27, e29, i25, h28, eb24⟩ := RInstance.rd (A1.goO hB dA1)
 subst e29
 refine o_box F rfl rfl rfl (fun a w b22 K23 l BK23 F => ?_)
 have d30 := dj1 A2.memR BK23
 have nb31 := Dj.bb K12 BK23
 have d32 := (dj1 h17.m BK23).symm
 have d33 := (dj1 h28.m BK23).symm
 have d34 := (dj1 A2.rd.m BK23).symm
 have CK23 := Nat.le_trans hB.size BK23
 have frK23 : Frs rb2 w0.heap.size _ := Frs.box hB.size BK23
 replace hB := hB.thru l
 replace A2 := A2.go l
 replace h17 := h17.go l
 replace h28 := h28.go l
 replace K12 := K12.thru l
 refine o_assign F rfl rfl (fun a F => ?_)
 refine x_end ?_
 refine x_tn ?_
 refine x_seq ?_
 refine x_reg ?_
 refine o_bloadA (cs := [.int .i64 x0.size, v15]) Tryz.isAgg33 Tryz.sizeOf33 F rfl rfl K12 rfl (fun j hj => by match j, hj with | 0, _ => rfl | 1, _ => rfl) (fun a F => ?_)
 have h35 := RTemplate.mk2 (w := w) i14 h17
 refine o_bloadA (cs := [.int .i64 x1.vars, v26]) Tryz.isAgg51 Tryz.sizeOf51 F rfl rfl K23 rfl (fun j hj => by match j, hj with | 0, _ => rfl | 1, _ => rfl) (fun a F => ?_)
 have h36 := RInstance.mk2 (w := w) i25 h28
 refine o_move F rfl rfl (fun a F => ?_)
 refine o_buildG (cs := #[.int .i64 x0.size, v15, .int .i64 x1.vars, v26, .int .i64 x3, .int .i64 0, (.slice none 0 0), (.slice none 0 0), .int .i64 0]) (qs := [(0, [.int .i64 x0.size, v15]), (2, [.int .i64 x1.vars, v26]), (4, [.int .i64 x3])]) Tryz.underlying129 Tryz.zeroValue129 (fun w => by simp [Tryz.sizeOf2, Tryz.sizeOf33, Tryz.sizeOf46, Tryz.sizeOf51, Tryz.sizeOf75]; rfl) F rfl rfl rfl rfl rfl ⟨rfl, rfl, Nat.le_of_ble_eq_true rfl, ⟨rfl, rfl, Nat.le_of_ble_eq_true rfl, ⟨rfl, rfl, Nat.le_of_ble_eq_true rfl, trivial⟩⟩⟩ rfl (fun a F => ?_)
 refine o_box F rfl rfl rfl (fun a w b38 K39 l BK39 F => ?_)
 have d40 := dj1 A2.memR BK39
 have nb41 := Dj.bb K12 BK39
 have nb42 := Dj.bb K23 BK39
 have d43 := (dj1 h17.m BK39).symm
 have d44 := (dj1 h28.m BK39).symm
 have d45 := (dj1 h35.m BK39).symm
 have d46 := (dj1 h36.m BK39).symm
 have d47 := (dj1 A2.rd.m BK39).symm
 have CK39 := Nat.le_trans hB.size BK39
 have frK39 : Frs rb2 w0.heap.size _ := Frs.box hB.size BK39
 replace hB := hB.thru l
 replace A2 := A2.go l
 replace h17 := h17.go l
 replace h28 := h28.go l
 refine o_assign F rfl rfl (fun a F => ?_)
 refine x_end ?_
 refine x_tn ?_
 refine x_seq ?_
 refine x_seq ?_
 refine x_reg ?_
 refine o_move F rfl rfl (fun a F => ?_)
 refine o_move F rfl rfl (fun a F => ?_)
 have h48 := fun w => Row.nil 4 RLine 161 0 w
 have h50 := fun w => Row.nil 1 RInt 2 0 w
 obtain ⟨z52, c53, hR⟩ := bnd_some hR
 have d78 : Dj b16 ([] ++ ([] ++ ([b38] ++ rb2))) := (Dj.app (Dj.nil _) (Dj.app (Dj.nil _) (Dj.app d43 (Dj.sub (Dj.frs A0.m dA0 frA2) (fun c hc => by rw [eb13]; simp [hc])))))
 have d79 : Dj b27 ([] ++ ([] ++ ([b38] ++ rb2))) := (Dj.app (Dj.nil _) (Dj.app (Dj.nil _) (Dj.app d44 (Dj.sub (Dj.frs A1.m dA1 frA2) (fun c hc => by rw [eb24]; simp [hc])))))
 refine o_givesX F rfl Tryz.call156 rfl (impl_searcher_level_c z52 c53 _ i14 h17 i25 h28 hx3 (show I64 0 by decide) ((h48 _).base (Nat.zero_le _)) ((h50 _).base (Nat.zero_le _)) (show I64 0 by decide) K39 (A2.base (Nat.zero_le _)) (Dj.app (Dj.nil _) (Dj.app (Dj.nil _) (Dj.app d43 (Dj.sub (Dj.frs A0.m dA0 frA2) (fun c hc => by rw [eb13]; simp [hc]))))) (Dj.app (Dj.nil _) (Dj.app (Dj.nil _) (Dj.app d44 (Dj.sub (Dj.frs A1.m dA1 frA2) (fun c hc => by rw [eb24]; simp [hc]))))) (Dj.nil' _) (Dj.nil' _) (Dj.nil' _) (Dj.nil' _) (Dj.nil' _) (Dj.nil' _) (Dj.nil _) (Dj.nil _) d47) (fun a vv w l ⟨v55, rb56, v59, rb60, ib66, hv77, i54, h57, fr58, h61, fr62, i63, K64, h65, fi67, d68, d69, d70, d71, d72, d73, d74, d75, d76⟩ F => ?_)
 subst vv
 have d80 := Dj.frs h17.m d78 fr58
 have d81 := Dj.frs h28.m d79 fr58
 have fr82 := Frs.trans fr58 (Frs.app (Frs.nil _ _) (Frs.app (Frs.nil _ _) (Frs.app frK39 frA2))) hB.size
 have d83 := Dj.frs h17.m d78 fr62
 have d84 := Dj.frs h28.m d79 fr62
 have fr85 := Frs.trans fr62 (Frs.app (Frs.nil _ _) (Frs.app (Frs.nil _ _) (Frs.app frK39 frA2))) hB.size
 have d86 : Dj b16 rb2 := (Dj.sub (Dj.frs A0.m dA0 frA2) (fun c hc => by rw [eb13]; simp [hc]))
 have d87 : Dj b27 rb2 := (Dj.sub (Dj.frs A1.m dA1 frA2) (fun c hc => by rw [eb24]; simp [hc]))
 have fi88 := Frs.trans fi67 fiA2 hB.size
 replace hB := hB.oo l (Frs.app (Frs.nil _ _) (Frs.app (Frs.nil _ _) (Frs.app frK39 frA2)))
 replace h17 := h17.goO l d78
 replace h28 := h28.goO l d79
 replace K39 := K64
 refine x_end ?_
 refine x_tn ?_
 refine x_if F rfl (fun hb92 => ?_) (fun hb92 => ?_)
 ·
  replace hR := ifT hb92 hR
  refine x_reg ?_
  refine o_move F rfl rfl (fun a F => ?_)
  refine o_nilCheck F rfl rfl (fun a F => ?_)
  refine o_bfield fa129_6 F rfl rfl rfl (fun a F => ?_)
  refine o_bstore Tryz.sizeOf2 F rfl rfl rfl K39 rfl (by simp) rfl (fun w K39 l => ?_)
  replace hB := hB.oo l frK39
  replace h17 := h17.goO l d43
  replace h28 := h28.goO l d44
  replace h57 := h57.goO l d69
  replace h61 := h61.goO l d72
  replace h65 := h65.goO l d76
  refine x_end ?_
  refine x_tn ?_
  refine x_seq ?_
  refine x_reg ?_
  refine o_move F rfl rfl (fun a F => ?_)
  refine o_assign F rfl rfl (fun a F => ?_)
  refine x_end ?_
  refine x_tn ?_
  refine x_ret ?_
  refine x_res1 F rfl (rv_t F rfl) ?_
  obtain rfl := Option.some.inj hR
  exact ⟨_, rfl, hB, b38, v15, v26, v55, rb56, v59, rb60, ib66, rfl, K39, CK39, i14, i25, hx3, i54, h57, fr82, h61, fr85, (show I64 (6) by decide), (Dj.symm (Dj.l d69)), (Dj.symm (Dj.l d72)), (Dj.app d68 (Dj.nil _)), d70, d74, d73, d75, h65, fi88⟩
 ·
  replace hR := ifF hb92 hR
  refine x_skip ?_
  refine x_tn ?_
  refine x_seq ?_
  refine x_reg ?_
  refine o_move F rfl rfl (fun a F => ?_)
  refine o_assign F rfl rfl (fun a F => ?_)
  refine x_end ?_
  refine x_tn ?_
  refine x_ret ?_
  refine x_res1 F rfl (rv_t F rfl) ?_
  obtain rfl := Option.some.inj hR
  exact ⟨_, rfl, hB, b38, v15, v26, v55, rb56, v59, rb60, ib66, rfl, K39, CK39, i14, i25, hx3, i54, h57, fr82, h61, fr85, i63, (Dj.symm (Dj.l d69)), (Dj.symm (Dj.l d72)), (Dj.app d68 (Dj.nil _)), d70, d74, d73, d75, h65, fi88⟩

def spec_l08Search_empty (x0_0 : Template) (x0_1 : Instance) (x0_2 : Int) (x0_3 : Int) (x0_4 : List Line) (x0_5 : List Int) (x0_6 : Bool) (x1 : List (List Int)) : Option Int :=
 thn (σ := Unit) (
  forL (σ := Unit) (ρ := Int) (fun (k29 : Nat) (x31 : (List Int)) (s : Unit) =>
    match s with
    | _ =>
    if ((x31.length : Int) == 0) then
     some (.ret ((k29 : Int)))
    else
     some (.go ())) x1 0 ()) fun _ =>
 some ((-1))
set_option maxHeartbeats 1000000 in
theorem spec_l08Search_empty_c {x0_0 : Template} {x0_1 : Instance} {x0_2 : Int} {x0_3 : Int} {x0_4 : List Line} {x0_5 : List Int} {x0_6 : Bool} {x1 : List (List Int)} (r : Int) (hR : spec_l08Search_empty x0_0 x0_1 x0_2 x0_3 x0_4 x0_5 x0_6 x1 = some r) {b0 : Nat} {v0_0 : Value} {b0_0 : List Nat} {v0_1 : Value} {b0_1 : List Nat} {v0_4 : Value} {b0_4 : List Nat} {v0_5 : Value} {b0_5 : List Nat} {v1 : Value} {b1 : List Nat} (w0 : World) (A0_0 : Rd (Pt 2 RTemplate) w0 v0_0 x0_0 b0_0) (A0_1 : Rd (Pt 2 RInstance) w0 v0_1 x0_1 b0_1) (hx0_2 : I64 x0_2) (hx0_3 : I64 x0_3) (A0_4 : Rd (Sl 4 RLine) w0 v0_4 x0_4 b0_4) (A0_5 : Rd (Sl 1 RInt) w0 v0_5 x0_5 b0_5) (K0 : Blk w0 b0 #[v0_0, v0_1, .int .i64 x0_2, .int .i64 x0_3, v0_4, v0_5, .bool x0_6] 122) (A1 : Rd (Sl 1 (RSl 1 RInt)) w0 v1 x1 b1) (dA0_0 : Dj b0_0 ([b0])) (dA0_1 : Dj b0_1 ([b0])) (dA0_4 : Dj b0_4 ([b0])) (dA0_5 : Dj b0_5 ([b0])) (dA1 : Dj b1 ([b0])) : Calls Tryz.prog 215 #[.pointer (some ⟨b0, 0, none⟩), v1] w0 (GivesX ([b0]) (fun v w' => v = .int .i64 r ∧ I64 r ∧ Blk w' b0 #[v0_0, v0_1, .int .i64 x0_2, .int .i64 x0_3, v0_4, v0_5, .bool x0_6] 122) w0) := by
 unfold spec_l08Search_empty at hR
 refine x_enter (L := [(0, .pointer (some ⟨b0, 0, none⟩)), (1, v1)]) Tryz.func215 rfl rfl rfl (sc rfl (sc rfl sn)) (fun a F => ?_)
 have hB := Only.refl ([b0]) w0
 have frK0 : Frs ([b0]) w0.heap.size [b0] := Frs.mem (fun c hc => by simp at hc; simp [hc])
 refine x_seq ?_
 refine x_reg ?_
 refine o_assign F rfl rfl (fun a F => ?_)
 refine x_end ?_
 refine x_tn ?_
 refine x_seq ?_
 refine x_seq ?_
 refine x_reg ?_
 refine o_assign F rfl rfl (fun a F => ?_)
 refine x_end ?_
 refine x_tn ?_
 obtain ⟨o23, hR, hk24⟩ := thn_some hR
 refine x_cutQ (fun a w => o23 = .nx () ∧ Sk a 19 [(0, .pointer (some ⟨b0, 0, none⟩))] ∧ Only ([b0]) w0 w ∧ Blk w b0 #[v0_0, v0_1, .int .i64 x0_2, .int .i64 x0_3, v0_4, v0_5, .bool x0_6] 122) ?_ ?_
 ·
  refine x_blk ?_
  obtain ⟨fl27, hf28, hR⟩ := forL_gen hR
  refine x_loop (fun g a w => ∃ (k29 : Nat) (rest30 : List (List Int)), (k29 ≤ x1.length ∧ x1.drop k29 = rest30) ∧ rest30.length = g ∧ forL fl27 rest30 k29 () = some o23 ∧ Sk a 19 [(5, .int .i64 (k29 : Int)), (0, .pointer (some ⟨b0, 0, none⟩)), (1, v1)] ∧ Only ([b0]) w0 w ∧ Blk w b0 #[v0_0, v0_1, .int .i64 x0_2, .int .i64 x0_3, v0_4, v0_5, .bool x0_6] 122) x1.length ?_ ?_
  ·
   exact ⟨0, x1, ⟨Nat.zero_le _, rfl⟩, rfl, hR, F.sub (sc rfl (sc rfl (sc rfl sn))), hB, K0⟩
  ·
   intro g32 a w ⟨k29, rest30, hd33, hg34, hR, F, hB, K0⟩
   cases rest30 with
   | nil =>
    replace hR := forL_nil hR
    have hkk29 := drop_nil hd33.1 hd33.2
    have hlk29 := dec_no hkk29
    refine x_seq ?_
    refine x_seq ?_
    refine x_reg ?_
    refine o_move F rfl rfl (fun a F => ?_)
    refine o_move F rfl rfl (fun a F => ?_)
    refine o_len Tryz.underlying72 F rfl rfl (A1.goO hB dA1) (fun a F => ?_)
    have i46 := ((A1.goO hB dA1)).r.len64
    refine o_lss F rfl rfl rfl (fun a F => ?_)
    refine x_end ?_
    refine x_tn ?_
    refine x_ifF F rfl hlk29 ?_
    refine x_exit ?_
    refine x_te ?_
    refine x_te ?_
    refine x_be ?_
    refine x_tn ?_
    exact ⟨(Option.some.inj hR).symm, F.sub (sc rfl sn), hB, K0⟩
   | cons x31 rest30 =>
    subst hg34
    replace hd33 := drop_cons hd33.2
    have hxk29 := ix_nat hd33.2.1
    obtain ⟨ck29, hR, hn26⟩ := forL_cons hR
    rw [hf28] at hR
    have hlk29 := dec_yes hd33.1
    refine x_seq ?_
    refine x_seq ?_
    refine x_reg ?_
    refine o_move F rfl rfl (fun a F => ?_)
    refine o_move F rfl rfl (fun a F => ?_)
    refine o_len Tryz.underlying72 F rfl rfl (A1.goO hB dA1) (fun a F => ?_)
    have i35 := ((A1.goO hB dA1)).r.len64
    refine o_lss F rfl rfl rfl (fun a F => ?_)
    refine x_end ?_
    refine x_tn ?_
    refine x_ifT F rfl hlk29 ?_
    refine x_skip ?_
    refine x_tn ?_
    refine x_seq ?_
    have ikk29 := k64 (Nat.le_of_lt hd33.1) i35
    have ink29 := inc64 hd33.1 i35
    refine x_blk ?_
    refine x_seq ?_
    refine x_reg ?_
    refine o_move F rfl rfl (fun a F => ?_)
    refine o_move F rfl rfl (fun a F => ?_)
    refine o_index Tryz.underlying72 Tryz.sizeOf46 F rfl rfl rfl (A1.goO hB dA1) hxk29 (fun a p36 b37 h38 s39 F => ?_)
    refine o_loadS Tryz.isAgg46 F rfl rfl h38 (fun a v40 b41 h42 s43 F => ?_)
    refine o_len Tryz.underlying46 F rfl rfl h42 (fun a F => ?_)
    have i44 := (h42).r.len64
    refine o_eql F rfl rfl rfl (fun a F => ?_)
    refine x_end ?_
    refine x_tn ?_
    refine x_if F rfl (fun hb45 => ?_) (fun hb45 => ?_)
    ·
     replace hR := ifT hb45 hR
     refine x_seq ?_
     refine x_reg ?_
     refine o_move F rfl rfl (fun a F => ?_)
     refine o_assign F rfl rfl (fun a F => ?_)
     refine x_end ?_
     refine x_tn ?_
     refine x_ret ?_
     refine x_br ?_
     refine x_tr ?_
     refine x_tr ?_
     replace hR := l_ret hR hn26
     refine x_br ?_
     refine x_tr ?_
     replace hR := j_ret hR hk24
     refine x_tr ?_
     refine x_res1 F rfl (rv_t F rfl) ?_
     obtain rfl := Option.some.inj hR
     exact ⟨_, rfl, hB, rfl, ikk29, K0⟩
    ·
     replace hR := ifF hb45 hR
     refine x_skip ?_
     refine x_bn ?_
     refine x_tn ?_
     refine x_reg ?_
     refine o_move F rfl rfl (fun a F => ?_)
     refine o_inc F rfl rfl rfl ink29 (fun a F => ?_)
     refine o_assign F rfl rfl (fun a F => ?_)
     refine x_end ?_
     refine x_tn ?_
     replace hR := l_go hR hn26
     exact ⟨_, Nat.lt_succ_self _, k29 + 1, rest30, ⟨hd33.1, hd33.2.2⟩, rfl, hR, F.sub (sc rfl (sc rfl (sc rfl sn))), hB, K0⟩
 ·
  intro a w ⟨ho25, F, hB, K0⟩
  subst ho25
  have hR := then_nx hk24
  refine x_tn ?_
  refine x_seq ?_
  refine x_reg ?_
  refine o_assign F rfl rfl (fun a F => ?_)
  refine x_end ?_
  refine x_tn ?_
  refine x_ret ?_
  refine x_res1 F rfl (rv_t F rfl) ?_
  obtain rfl := Option.some.inj hR
  exact ⟨_, rfl, hB, rfl, (show I64 (-1) by decide), K0⟩

def spec_l08Search_next (x0_0 : Template) (x0_1 : Instance) (x0_2 : Int) (x0_3 : Int) (x0_4 : List Line) (x0_5 : List Int) (x0_6 : Bool) (x1 : List (List Int)) : Option Int :=
 thn (σ := Int) (
  forL (σ := Int) (ρ := Int) (fun (k92 : Nat) (x94 : (List Int)) (s88 : Int) =>
   thn (σ := Bool) (
    if (decide (1 < (x94.length : Int))) then  if (decide (s88 < 0)) then  some (.nx true) else  bnd (ix x1 s88) fun z154 =>
      some (.nx (decide ((x94.length : Int) < (z154.length : Int)))) else  some (.nx false)) fun s133 =>
   if s133 then
    some (.go (k92 : Int))
   else
    some (.go s88)) x1 0 (-1)) fun s90 =>
 some s90
set_option maxHeartbeats 1000000 in
theorem spec_l08Search_next_c {x0_0 : Template} {x0_1 : Instance} {x0_2 : Int} {x0_3 : Int} {x0_4 : List Line} {x0_5 : List Int} {x0_6 : Bool} {x1 : List (List Int)} (r : Int) (hR : spec_l08Search_next x0_0 x0_1 x0_2 x0_3 x0_4 x0_5 x0_6 x1 = some r) {b0 : Nat} {v0_0 : Value} {b0_0 : List Nat} {v0_1 : Value} {b0_1 : List Nat} {v0_4 : Value} {b0_4 : List Nat} {v0_5 : Value} {b0_5 : List Nat} {v1 : Value} {b1 : List Nat} (w0 : World) (A0_0 : Rd (Pt 2 RTemplate) w0 v0_0 x0_0 b0_0) (A0_1 : Rd (Pt 2 RInstance) w0 v0_1 x0_1 b0_1) (hx0_2 : I64 x0_2) (hx0_3 : I64 x0_3) (A0_4 : Rd (Sl 4 RLine) w0 v0_4 x0_4 b0_4) (A0_5 : Rd (Sl 1 RInt) w0 v0_5 x0_5 b0_5) (K0 : Blk w0 b0 #[v0_0, v0_1, .int .i64 x0_2, .int .i64 x0_3, v0_4, v0_5, .bool x0_6] 122) (A1 : Rd (Sl 1 (RSl 1 RInt)) w0 v1 x1 b1) (dA0_0 : Dj b0_0 ([b0])) (dA0_1 : Dj b0_1 ([b0])) (dA0_4 : Dj b0_4 ([b0])) (dA0_5 : Dj b0_5 ([b0])) (dA1 : Dj b1 ([b0])) : Calls Tryz.prog 216 #[.pointer (some ⟨b0, 0, none⟩), v1] w0 (GivesX ([b0]) (fun v w' => v = .int .i64 r ∧ I64 r ∧ Blk w' b0 #[v0_0, v0_1, .int .i64 x0_2, .int .i64 x0_3, v0_4, v0_5, .bool x0_6] 122) w0) := by
 unfold spec_l08Search_next at hR
 refine x_enter (L := [(0, .pointer (some ⟨b0, 0, none⟩)), (1, v1)]) Tryz.func216 rfl rfl rfl (sc rfl (sc rfl sn)) (fun a F => ?_)
 have hB := Only.refl ([b0]) w0
 have frK0 : Frs ([b0]) w0.heap.size [b0] := Frs.mem (fun c hc => by simp at hc; simp [hc])
 refine x_seq ?_
 refine x_reg ?_
 refine o_assign F rfl rfl (fun a F => ?_)
 refine x_end ?_
 refine x_tn ?_
 refine x_seq ?_
 refine x_reg ?_
 refine o_assign F rfl rfl (fun a F => ?_)
 refine x_end ?_
 refine x_tn ?_
 refine x_seq ?_
 refine x_seq ?_
 refine x_reg ?_
 refine o_assign F rfl rfl (fun a F => ?_)
 refine x_end ?_
 refine x_tn ?_
 obtain ⟨o82, hR, hk83⟩ := thn_some hR
 refine x_cutQ (fun a w => ∃ (s90 : Int), o82 = .nx s90 ∧ Sk a 38 [(0, .pointer (some ⟨b0, 0, none⟩)), (5, .int .i64 s90)] ∧ Only ([b0]) w0 w ∧ I64 s90 ∧ Blk w b0 #[v0_0, v0_1, .int .i64 x0_2, .int .i64 x0_3, v0_4, v0_5, .bool x0_6] 122) ?_ ?_
 ·
  refine x_blk ?_
  obtain ⟨fl86, hf87, hR⟩ := forL_gen hR
  refine x_loop (fun g a w => ∃ (k92 : Nat) (rest93 : List (List Int)) (s88 : Int), (k92 ≤ x1.length ∧ x1.drop k92 = rest93) ∧ rest93.length = g ∧ forL fl86 rest93 k92 s88 = some o82 ∧ Sk a 38 [(6, .int .i64 (k92 : Int)), (0, .pointer (some ⟨b0, 0, none⟩)), (1, v1), (5, .int .i64 s88)] ∧ Only ([b0]) w0 w ∧ I64 s88 ∧ Blk w b0 #[v0_0, v0_1, .int .i64 x0_2, .int .i64 x0_3, v0_4, v0_5, .bool x0_6] 122) x1.length ?_ ?_
  ·
   exact ⟨0, x1, (-1), ⟨Nat.zero_le _, rfl⟩, rfl, hR, F.sub (sc rfl (sc rfl (sc rfl (sc rfl sn)))), hB, (show I64 (-1) by decide), K0⟩
  ·
   intro g95 a w ⟨k92, rest93, s88, hd96, hg97, hR, F, hB, i89, K0⟩
   cases rest93 with
   | nil =>
    replace hR := forL_nil hR
    have hkk92 := drop_nil hd96.1 hd96.2
    have hlk92 := dec_no hkk92
    refine x_seq ?_
    refine x_seq ?_
    refine x_reg ?_
    refine o_move F rfl rfl (fun a F => ?_)
    refine o_move F rfl rfl (fun a F => ?_)
    refine o_len Tryz.underlying72 F rfl rfl (A1.goO hB dA1) (fun a F => ?_)
    have i166 := ((A1.goO hB dA1)).r.len64
    refine o_lss F rfl rfl rfl (fun a F => ?_)
    refine x_end ?_
    refine x_tn ?_
    refine x_ifF F rfl hlk92 ?_
    refine x_exit ?_
    refine x_te ?_
    refine x_te ?_
    refine x_be ?_
    refine x_tn ?_
    exact ⟨s88, (Option.some.inj hR).symm, F.sub (sc rfl (sc rfl sn)), hB, i89, K0⟩
   | cons x94 rest93 =>
    subst hg97
    replace hd96 := drop_cons hd96.2
    have hxk92 := ix_nat hd96.2.1
    obtain ⟨ck92, hR, hn85⟩ := forL_cons hR
    rw [hf87] at hR
    have hlk92 := dec_yes hd96.1
    refine x_seq ?_
    refine x_seq ?_
    refine x_reg ?_
    refine o_move F rfl rfl (fun a F => ?_)
    refine o_move F rfl rfl (fun a F => ?_)
    refine o_len Tryz.underlying72 F rfl rfl (A1.goO hB dA1) (fun a F => ?_)
    have i98 := ((A1.goO hB dA1)).r.len64
    refine o_lss F rfl rfl rfl (fun a F => ?_)
    refine x_end ?_
    refine x_tn ?_
    refine x_ifT F rfl hlk92 ?_
    refine x_skip ?_
    refine x_tn ?_
    refine x_seq ?_
    have ikk92 := k64 (Nat.le_of_lt hd96.1) i98
    have ink92 := inc64 hd96.1 i98
    refine x_blk ?_
    refine x_seq ?_
    obtain ⟨o130, hR, hk131⟩ := thn_some hR
    refine x_cutQ (fun a w => ∃ (s133 : Bool), o130 = .nx s133 ∧ Sk a 38 [(0, .pointer (some ⟨b0, 0, none⟩)), (1, v1), (5, .int .i64 s88), (6, .int .i64 (k92 : Int)), (35, .bool s133)] ∧ Only ([b0]) w0 w ∧ Blk w b0 #[v0_0, v0_1, .int .i64 x0_2, .int .i64 x0_3, v0_4, v0_5, .bool x0_6] 122) ?_ ?_
    ·
     refine x_draw (by kernel_rfl) (by kernel_rfl) ?_
     refine q_val F rfl (fun w l => r_move F rfl) (fun a F => ?_)
     refine q_val F rfl (fun w l => r_move F rfl) (fun a F => ?_)
     refine q_index Tryz.underlying72 Tryz.sizeOf46 F rfl rfl rfl (A1.goO hB dA1) hxk92 (fun a p134 b135 h136 s137 F => ?_)
     refine q_loadS (fun _ l => l) Tryz.isAgg46 F rfl rfl h136 (fun a v138 b139 h140 s141 F => ?_)
     refine q_val F rfl (fun w l => r_len Tryz.underlying46 F rfl (h140).r w) (fun a F => ?_)
     have i142 := (h140).r.len64
     refine q_val F rfl (fun w l => r_gtr F rfl rfl) (fun a F => ?_)
     refine q_val F rfl (fun w l => r_move F rfl) (fun a F => ?_)
     rcases bcases (decide (1 < (x94.length : Int))) with hb143 | hb143
     ·
      replace hR := ifT hb143 hR
      have F := F.eq (t := 19) rfl (congrArg Value.bool hb143)
      refine q_val F rfl (fun w l => r_move F rfl) (fun a F => ?_)
      refine q_val F rfl (fun w l => r_lss F rfl rfl) (fun a F => ?_)
      refine q_val F rfl (fun w l => r_move F rfl) (fun a F => ?_)
      rcases bcases (decide (s88 < 0)) with hb144 | hb144
      ·
       replace hR := ifT hb144 hR
       have F := F.eq (t := 22) rfl (congrArg Value.bool hb144)
       refine q_no F rfl rfl (fun a F => ?_)
       refine q_no F rfl rfl (fun a F => ?_)
       refine q_no F rfl rfl (fun a F => ?_)
       refine q_no F rfl rfl (fun a F => ?_)
       refine q_no F rfl rfl (fun a F => ?_)
       refine q_no F rfl rfl (fun a F => ?_)
       refine q_no F rfl rfl (fun a F => ?_)
       refine q_no F rfl rfl (fun a F => ?_)
       refine q_no F rfl rfl (fun a F => ?_)
       refine q_no F rfl rfl (fun a F => ?_)
       refine q_no F rfl rfl (fun a F => ?_)
       refine q_val F rfl (fun w l => r_pickt F rfl rfl) (fun a F => ?_)
       refine q_val F rfl (fun w l => r_pickt F rfl rfl) (fun a F => ?_)
       refine q_end (fun w l => ?_)
       replace hB := hB.thru l
       replace K0 := K0.thru l
       refine x_tn ?_
       exact ⟨true, (Option.some.inj hR).symm, F.sub (sc rfl (sc rfl (sc rfl (sc rfl (sc rfl sn))))), hB, K0⟩
      ·
       replace hR := ifF hb144 hR
       have F := F.eq (t := 22) rfl (congrArg Value.bool hb144)
       refine q_val F rfl (fun w l => r_move F rfl) (fun a F => ?_)
       refine q_val F rfl (fun w l => r_move F rfl) (fun a F => ?_)
       refine q_index Tryz.underlying72 Tryz.sizeOf46 F rfl rfl rfl (A1.goO hB dA1) hxk92 (fun a p145 b146 h147 s148 F => ?_)
       refine q_loadS (fun _ l => l) Tryz.isAgg46 F rfl rfl h147 (fun a v149 b150 h151 s152 F => ?_)
       refine q_val F rfl (fun w l => r_len Tryz.underlying46 F rfl (h151).r w) (fun a F => ?_)
       have i153 := (h151).r.len64
       refine q_val F rfl (fun w l => r_move F rfl) (fun a F => ?_)
       refine q_val F rfl (fun w l => r_move F rfl) (fun a F => ?_)
       obtain ⟨z154, c155, hR⟩ := bnd_some hR
       refine q_index Tryz.underlying72 Tryz.sizeOf46 F rfl rfl rfl (A1.goO hB dA1) c155 (fun a p156 b157 h158 s159 F => ?_)
       refine q_loadS (fun _ l => l) Tryz.isAgg46 F rfl rfl h158 (fun a v160 b161 h162 s163 F => ?_)
       refine q_val F rfl (fun w l => r_len Tryz.underlying46 F rfl (h162).r w) (fun a F => ?_)
       have i164 := (h162).r.len64
       refine q_val F rfl (fun w l => r_lss F rfl rfl) (fun a F => ?_)
       refine q_val F rfl (fun w l => r_pickf F rfl rfl) (fun a F => ?_)
       refine q_val F rfl (fun w l => r_pickt F rfl rfl) (fun a F => ?_)
       refine q_end (fun w l => ?_)
       replace hB := hB.thru l
       replace K0 := K0.thru l
       refine x_tn ?_
       exact ⟨(decide ((x94.length : Int) < (z154.length : Int))), (Option.some.inj hR).symm, F.sub (sc rfl (sc rfl (sc rfl (sc rfl (sc rfl sn))))), hB, K0⟩
     ·
      replace hR := ifF hb143 hR
      have F := F.eq (t := 19) rfl (congrArg Value.bool hb143)
      refine q_no F rfl rfl (fun a F => ?_)
      refine q_no F rfl rfl (fun a F => ?_)
      refine q_no F rfl rfl (fun a F => ?_)
      refine q_no F rfl rfl (fun a F => ?_)
      refine q_no F rfl rfl (fun a F => ?_)
      refine q_no F rfl rfl (fun a F => ?_)
      refine q_no F rfl rfl (fun a F => ?_)
      refine q_no F rfl rfl (fun a F => ?_)
      refine q_no F rfl rfl (fun a F => ?_)
      refine q_no F rfl rfl (fun a F => ?_)
      refine q_no F rfl rfl (fun a F => ?_)
      refine q_no F rfl rfl (fun a F => ?_)
      refine q_no F rfl rfl (fun a F => ?_)
      refine q_no F rfl rfl (fun a F => ?_)
      refine q_no F rfl rfl (fun a F => ?_)
      refine q_val F rfl (fun w l => r_pickf F rfl rfl) (fun a F => ?_)
      refine q_end (fun w l => ?_)
      replace hB := hB.thru l
      replace K0 := K0.thru l
      refine x_tn ?_
      exact ⟨false, (Option.some.inj hR).symm, F.sub (sc rfl (sc rfl (sc rfl (sc rfl (sc rfl sn))))), hB, K0⟩
    ·
     intro a w ⟨s133, ho132, F, hB, K0⟩
     subst ho132
     have hR := then_nx hk131
     refine x_tn ?_
     refine x_if F rfl (fun hb165 => ?_) (fun hb165 => ?_)
     ·
      replace hR := ifT hb165 hR
      refine x_reg ?_
      refine o_move F rfl rfl (fun a F => ?_)
      refine o_assign F rfl rfl (fun a F => ?_)
      refine x_end ?_
      refine x_bn ?_
      refine x_tn ?_
      refine x_reg ?_
      refine o_move F rfl rfl (fun a F => ?_)
      refine o_inc F rfl rfl rfl ink92 (fun a F => ?_)
      refine o_assign F rfl rfl (fun a F => ?_)
      refine x_end ?_
      refine x_tn ?_
      replace hR := l_go hR hn85
      exact ⟨_, Nat.lt_succ_self _, k92 + 1, rest93, (k92 : Int), ⟨hd96.1, hd96.2.2⟩, rfl, hR, F.sub (sc rfl (sc rfl (sc rfl (sc rfl sn)))), hB, ikk92, K0⟩
     ·
      replace hR := ifF hb165 hR
      refine x_skip ?_
      refine x_bn ?_
      refine x_tn ?_
      refine x_reg ?_
      refine o_move F rfl rfl (fun a F => ?_)
      refine o_inc F rfl rfl rfl ink92 (fun a F => ?_)
      refine o_assign F rfl rfl (fun a F => ?_)
      refine x_end ?_
      refine x_tn ?_
      replace hR := l_go hR hn85
      exact ⟨_, Nat.lt_succ_self _, k92 + 1, rest93, s88, ⟨hd96.1, hd96.2.2⟩, rfl, hR, F.sub (sc rfl (sc rfl (sc rfl (sc rfl sn)))), hB, i89, K0⟩
 ·
  intro a w ⟨s90, ho84, F, hB, i91, K0⟩
  subst ho84
  have hR := then_nx hk83
  refine x_tn ?_
  refine x_seq ?_
  refine x_reg ?_
  refine o_move F rfl rfl (fun a F => ?_)
  refine o_assign F rfl rfl (fun a F => ?_)
  refine x_end ?_
  refine x_tn ?_
  refine x_ret ?_
  refine x_res1 F rfl (rv_t F rfl) ?_
  obtain rfl := Option.some.inj hR
  exact ⟨_, rfl, hB, rfl, i91, K0⟩

def spec_l08Search_level : Nat → Template → Instance → Int → Int → (List Line) → (List Int) → Bool → (List (List Int)) → Option (Bool × Int × (List Line) × (List Int) × Bool × (List (List Int)))
  | 0, _, _, _, _, _, _, _, _ => none
  | N + 1, x0_0, x0_1, x0_2, x0_3, x0_4, x0_5, x0_6, x1 =>
  thn (σ := (List (List Int)) × Int × (List Line) × (List Int) × Bool) (
   whl (σ := (List (List Int)) × Int × (List Line) × (List Int) × Bool) (ρ := Bool × Int × (List Line) × (List Int) × Bool × (List (List Int))) (fun (s : (List (List Int)) × Int × (List Line) × (List Int) × Bool) =>
     match s with
     | (s1292, s1297, s1299, s1305, s1311) =>
     if (s1297 == x0_2) then
      some (.ret (true, s1297, s1299, s1305, true, s1292))
     else
      bnd (ck (s1297 + 1)) fun z1357 =>
      bnd (spec_l05ArcsUntil N x0_0 x0_1 s1292 true) fun z1359 =>
      thn (σ := (List Line)) (
       forL (σ := (List Line)) (ρ := (Ctl ((List (List Int)) × Int × (List Line) × (List Int) × Bool) (Bool × Int × (List Line) × (List Int) × Bool × (List (List Int))))) (fun (k1537 : Nat) (x1539 : ArcStep) (s1513 : (List Line)) =>
        bnd (ap s1513 ([(Line.mk 2 x1539.var x1539.value x1539.con)])) fun z1587 =>
        some (.go z1587)) z1359.1 0 s1299) fun s1526 =>
      bnd (spec_l08Search_empty x0_0 x0_1 x0_2 z1357 s1526 s1305 s1311 z1359.2) fun z1599 =>
      if (decide (0 ≤ z1599)) then
       bnd (ap s1526 ([(Line.mk 3 z1599 0 0)])) fun z1622 =>
       some (.ret (false, z1357, z1622, s1305, s1311, z1359.2))
      else
       bnd (spec_l08Search_next x0_0 x0_1 x0_2 z1357 s1526 s1305 s1311 z1359.2) fun z1632 =>
       if (decide (z1632 < 0)) then
        thn (σ := (List Int)) (
         forL (σ := (List Int)) (ρ := (Ctl ((List (List Int)) × Int × (List Line) × (List Int) × Bool) (Bool × Int × (List Line) × (List Int) × Bool × (List (List Int))))) (fun (k1759 : Nat) (x1761 : (List Int)) (s1737 : (List Int)) =>
          bnd (ix x1761 0) fun z1774 =>
          bnd (ap s1737 ([z1774])) fun z1794 =>
          some (.go z1794)) z1359.2 0 s1305) fun s1748 =>
        some (.ret (true, z1357, s1526, s1748, s1311, z1359.2))
       else
        bnd (ix z1359.2 z1632) fun z1805 =>
        bnd (ix z1805 0) fun z1816 =>
        bnd (ap s1526 ([(Line.mk 1 z1632 z1816 0)])) fun z1837 =>
        bnd (spec_l05Copies z1359.2) fun z1847 =>
        bnd (ix z1847 z1632) fun z1883 =>
        bnd (spec_l08Search_level N x0_0 x0_1 x0_2 z1357 z1837 s1305 s1311 (z1847.set (z1632).toNat ([z1816]))) fun z1902 =>
        if z1902.1 then
         some (.ret (true, z1902.2.1, z1902.2.2.1, z1902.2.2.2.1, z1902.2.2.2.2.1, z1359.2))
        else
         bnd (spec_l05Without z1805 z1816) fun z1946 =>
         some (.go ((z1359.2.set (z1632).toNat z1946), z1902.2.1, z1902.2.2.1, z1902.2.2.2.1, z1902.2.2.2.2.1))) N (x1, x0_3, x0_4, x0_5, x0_6)) fun (s1321, s1326, s1328, s1334, s1340) =>
  some (false, s1326, s1328, s1334, s1340, s1321)
set_option maxHeartbeats 1000000 in
theorem spec_l08Search_level_cA : ∀ (N : Nat) {x0_0 : Template} {x0_1 : Instance} {x0_2 : Int} {x0_3 : Int} {x0_4 : List Line} {x0_5 : List Int} {x0_6 : Bool} {x1 : List (List Int)} (r : Bool × Int × (List Line) × (List Int) × Bool × (List (List Int))) (hR : spec_l08Search_level N x0_0 x0_1 x0_2 x0_3 x0_4 x0_5 x0_6 x1 = some r) {b0 : Nat} {v0_0 : Value} {b0_0 : List Nat} {v0_1 : Value} {b0_1 : List Nat} {v0_4 : Value} {rb0_4 : List Nat} {v0_5 : Value} {rb0_5 : List Nat} {v1 : Value} {rb1 ib1 : List Nat} (w0 : World) (A0_0 : Rd (Pt 2 RTemplate) w0 v0_0 x0_0 b0_0) (A0_1 : Rd (Pt 2 RInstance) w0 v0_1 x0_1 b0_1) (hx0_2 : I64 x0_2) (hx0_3 : I64 x0_3) (A0_4 : Row 4 RLine 161 0 w0 v0_4 x0_4 rb0_4 []) (A0_5 : Row 1 RInt 2 0 w0 v0_5 x0_5 rb0_5 []) (K0 : Blk w0 b0 #[v0_0, v0_1, .int .i64 x0_2, .int .i64 x0_3, v0_4, v0_5, .bool x0_6] 122) (A1 : Row 1 (RSl 1 RInt) 46 0 w0 v1 x1 rb1 ib1) (dA0_0 : Dj b0_0 (rb0_4 ++ (rb0_5 ++ ([b0] ++ rb1)))) (dA0_1 : Dj b0_1 (rb0_4 ++ (rb0_5 ++ ([b0] ++ rb1)))) (dRC_0_4_C_0_5 : Dj (rb0_4 ++ []) rb0_5) (dRC_0_4_B_0 : Dj (rb0_4 ++ []) [b0]) (dRC_0_4_P_1 : Dj (rb0_4 ++ []) rb1) (dRC_0_5_C_0_4 : Dj (rb0_5 ++ []) rb0_4) (dRC_0_5_B_0 : Dj (rb0_5 ++ []) [b0]) (dRC_0_5_P_1 : Dj (rb0_5 ++ []) rb1) (dRP_1_C_0_4 : Dj (rb1 ++ ib1) rb0_4) (dRP_1_C_0_5 : Dj (rb1 ++ ib1) rb0_5) (dRP_1_B_0 : Dj (rb1 ++ ib1) [b0]), Calls Tryz.prog 153 #[.pointer (some ⟨b0, 0, none⟩), v1] w0 (GivesX (rb0_4 ++ (rb0_5 ++ ([b0] ++ rb1))) (fun v w' => ∃ (v1' : Value) (rb2' : List Nat) (v3' : Value) (rb4' : List Nat) (ib5' : List Nat), v = .bool r.1 ∧ I64 r.2.1 ∧ Row 4 RLine 161 0 w' v1' r.2.2.1 rb2' [] ∧ Frs (rb0_4 ++ (rb0_5 ++ ([b0] ++ rb1))) w0.heap.size rb2' ∧ Row 1 RInt 2 0 w' v3' r.2.2.2.1 rb4' [] ∧ Frs (rb0_4 ++ (rb0_5 ++ ([b0] ++ rb1))) w0.heap.size rb4' ∧ Blk w' b0 #[v0_0, v0_1, .int .i64 x0_2, .int .i64 r.2.1, v1', v3', .bool r.2.2.2.2.1] 122 ∧ Row 1 (RSl 1 RInt) 46 0 w' v1 r.2.2.2.2.2 rb1 ib5' ∧ Frs ib1 w0.heap.size ib5' ∧ Dj (rb2' ++ []) rb4' ∧ Dj (rb2' ++ []) [b0] ∧ Dj (rb2' ++ []) rb1 ∧ Dj (rb4' ++ []) rb2' ∧ Dj (rb4' ++ []) [b0] ∧ Dj (rb4' ++ []) rb1 ∧ Dj (rb1 ++ ib5') rb2' ∧ Dj (rb1 ++ ib5') rb4' ∧ Dj (rb1 ++ ib5') [b0]) w0) := by
  intro N
  induction N with
  | zero => intro x0_0 x0_1 x0_2 x0_3 x0_4 x0_5 x0_6 x1 r hR; unfold spec_l08Search_level at hR; cases hR
  | succ N ih =>
  intro x0_0 x0_1 x0_2 x0_3 x0_4 x0_5 x0_6 x1 r hR b0 v0_0 b0_0 v0_1 b0_1 v0_4 rb0_4 v0_5 rb0_5 v1 rb1 ib1 w0 A0_0 A0_1 hx0_2 hx0_3 A0_4 A0_5 K0 A1 dA0_0 dA0_1 dRC_0_4_C_0_5 dRC_0_4_B_0 dRC_0_4_P_1 dRC_0_5_C_0_4 dRC_0_5_B_0 dRC_0_5_P_1 dRP_1_C_0_4 dRP_1_C_0_5 dRP_1_B_0
  rw [spec_l08Search_level] at hR
  refine x_enter (L := [(0, .pointer (some ⟨b0, 0, none⟩)), (1, v1)]) Tryz.func153 rfl rfl rfl (sc rfl (sc rfl sn)) (fun a F => ?_)
  have hB := Only.refl (rb0_4 ++ (rb0_5 ++ ([b0] ++ rb1))) w0
  have frA0_4 : Frs (rb0_4 ++ (rb0_5 ++ ([b0] ++ rb1))) w0.heap.size rb0_4 := Frs.mem (fun c hc => by simp [hc])
  have frA0_5 : Frs (rb0_4 ++ (rb0_5 ++ ([b0] ++ rb1))) w0.heap.size rb0_5 := Frs.mem (fun c hc => by simp [hc])
  have frK0 : Frs (rb0_4 ++ (rb0_5 ++ ([b0] ++ rb1))) w0.heap.size [b0] := Frs.mem (fun c hc => by simp at hc; simp [hc])
  have frA1 : Frs (rb0_4 ++ (rb0_5 ++ ([b0] ++ rb1))) w0.heap.size rb1 := Frs.mem (fun c hc => by simp [hc])
  have fiA1 : Frs ib1 w0.heap.size ib1 := Frs.mem (fun c hc => hc)
  refine x_seq ?_
  refine x_reg ?_
  refine o_assign F rfl rfl (fun a F => ?_)
  refine x_end ?_
  refine x_tn ?_
  obtain ⟨o1286, hR, hk1287⟩ := thn_some hR
  refine x_cutQ (fun a w => ∃ (s1321 : List (List Int)) (ib1324 : List Nat) (s1326 : Int) (s1328 : List Line) (v1331 : Value) (rb1332 : List Nat) (s1334 : List Int) (v1337 : Value) (rb1338 : List Nat) (s1340 : Bool), o1286 = .nx (s1321, s1326, s1328, s1334, s1340) ∧ Sk a 151 [(0, .pointer (some ⟨b0, 0, none⟩)), (1, v1), (4, .bool false)] ∧ Only (rb0_4 ++ (rb0_5 ++ ([b0] ++ rb1))) w0 w ∧ Row 1 (RSl 1 RInt) 46 0 w v1 s1321 rb1 ib1324 ∧ Frs ib1 w0.heap.size ib1324 ∧ I64 s1326 ∧ Row 4 RLine 161 0 w v1331 s1328 rb1332 ([]) ∧ Frs (rb0_4 ++ (rb0_5 ++ ([b0] ++ rb1))) w0.heap.size rb1332 ∧ Row 1 RInt 2 0 w v1337 s1334 rb1338 ([]) ∧ Frs (rb0_4 ++ (rb0_5 ++ ([b0] ++ rb1))) w0.heap.size rb1338 ∧ Blk w b0 #[v0_0, v0_1, .int .i64 x0_2, .int .i64 s1326, v1331, v1337, .bool s1340] 122 ∧ Dj (rb1 ++ ib1324) [b0] ∧ Dj (rb1332 ++ []) rb1 ∧ Dj (rb1338 ++ []) rb1 ∧ Dj (rb1332 ++ []) [b0] ∧ Dj (rb1 ++ ib1324) rb1332 ∧ Dj (rb1338 ++ []) rb1332 ∧ Dj (rb1338 ++ []) [b0] ∧ Dj (rb1 ++ ib1324) rb1338 ∧ Dj (rb1332 ++ []) rb1338) ?_ ?_
  ·
   refine x_blk ?_
   obtain ⟨fl1290, hf1291, hR⟩ := whl_gen hR
   refine x_loop (fun g a w => ∃ (s1292 : List (List Int)) (ib1295 : List Nat) (s1297 : Int) (s1299 : List Line) (v1302 : Value) (rb1303 : List Nat) (s1305 : List Int) (v1308 : Value) (rb1309 : List Nat) (s1311 : Bool), whl fl1290 g (s1292, s1297, s1299, s1305, s1311) = some o1286 ∧ Sk a 151 [(0, .pointer (some ⟨b0, 0, none⟩)), (1, v1)] ∧ Only (rb0_4 ++ (rb0_5 ++ ([b0] ++ rb1))) w0 w ∧ Row 1 (RSl 1 RInt) 46 0 w v1 s1292 rb1 ib1295 ∧ Frs ib1 w0.heap.size ib1295 ∧ I64 s1297 ∧ Row 4 RLine 161 0 w v1302 s1299 rb1303 ([]) ∧ Frs (rb0_4 ++ (rb0_5 ++ ([b0] ++ rb1))) w0.heap.size rb1303 ∧ Row 1 RInt 2 0 w v1308 s1305 rb1309 ([]) ∧ Frs (rb0_4 ++ (rb0_5 ++ ([b0] ++ rb1))) w0.heap.size rb1309 ∧ Blk w b0 #[v0_0, v0_1, .int .i64 x0_2, .int .i64 s1297, v1302, v1308, .bool s1311] 122 ∧ Dj (rb1 ++ ib1295) [b0] ∧ Dj (rb1303 ++ []) rb1 ∧ Dj (rb1309 ++ []) rb1 ∧ Dj (rb1303 ++ []) [b0] ∧ Dj (rb1 ++ ib1295) rb1303 ∧ Dj (rb1309 ++ []) rb1303 ∧ Dj (rb1309 ++ []) [b0] ∧ Dj (rb1 ++ ib1295) rb1309 ∧ Dj (rb1303 ++ []) rb1309) N ?_ ?_
   ·
    exact ⟨x1, ib1, x0_3, x0_4, v0_4, rb0_4, x0_5, v0_5, rb0_5, x0_6, hR, F.sub (sc rfl (sc rfl sn)), hB, A1, fiA1, hx0_3, A0_4, frA0_4, A0_5, frA0_5, K0, dRP_1_B_0, dRC_0_4_P_1, dRC_0_5_P_1, dRC_0_4_B_0, dRP_1_C_0_4, dRC_0_5_C_0_4, dRC_0_5_B_0, dRP_1_C_0_5, dRC_0_4_C_0_5⟩
   ·
    intro g1353 a w ⟨s1292, ib1295, s1297, s1299, v1302, rb1303, s1305, v1308, rb1309, s1311, hR, F, hB, h1294, fi1296, i1298, h1301, fr1304, h1307, fr1310, K0, d1312, d1313, d1314, d1315, d1316, d1317, d1318, d1319, d1320⟩
    obtain ⟨ck1350, rest1351, hg1355, hR, hn1289⟩ := whl_round hR
    rw [hf1291] at hR
    refine x_blk ?_
    refine x_seq ?_
    refine x_seq ?_
    refine x_draw (by kernel_rfl) (by kernel_rfl) ?_
    refine q_val F rfl (fun w l => r_move F rfl) (fun a F => ?_)
    refine q_val F rfl (fun w l => r_nilCheck F rfl) (fun a F => ?_)
    refine q_val F rfl (fun w l => r_bfield fa122_3 F rfl rfl) (fun a F => ?_)
    refine q_val F rfl (fun w l => r_load1 Tryz.isAgg2 F rfl (((K0.thru l).cell _).trans rfl)) (fun a F => ?_)
    refine q_val F rfl (fun w l => r_move F rfl) (fun a F => ?_)
    refine q_val F rfl (fun w l => r_nilCheck F rfl) (fun a F => ?_)
    refine q_val F rfl (fun w l => r_bfield fa122_2 F rfl rfl) (fun a F => ?_)
    refine q_val F rfl (fun w l => r_load1 Tryz.isAgg2 F rfl (((K0.thru l).cell _).trans rfl)) (fun a F => ?_)
    refine q_val F rfl (fun w l => r_eql F rfl rfl) (fun a F => ?_)
    refine q_end (fun w l => ?_)
    replace hB := hB.thru l
    replace h1294 := h1294.go l
    replace h1301 := h1301.go l
    replace h1307 := h1307.go l
    replace K0 := K0.thru l
    refine x_tn ?_
    refine x_if F rfl (fun hb1356 => ?_) (fun hb1356 => ?_)
    ·
     replace hR := ifT hb1356 hR
     refine x_seq ?_
     refine x_reg ?_
     refine o_move F rfl rfl (fun a F => ?_)
     refine o_nilCheck F rfl rfl (fun a F => ?_)
     refine o_bfield fa122_6 F rfl rfl rfl (fun a F => ?_)
     refine o_bstore Tryz.sizeOf4 F rfl rfl rfl K0 rfl (by simp) rfl (fun w K0 l => ?_)
     replace hB := hB.oo l frK0
     replace h1294 := h1294.goO l d1312
     replace h1301 := h1301.goO l d1315
     replace h1307 := h1307.goO l d1318
     refine x_end ?_
     refine x_tn ?_
     refine x_seq ?_
     refine x_reg ?_
     refine o_assign F rfl rfl (fun a F => ?_)
     refine x_end ?_
     refine x_tn ?_
     refine x_ret ?_
     refine x_tr ?_
     refine x_br ?_
     refine x_tr ?_
     replace hR := l_ret hR hn1289
     refine x_br ?_
     refine x_tr ?_
     replace hR := j_ret hR hk1287
     refine x_res1 F rfl (rv_t F rfl) ?_
     obtain rfl := Option.some.inj hR
     exact ⟨_, rfl, hB, v1302, rb1303, v1308, rb1309, ib1295, rfl, i1298, h1301, fr1304, h1307, fr1310, K0, h1294, fi1296, d1320, d1315, d1313, d1317, d1318, d1314, d1316, d1319, d1312⟩
    ·
     replace hR := ifF hb1356 hR
     refine x_skip ?_
     refine x_tn ?_
     refine x_seq ?_
     refine x_reg ?_
     refine o_move F rfl rfl (fun a F => ?_)
     refine o_nilCheck F rfl rfl (fun a F => ?_)
     refine o_bfield fa122_3 F rfl rfl rfl (fun a F => ?_)
     refine o_bload Tryz.isAgg2 F rfl rfl K0 rfl (fun a F => ?_)
     obtain ⟨z1357, c1358, hR⟩ := bnd_some hR
     refine o_add F rfl rfl rfl c1358 (fun a F => ?_)
     refine o_nilCheck F rfl rfl (fun a F => ?_)
     refine o_bfield fa122_3 F rfl rfl rfl (fun a F => ?_)
     refine o_bstore Tryz.sizeOf2 F rfl rfl rfl K0 rfl (by simp) rfl (fun w K0 l => ?_)
     replace hB := hB.oo l frK0
     replace h1294 := h1294.goO l d1312
     replace h1301 := h1301.goO l d1315
     replace h1307 := h1307.goO l d1318
     refine x_end ?_
     refine x_tn ?_
     refine x_seq ?_
     refine x_drawn (by kernel_rfl) (fun w l => ?_)
     replace hB := hB.thru l
     replace h1294 := h1294.go l
     replace h1301 := h1301.go l
     replace h1307 := h1307.go l
     replace K0 := K0.thru l
     refine b_q0 0 rfl (by kernel_rfl) (by kernel_rfl) (by kernel_rfl) ?_
     refine v_val F rfl (fun w l => r_move F rfl) (fun a F => ?_)
     refine b_q 1 (by kernel_rfl) rfl (by kernel_rfl) (by kernel_rfl) (by kernel_rfl) (by kernel_rfl) ?_
     refine v_val F rfl (fun w l => r_nilCheck F rfl) (fun a F => ?_)
     refine b_q 2 (by kernel_rfl) rfl (by kernel_rfl) (by kernel_rfl) (by kernel_rfl) (by kernel_rfl) ?_
     refine v_val F rfl (fun w l => r_bfield fa122_0 F rfl rfl) (fun a F => ?_)
     refine b_q 3 (by kernel_rfl) rfl (by kernel_rfl) (by kernel_rfl) (by kernel_rfl) (by kernel_rfl) ?_
     refine v_val F rfl (fun w l => r_load1 Tryz.isAgg106 F rfl (((K0.thru l).cell _).trans rfl)) (fun a F => ?_)
     refine b_q0 4 rfl (by kernel_rfl) (by kernel_rfl) (by kernel_rfl) ?_
     refine v_val F rfl (fun w l => r_move F rfl) (fun a F => ?_)
     refine b_q 5 (by kernel_rfl) rfl (by kernel_rfl) (by kernel_rfl) (by kernel_rfl) (by kernel_rfl) ?_
     refine v_val F rfl (fun w l => r_nilCheck F rfl) (fun a F => ?_)
     refine b_q 6 (by kernel_rfl) rfl (by kernel_rfl) (by kernel_rfl) (by kernel_rfl) (by kernel_rfl) ?_
     refine v_val F rfl (fun w l => r_bfield fa122_1 F rfl rfl) (fun a F => ?_)
     refine b_q 7 (by kernel_rfl) rfl (by kernel_rfl) (by kernel_rfl) (by kernel_rfl) (by kernel_rfl) ?_
     refine v_val F rfl (fun w l => r_load1 Tryz.isAgg116 F rfl (((K0.thru l).cell _).trans rfl)) (fun a F => ?_)
     refine b_q0 8 rfl (by kernel_rfl) (by kernel_rfl) (by kernel_rfl) ?_
     refine v_val F rfl (fun w l => r_move F rfl) (fun a F => ?_)
     refine b_e 9 rfl (by kernel_rfl) ?_
     obtain ⟨z1359, c1360, hR⟩ := bnd_some hR
     have d1371 : Dj (rb1303 ++ []) rb1 := d1313
     have d1372 : Dj (rb1309 ++ []) rb1 := d1314
     have d1373 : Dj [b0] rb1 := (Dj.symm (Dj.l d1312))
     refine o_givesX F rfl Tryz.call214 rfl (spec_l05ArcsUntil_c z1359 c1360 _ (A0_0.goO hB dA0_0) (A0_1.goO hB dA0_1) (h1294.base (Nat.zero_le _)) (Dj.frs A0_0.m dA0_0 frA1) (Dj.frs A0_1.m dA0_1 frA1)) (fun a vv w l ⟨v1361, rb1362, ib1366, hv1370, h1364, d1368, d1369, h1365, fi1367⟩ F => ?_)
     subst vv
     have d1374 := Dj.prov d1316 h1301.memR fi1367
     have d1375 := Dj.prov d1319 h1307.memR fi1367
     have d1376 := Dj.prov d1312 (inm1 K0) fi1367
     have fi1377 := Frs.trans fi1367 fi1296 hB.size
     have d1378 := Dj.new h1301.rd.m h1364.ownR (Nat.le_refl _)
     have d1379 := Dj.new h1307.rd.m h1364.ownR (Nat.le_refl _)
     have d1380 := Dj.new (inm1 K0) h1364.ownR (Nat.le_refl _)
     have fr1381 : Frs [] w0.heap.size _ := Frs.new hB.size h1364.lo
     replace h1364 := h1364.base (Nat.zero_le _)
     replace hB := hB.oo l frA1
     replace h1301 := h1301.goO l d1371
     replace h1307 := h1307.goO l d1372
     replace K0 := K0.only l (Dj.not d1373)
     refine x_end ?_
     refine x_tn ?_
     refine ⟨.inr (by kernel_rfl), ?_⟩
     refine b_q0 10 rfl (by kernel_rfl) (by kernel_rfl) (by kernel_rfl) ?_
     refine v_val F rfl (fun w l => r_assign F rfl) (fun a F => ?_)
     refine b_end (by kernel_rfl) ?_
     refine x_tn ?_
     refine x_seq ?_
     refine x_seq ?_
     refine x_reg ?_
     refine o_assign F rfl rfl (fun a F => ?_)
     refine x_end ?_
     refine x_tn ?_
     obtain ⟨o1507, hR, hk1508⟩ := thn_some hR
     refine x_cutQ (fun a w => ∃ (s1526 : List Line) (v1529 : Value) (rb1530 : List Nat), o1507 = .nx s1526 ∧ Sk a 151 [(0, .pointer (some ⟨b0, 0, none⟩)), (1, v1)] ∧ Only (rb0_4 ++ (rb0_5 ++ ([b0] ++ rb1))) w0 w ∧ Row 4 RLine 161 0 w v1529 s1526 rb1530 ([]) ∧ Frs (rb0_4 ++ (rb0_5 ++ ([b0] ++ rb1))) w0.heap.size rb1530 ∧ Row 1 RInt 2 0 w v1308 s1305 rb1309 ([]) ∧ Row 1 (RSl 1 RInt) 46 0 w v1 z1359.2 rb1 ib1366 ∧ Blk w b0 #[v0_0, v0_1, .int .i64 x0_2, .int .i64 z1357, v1529, v1308, .bool s1311] 122 ∧ Dj (rb1530 ++ []) [b0] ∧ Dj (rb1309 ++ []) rb1530 ∧ Dj (rb1530 ++ []) rb1309 ∧ Dj (rb1 ++ ib1366) rb1530 ∧ Dj (rb1530 ++ []) rb1) ?_ ?_
     ·
      refine x_blk ?_
      obtain ⟨fl1511, hf1512, hR⟩ := forL_gen hR
      refine x_loop (fun g a w => ∃ (k1537 : Nat) (rest1538 : List ArcStep) (s1513 : List Line) (v1516 : Value) (rb1517 : List Nat), (k1537 ≤ z1359.1.length ∧ z1359.1.drop k1537 = rest1538) ∧ rest1538.length = g ∧ forL fl1511 rest1538 k1537 s1513 = some o1507 ∧ Sk a 151 [(6, .int .i64 (k1537 : Int)), (0, .pointer (some ⟨b0, 0, none⟩)), (1, v1), (5, v1361)] ∧ Only (rb0_4 ++ (rb0_5 ++ ([b0] ++ rb1))) w0 w ∧ Row 4 RLine 161 0 w v1516 s1513 rb1517 ([]) ∧ Frs (rb0_4 ++ (rb0_5 ++ ([b0] ++ rb1))) w0.heap.size rb1517 ∧ Row 1 RInt 2 0 w v1308 s1305 rb1309 ([]) ∧ Row 1 (RSl 1 RInt) 46 0 w v1 z1359.2 rb1 ib1366 ∧ Row 3 RArcStep 268 0 w v1361 z1359.1 rb1362 ([]) ∧ Blk w b0 #[v0_0, v0_1, .int .i64 x0_2, .int .i64 z1357, v1516, v1308, .bool s1311] 122 ∧ Dj (rb1517 ++ []) [b0] ∧ Dj (rb1309 ++ []) rb1517 ∧ Dj (rb1517 ++ []) rb1309 ∧ Dj (rb1 ++ ib1366) rb1517 ∧ Dj (rb1517 ++ []) rb1 ∧ Dj (rb1362 ++ []) rb1517 ∧ Dj (rb1517 ++ []) rb1362) z1359.1.length ?_ ?_
      ·
       exact ⟨0, z1359.1, s1299, v1302, rb1303, ⟨Nat.zero_le _, rfl⟩, rfl, hR, F.sub (sc rfl (sc rfl (sc rfl (sc rfl sn)))), hB, h1301, fr1304, h1307, h1365, h1364, K0, d1315, d1317, d1320, d1374, d1313, (Dj.app' (Dj.symm (Dj.l d1378)) (Dj.nil' _)), d1378⟩
      ·
       intro g1540 a w ⟨k1537, rest1538, s1513, v1516, rb1517, hd1541, hg1542, hR, F, hB, h1515, fr1518, h1307, h1365, h1364, K0, d1519, d1520, d1521, d1522, d1523, d1524, d1525⟩
       cases rest1538 with
       | nil =>
        replace hR := forL_nil hR
        have hkk1537 := drop_nil hd1541.1 hd1541.2
        have hlk1537 := dec_no hkk1537
        refine x_seq ?_
        refine x_seq ?_
        refine x_reg ?_
        refine o_move F rfl rfl (fun a F => ?_)
        refine o_move F rfl rfl (fun a F => ?_)
        refine o_len Tryz.underlying265 F rfl rfl h1364.rd (fun a F => ?_)
        have i1598 := (h1364.rd).r.len64
        refine o_lss F rfl rfl rfl (fun a F => ?_)
        refine x_end ?_
        refine x_tn ?_
        refine x_ifF F rfl hlk1537 ?_
        refine x_exit ?_
        refine x_te ?_
        refine x_te ?_
        refine x_be ?_
        refine x_tn ?_
        exact ⟨s1513, v1516, rb1517, (Option.some.inj hR).symm, F.sub (sc rfl (sc rfl sn)), hB, h1515, fr1518, h1307, h1365, K0, d1519, d1520, d1521, d1522, d1523⟩
       | cons x1539 rest1538 =>
        subst hg1542
        replace hd1541 := drop_cons hd1541.2
        have hxk1537 := ix_nat hd1541.2.1
        obtain ⟨ck1537, hR, hn1510⟩ := forL_cons hR
        rw [hf1512] at hR
        have hlk1537 := dec_yes hd1541.1
        refine x_seq ?_
        refine x_seq ?_
        refine x_reg ?_
        refine o_move F rfl rfl (fun a F => ?_)
        refine o_move F rfl rfl (fun a F => ?_)
        refine o_len Tryz.underlying265 F rfl rfl h1364.rd (fun a F => ?_)
        have i1543 := (h1364.rd).r.len64
        refine o_lss F rfl rfl rfl (fun a F => ?_)
        refine x_end ?_
        refine x_tn ?_
        refine x_ifT F rfl hlk1537 ?_
        refine x_skip ?_
        refine x_tn ?_
        refine x_seq ?_
        have ikk1537 := k64 (Nat.le_of_lt hd1541.1) i1543
        have ink1537 := inc64 hd1541.1 i1543
        refine x_blk ?_
        refine x_drawn (by kernel_rfl) (fun w l => ?_)
        replace hB := hB.thru l
        replace h1307 := h1307.go l
        replace h1365 := h1365.go l
        replace h1364 := h1364.go l
        replace h1515 := h1515.go l
        replace K0 := K0.thru l
        refine b_q0 0 rfl (by kernel_rfl) (by kernel_rfl) (by kernel_rfl) ?_
        refine v_val F rfl (fun w l => r_move F rfl) (fun a F => ?_)
        refine b_q0 1 rfl (by kernel_rfl) (by kernel_rfl) (by kernel_rfl) ?_
        refine v_val F rfl (fun w l => r_move F rfl) (fun a F => ?_)
        refine b_q 2 (by kernel_rfl) rfl (by kernel_rfl) (by kernel_rfl) (by kernel_rfl) (by kernel_rfl) ?_
        refine v_val F rfl (fun w l => r_nilCheck F rfl) (fun a F => ?_)
        refine b_q 3 (by kernel_rfl) rfl (by kernel_rfl) (by kernel_rfl) (by kernel_rfl) (by kernel_rfl) ?_
        refine v_val F rfl (fun w l => r_bfield fa122_4 F rfl rfl) (fun a F => ?_)
        refine b_q 4 (by kernel_rfl) rfl (by kernel_rfl) (by kernel_rfl) (by kernel_rfl) (by kernel_rfl) ?_
        refine v_val F rfl (fun w l => r_load1 Tryz.isAgg75 F rfl (((K0.thru l).cell _).trans rfl)) (fun a F => ?_)
        refine b_q0 5 rfl (by kernel_rfl) (by kernel_rfl) (by kernel_rfl) ?_
        refine v_val F rfl (fun w l => r_move F rfl) (fun a F => ?_)
        refine b_q0 6 rfl (by kernel_rfl) (by kernel_rfl) (by kernel_rfl) ?_
        refine v_val F rfl (fun w l => r_move F rfl) (fun a F => ?_)
        refine b_q 7 (by kernel_rfl) rfl (by kernel_rfl) (by kernel_rfl) (by kernel_rfl) (by kernel_rfl) ?_
        refine v_index Tryz.underlying265 Tryz.sizeOf268 F rfl rfl rfl h1364.rd hxk1537 (fun a p1544 b1545 h1546 s1547 F => ?_)
        refine b_q 8 (by kernel_rfl) rfl (by kernel_rfl) (by kernel_rfl) (by kernel_rfl) (by kernel_rfl) ?_
        refine v_field (s' := 1) fa268_0 F rfl rfl h1546 RArcStep.f0 (fun a p1548 b1549 h1550 s1551 F => ?_)
        refine b_q 9 (by kernel_rfl) rfl (by kernel_rfl) (by kernel_rfl) (by kernel_rfl) (by kernel_rfl) ?_
        have i1552 := (h1550).i64
        refine v_val F rfl (fun w l => r_loadI Tryz.isAgg2 F rfl ((h1550).go l)) (fun a F => ?_)
        refine b_q0 10 rfl (by kernel_rfl) (by kernel_rfl) (by kernel_rfl) ?_
        refine v_val F rfl (fun w l => r_move F rfl) (fun a F => ?_)
        refine b_q0 11 rfl (by kernel_rfl) (by kernel_rfl) (by kernel_rfl) ?_
        refine v_val F rfl (fun w l => r_move F rfl) (fun a F => ?_)
        refine b_q 12 (by kernel_rfl) rfl (by kernel_rfl) (by kernel_rfl) (by kernel_rfl) (by kernel_rfl) ?_
        refine v_index Tryz.underlying265 Tryz.sizeOf268 F rfl rfl rfl h1364.rd hxk1537 (fun a p1553 b1554 h1555 s1556 F => ?_)
        refine b_q 13 (by kernel_rfl) rfl (by kernel_rfl) (by kernel_rfl) (by kernel_rfl) (by kernel_rfl) ?_
        refine v_field (s' := 1) fa268_1 F rfl rfl h1555 RArcStep.f1 (fun a p1557 b1558 h1559 s1560 F => ?_)
        refine b_q 14 (by kernel_rfl) rfl (by kernel_rfl) (by kernel_rfl) (by kernel_rfl) (by kernel_rfl) ?_
        have i1561 := (h1559).i64
        refine v_val F rfl (fun w l => r_loadI Tryz.isAgg2 F rfl ((h1559).go l)) (fun a F => ?_)
        refine b_q0 15 rfl (by kernel_rfl) (by kernel_rfl) (by kernel_rfl) ?_
        refine v_val F rfl (fun w l => r_move F rfl) (fun a F => ?_)
        refine b_q0 16 rfl (by kernel_rfl) (by kernel_rfl) (by kernel_rfl) ?_
        refine v_val F rfl (fun w l => r_move F rfl) (fun a F => ?_)
        refine b_q 17 (by kernel_rfl) rfl (by kernel_rfl) (by kernel_rfl) (by kernel_rfl) (by kernel_rfl) ?_
        refine v_index Tryz.underlying265 Tryz.sizeOf268 F rfl rfl rfl h1364.rd hxk1537 (fun a p1562 b1563 h1564 s1565 F => ?_)
        refine b_q 18 (by kernel_rfl) rfl (by kernel_rfl) (by kernel_rfl) (by kernel_rfl) (by kernel_rfl) ?_
        refine v_field (s' := 1) fa268_2 F rfl rfl h1564 RArcStep.f2 (fun a p1566 b1567 h1568 s1569 F => ?_)
        refine b_q 19 (by kernel_rfl) rfl (by kernel_rfl) (by kernel_rfl) (by kernel_rfl) (by kernel_rfl) ?_
        have i1570 := (h1568).i64
        refine v_val F rfl (fun w l => r_loadI Tryz.isAgg2 F rfl ((h1568).go l)) (fun a F => ?_)
        refine b_q 20 (by kernel_rfl) rfl (by kernel_rfl) (by kernel_rfl) (by kernel_rfl) (by kernel_rfl) ?_
        refine v_val F rfl (fun w l => r_build Tryz.underlying161 Tryz.zeroValue161 (fun w => by simp [Tryz.sizeOf2]; rfl) F rfl rfl rfl rfl (oc rfl (oc rfl (oc rfl (oc rfl on)))) rfl rfl) (fun a F => ?_)
        have h1571 := RLine.mk2 (w := w) (show I64 (2) by decide) i1552 i1561 i1570
        refine b_e 21 rfl (by kernel_rfl) ?_
        refine o_lit1 (R := RLine) (y := (Line.mk 2 x1539.var x1539.value x1539.con)) Tryz.underlying75 Tryz.sizeOf161 Tryz.zeroValue161 rfl (by decide) (by decide) F rfl rfl (El.agg h1571) (fun a w v1572 rb1573 h1574 l F => ?_)
        have d1576 := Dj.new h1307.rd.m h1574.ownR (Nat.le_refl _)
        have d1577 := Dj.new h1365.rd.m h1574.ownR (Nat.le_refl _)
        have d1578 := Dj.new h1364.rd.m h1574.ownR (Nat.le_refl _)
        have d1579 := Dj.new h1515.rd.m h1574.ownR (Nat.le_refl _)
        have d1580 := Dj.new (inm1 K0) h1574.ownR (Nat.le_refl _)
        have d1581 := Dj.app' (Dj.new h1307.memR h1574.ownR (Nat.le_refl _)).symm (Dj.nil' _)
        have d1582 := Dj.app' (Dj.new h1365.memR h1574.ownR (Nat.le_refl _)).symm (Dj.nil' _)
        have d1583 := Dj.app' (Dj.new h1365.mem h1574.ownR (Nat.le_refl _)).symm (Dj.nil' _)
        have d1584 := Dj.app' (Dj.new h1364.memR h1574.ownR (Nat.le_refl _)).symm (Dj.nil' _)
        have d1585 := Dj.app' (Dj.new h1515.memR h1574.ownR (Nat.le_refl _)).symm (Dj.nil' _)
        have fr1586 : Frs [] w0.heap.size _ := Frs.new hB.size h1574.lo
        replace h1574 := h1574.base (Nat.zero_le _)
        replace hB := hB.thru l
        replace h1307 := h1307.go l
        replace h1365 := h1365.go l
        replace h1364 := h1364.go l
        replace h1515 := h1515.go l
        replace K0 := K0.thru l
        refine x_end ?_
        refine x_tn ?_
        refine ⟨.inl l, ?_⟩
        refine b_e 22 rfl (by kernel_rfl) ?_
        obtain ⟨z1587, c1588, hR⟩ := bnd_some hR
        refine o_append (sz := 4) (R := RLine) (z := (.agg #[.int .i64 0, .int .i64 0, .int .i64 0, .int .i64 0])) (bytes := 32) Tryz.underlying75 (by kernel_rfl) rfl (by decide) (by decide) (by decide) F rfl rfl rfl h1515 h1574.src (Nat.zero_le _) (Dj.nil _) c1588 (fun a w v1589 rb1590 h1591 l keep F => ?_)
        replace h1591 := row_nil2 h1591
        have fr1593 := Frs.keep fr1518 hB.size keep
        have d1594 := keep _ (inm1 K0) (Dj.symm (Dj.l d1519))
        have d1595 := keep _ h1307.rd.m d1520
        have d1596 := keep _ h1365.rd.m d1522
        have d1597 := keep _ h1364.rd.m d1524
        replace hB := hB.oo l fr1518
        replace h1307 := h1307.goO l d1520
        replace h1365 := h1365.goO l d1522
        replace h1364 := h1364.goO l d1524
        replace K0 := K0.only l (Dj.symm (Dj.l d1519)).not
        refine x_end ?_
        refine x_tn ?_
        refine ⟨.inr (by kernel_rfl), ?_⟩
        refine b_q 23 (by kernel_rfl) rfl (by kernel_rfl) (by kernel_rfl) (by kernel_rfl) (by kernel_rfl) ?_
        refine v_val F rfl (fun w l => r_nilCheck F rfl) (fun a F => ?_)
        refine b_q 24 (by kernel_rfl) rfl (by kernel_rfl) (by kernel_rfl) (by kernel_rfl) (by kernel_rfl) ?_
        refine v_val F rfl (fun w l => r_bfield fa122_4 F rfl rfl) (fun a F => ?_)
        refine b_e 25 rfl (by kernel_rfl) ?_
        refine o_bstore Tryz.sizeOf75 F rfl rfl rfl K0 (h1591.rd).r.one (by simp) rfl (fun w K0 l => ?_)
        replace hB := hB.oo l frK0
        replace h1307 := h1307.goO l d1318
        replace h1365 := h1365.goO l d1376
        replace h1364 := h1364.goO l (Dj.app' (Dj.symm d1380) (Dj.nil' _))
        replace h1591 := h1591.goO l (Dj.app' (Dj.symm d1594) (Dj.nil' _))
        refine x_end ?_
        refine x_tn ?_
        refine ⟨.inr (by kernel_rfl), ?_⟩
        refine b_end (by kernel_rfl) ?_
        refine x_bn ?_
        refine x_tn ?_
        refine x_reg ?_
        refine o_move F rfl rfl (fun a F => ?_)
        refine o_inc F rfl rfl rfl ink1537 (fun a F => ?_)
        refine o_assign F rfl rfl (fun a F => ?_)
        refine x_end ?_
        refine x_tn ?_
        replace hR := l_go hR hn1510
        exact ⟨_, Nat.lt_succ_self _, k1537 + 1, rest1538, z1587, v1589, rb1590, ⟨hd1541.1, hd1541.2.2⟩, rfl, hR, F.sub (sc rfl (sc rfl (sc rfl (sc rfl sn)))), hB, h1591, fr1593, h1307, h1365, h1364, K0, (Dj.app' (Dj.symm d1594) (Dj.nil' _)), d1595, (Dj.app' (Dj.symm (Dj.l d1595)) (Dj.nil' _)), d1596, (Dj.app' (Dj.symm (Dj.l d1596)) (Dj.nil' _)), d1597, (Dj.app' (Dj.symm (Dj.l d1597)) (Dj.nil' _))⟩
     ·
      intro a w ⟨s1526, v1529, rb1530, ho1509, F, hB, h1528, fr1531, h1307, h1365, K0, d1532, d1533, d1534, d1535, d1536⟩
      subst ho1509
      have hR := then_nx hk1508
      refine x_tn ?_
      refine x_seq ?_
      refine x_seq ?_
      refine x_reg ?_
      refine o_move F rfl rfl (fun a F => ?_)
      refine o_move F rfl rfl (fun a F => ?_)
      obtain ⟨z1599, c1600, hR⟩ := bnd_some hR
      have d1604 : Dj (rb1309 ++ []) ([b0]) := d1318
      have d1605 : Dj (rb1 ++ ib1366) ([b0]) := d1376
      have d1606 : Dj (rb1530 ++ []) ([b0]) := d1532
      refine o_givesX F rfl Tryz.call215 rfl (spec_l08Search_empty_c z1599 c1600 _ (A0_0.goO hB dA0_0) (A0_1.goO hB dA0_1) hx0_2 (ck64 c1358) h1528.rd h1307.rd K0 h1365.rd (Dj.frs A0_0.m dA0_0 frK0) (Dj.frs A0_1.m dA0_1 frK0) d1532 d1318 d1376) (fun a vv w l ⟨hv1603, i1601, K1602⟩ F => ?_)
      subst vv
      replace hB := hB.oo l frK0
      replace h1307 := h1307.goO l d1604
      replace h1365 := h1365.goO l d1605
      replace h1528 := h1528.goO l d1606
      replace K0 := K1602
      refine o_assign F rfl rfl (fun a F => ?_)
      refine x_end ?_
      refine x_tn ?_
      refine x_seq ?_
      refine x_reg ?_
      refine o_move F rfl rfl (fun a F => ?_)
      refine o_geq F rfl rfl rfl (fun a F => ?_)
      refine x_end ?_
      refine x_tn ?_
      refine x_if F rfl (fun hb1607 => ?_) (fun hb1607 => ?_)
      ·
       replace hR := ifT hb1607 hR
       refine x_seq ?_
       refine x_reg ?_
       refine o_move F rfl rfl (fun a F => ?_)
       refine o_move F rfl rfl (fun a F => ?_)
       refine o_nilCheck F rfl rfl (fun a F => ?_)
       refine o_bfield fa122_4 F rfl rfl rfl (fun a F => ?_)
       refine o_bload Tryz.isAgg75 F rfl rfl K0 rfl (fun a F => ?_)
       refine o_move F rfl rfl (fun a F => ?_)
       refine o_build Tryz.underlying161 Tryz.zeroValue161 (fun w => by simp [Tryz.sizeOf2]; rfl) F rfl rfl rfl rfl rfl (oc rfl (oc rfl on)) rfl rfl (fun a F => ?_)
       have h1608 := RLine.mk2 (w := w) (show I64 (3) by decide) i1601 (show I64 0 by decide) (show I64 0 by decide)
       refine o_lit1 (R := RLine) (y := (Line.mk 3 z1599 0 0)) Tryz.underlying75 Tryz.sizeOf161 Tryz.zeroValue161 rfl (by decide) (by decide) F rfl rfl (El.agg h1608) (fun a w v1609 rb1610 h1611 l F => ?_)
       have d1613 := Dj.new h1307.rd.m h1611.ownR (Nat.le_refl _)
       have d1614 := Dj.new h1365.rd.m h1611.ownR (Nat.le_refl _)
       have d1615 := Dj.new h1528.rd.m h1611.ownR (Nat.le_refl _)
       have d1616 := Dj.new (inm1 K0) h1611.ownR (Nat.le_refl _)
       have d1617 := Dj.app' (Dj.new h1307.memR h1611.ownR (Nat.le_refl _)).symm (Dj.nil' _)
       have d1618 := Dj.app' (Dj.new h1365.memR h1611.ownR (Nat.le_refl _)).symm (Dj.nil' _)
       have d1619 := Dj.app' (Dj.new h1365.mem h1611.ownR (Nat.le_refl _)).symm (Dj.nil' _)
       have d1620 := Dj.app' (Dj.new h1528.memR h1611.ownR (Nat.le_refl _)).symm (Dj.nil' _)
       have fr1621 : Frs [] w0.heap.size _ := Frs.new hB.size h1611.lo
       replace h1611 := h1611.base (Nat.zero_le _)
       replace hB := hB.thru l
       replace h1307 := h1307.go l
       replace h1365 := h1365.go l
       replace h1528 := h1528.go l
       replace K0 := K0.thru l
       obtain ⟨z1622, c1623, hR⟩ := bnd_some hR
       refine o_append (sz := 4) (R := RLine) (z := (.agg #[.int .i64 0, .int .i64 0, .int .i64 0, .int .i64 0])) (bytes := 32) Tryz.underlying75 (by kernel_rfl) rfl (by decide) (by decide) (by decide) F rfl rfl rfl h1528 h1611.src (Nat.zero_le _) (Dj.nil _) c1623 (fun a w v1624 rb1625 h1626 l keep F => ?_)
       replace h1626 := row_nil2 h1626
       have fr1628 := Frs.keep fr1531 hB.size keep
       have d1629 := keep _ (inm1 K0) (Dj.symm (Dj.l d1532))
       have d1630 := keep _ h1307.rd.m d1533
       have d1631 := keep _ h1365.rd.m d1535
       replace hB := hB.oo l fr1531
       replace h1307 := h1307.goO l d1533
       replace h1365 := h1365.goO l d1535
       replace K0 := K0.only l (Dj.symm (Dj.l d1532)).not
       refine o_nilCheck F rfl rfl (fun a F => ?_)
       refine o_bfield fa122_4 F rfl rfl rfl (fun a F => ?_)
       refine o_bstore Tryz.sizeOf75 F rfl rfl rfl K0 (h1626.rd).r.one (by simp) rfl (fun w K0 l => ?_)
       replace hB := hB.oo l frK0
       replace h1307 := h1307.goO l d1318
       replace h1365 := h1365.goO l d1376
       replace h1626 := h1626.goO l (Dj.app' (Dj.symm d1629) (Dj.nil' _))
       refine x_end ?_
       refine x_tn ?_
       refine x_seq ?_
       refine x_reg ?_
       refine o_assign F rfl rfl (fun a F => ?_)
       refine x_end ?_
       refine x_tn ?_
       refine x_ret ?_
       refine x_tr ?_
       refine x_br ?_
       refine x_tr ?_
       replace hR := l_ret hR hn1289
       refine x_br ?_
       refine x_tr ?_
       replace hR := j_ret hR hk1287
       refine x_res1 F rfl (rv_t F rfl) ?_
       obtain rfl := Option.some.inj hR
       exact ⟨_, rfl, hB, v1624, rb1625, v1308, rb1309, ib1366, rfl, (ck64 c1358), h1626, fr1628, h1307, fr1310, K0, h1365, fi1377, (Dj.app' (Dj.symm (Dj.l d1630)) (Dj.nil' _)), (Dj.app' (Dj.symm d1629) (Dj.nil' _)), (Dj.app' (Dj.symm (Dj.l d1631)) (Dj.nil' _)), d1630, d1318, d1314, d1631, d1375, d1376⟩
      ·
       replace hR := ifF hb1607 hR
       refine x_skip ?_
       refine x_tn ?_
       refine x_seq ?_
       refine x_reg ?_
       refine o_move F rfl rfl (fun a F => ?_)
       refine o_move F rfl rfl (fun a F => ?_)
       obtain ⟨z1632, c1633, hR⟩ := bnd_some hR
       have d1637 : Dj (rb1309 ++ []) ([b0]) := d1318
       have d1638 : Dj (rb1 ++ ib1366) ([b0]) := d1376
       have d1639 : Dj (rb1530 ++ []) ([b0]) := d1532
       refine o_givesX F rfl Tryz.call216 rfl (spec_l08Search_next_c z1632 c1633 _ (A0_0.goO hB dA0_0) (A0_1.goO hB dA0_1) hx0_2 (ck64 c1358) h1528.rd h1307.rd K0 h1365.rd (Dj.frs A0_0.m dA0_0 frK0) (Dj.frs A0_1.m dA0_1 frK0) d1532 d1318 d1376) (fun a vv w l ⟨hv1636, i1634, K1635⟩ F => ?_)
       subst vv
       replace hB := hB.oo l frK0
       replace h1307 := h1307.goO l d1637
       replace h1365 := h1365.goO l d1638
       replace h1528 := h1528.goO l d1639
       replace K0 := K1635
       refine o_assign F rfl rfl (fun a F => ?_)
       refine x_end ?_
       refine x_tn ?_
       refine x_seq ?_
       refine x_seq ?_
       refine x_reg ?_
       refine o_move F rfl rfl (fun a F => ?_)
       refine o_lss F rfl rfl rfl (fun a F => ?_)
       refine x_end ?_
       refine x_tn ?_
       refine x_if F rfl (fun hb1640 => ?_) (fun hb1640 => ?_)
       ·
        replace hR := ifT hb1640 hR
        refine x_seq ?_
        refine x_seq ?_
        refine x_reg ?_
        refine o_assign F rfl rfl (fun a F => ?_)
        refine x_end ?_
        refine x_tn ?_
        obtain ⟨o1731, hR, hk1732⟩ := thn_some hR
        refine x_cutQ (fun a w => ∃ (s1748 : List Int) (v1751 : Value) (rb1752 : List Nat), o1731 = .nx s1748 ∧ Sk a 151 [(0, .pointer (some ⟨b0, 0, none⟩)), (1, v1)] ∧ Only (rb0_4 ++ (rb0_5 ++ ([b0] ++ rb1))) w0 w ∧ Row 1 RInt 2 0 w v1751 s1748 rb1752 ([]) ∧ Frs (rb0_4 ++ (rb0_5 ++ ([b0] ++ rb1))) w0.heap.size rb1752 ∧ Row 1 (RSl 1 RInt) 46 0 w v1 z1359.2 rb1 ib1366 ∧ Row 4 RLine 161 0 w v1529 s1526 rb1530 ([]) ∧ Blk w b0 #[v0_0, v0_1, .int .i64 x0_2, .int .i64 z1357, v1529, v1751, .bool s1311] 122 ∧ Dj (rb1752 ++ []) [b0] ∧ Dj (rb1 ++ ib1366) rb1752 ∧ Dj (rb1752 ++ []) rb1 ∧ Dj (rb1530 ++ []) rb1752 ∧ Dj (rb1752 ++ []) rb1530) ?_ ?_
        ·
         refine x_blk ?_
         obtain ⟨fl1735, hf1736, hR⟩ := forL_gen hR
         refine x_loop (fun g a w => ∃ (k1759 : Nat) (rest1760 : List (List Int)) (s1737 : List Int) (v1740 : Value) (rb1741 : List Nat), (k1759 ≤ z1359.2.length ∧ z1359.2.drop k1759 = rest1760) ∧ rest1760.length = g ∧ forL fl1735 rest1760 k1759 s1737 = some o1731 ∧ Sk a 151 [(9, .int .i64 (k1759 : Int)), (0, .pointer (some ⟨b0, 0, none⟩)), (1, v1)] ∧ Only (rb0_4 ++ (rb0_5 ++ ([b0] ++ rb1))) w0 w ∧ Row 1 RInt 2 0 w v1740 s1737 rb1741 ([]) ∧ Frs (rb0_4 ++ (rb0_5 ++ ([b0] ++ rb1))) w0.heap.size rb1741 ∧ Row 1 (RSl 1 RInt) 46 0 w v1 z1359.2 rb1 ib1366 ∧ Row 4 RLine 161 0 w v1529 s1526 rb1530 ([]) ∧ Blk w b0 #[v0_0, v0_1, .int .i64 x0_2, .int .i64 z1357, v1529, v1740, .bool s1311] 122 ∧ Dj (rb1741 ++ []) [b0] ∧ Dj (rb1 ++ ib1366) rb1741 ∧ Dj (rb1741 ++ []) rb1 ∧ Dj (rb1530 ++ []) rb1741 ∧ Dj (rb1741 ++ []) rb1530) z1359.2.length ?_ ?_
         ·
          exact ⟨0, z1359.2, s1305, v1308, rb1309, ⟨Nat.zero_le _, rfl⟩, rfl, hR, F.sub (sc rfl (sc rfl (sc rfl sn))), hB, h1307, fr1310, h1365, h1528, K0, d1318, d1375, d1314, d1534, d1533⟩
         ·
          intro g1762 a w ⟨k1759, rest1760, s1737, v1740, rb1741, hd1763, hg1764, hR, F, hB, h1739, fr1742, h1365, h1528, K0, d1743, d1744, d1745, d1746, d1747⟩
          cases rest1760 with
          | nil =>
           replace hR := forL_nil hR
           have hkk1759 := drop_nil hd1763.1 hd1763.2
           have hlk1759 := dec_no hkk1759
           refine x_seq ?_
           refine x_seq ?_
           refine x_reg ?_
           refine o_move F rfl rfl (fun a F => ?_)
           refine o_move F rfl rfl (fun a F => ?_)
           refine o_len Tryz.underlying72 F rfl rfl h1365.rd (fun a F => ?_)
           have i1804 := (h1365.rd).r.len64
           refine o_lss F rfl rfl rfl (fun a F => ?_)
           refine x_end ?_
           refine x_tn ?_
           refine x_ifF F rfl hlk1759 ?_
           refine x_exit ?_
           refine x_te ?_
           refine x_te ?_
           refine x_be ?_
           refine x_tn ?_
           exact ⟨s1737, v1740, rb1741, (Option.some.inj hR).symm, F.sub (sc rfl (sc rfl sn)), hB, h1739, fr1742, h1365, h1528, K0, d1743, d1744, d1745, d1746, d1747⟩
          | cons x1761 rest1760 =>
           subst hg1764
           replace hd1763 := drop_cons hd1763.2
           have hxk1759 := ix_nat hd1763.2.1
           obtain ⟨ck1759, hR, hn1734⟩ := forL_cons hR
           rw [hf1736] at hR
           have hlk1759 := dec_yes hd1763.1
           refine x_seq ?_
           refine x_seq ?_
           refine x_reg ?_
           refine o_move F rfl rfl (fun a F => ?_)
           refine o_move F rfl rfl (fun a F => ?_)
           refine o_len Tryz.underlying72 F rfl rfl h1365.rd (fun a F => ?_)
           have i1765 := (h1365.rd).r.len64
           refine o_lss F rfl rfl rfl (fun a F => ?_)
           refine x_end ?_
           refine x_tn ?_
           refine x_ifT F rfl hlk1759 ?_
           refine x_skip ?_
           refine x_tn ?_
           refine x_seq ?_
           have ikk1759 := k64 (Nat.le_of_lt hd1763.1) i1765
           have ink1759 := inc64 hd1763.1 i1765
           refine x_blk ?_
           refine x_drawn (by kernel_rfl) (fun w l => ?_)
           replace hB := hB.thru l
           replace h1365 := h1365.go l
           replace h1528 := h1528.go l
           replace h1739 := h1739.go l
           replace K0 := K0.thru l
           refine b_q0 0 rfl (by kernel_rfl) (by kernel_rfl) (by kernel_rfl) ?_
           refine v_val F rfl (fun w l => r_move F rfl) (fun a F => ?_)
           refine b_q0 1 rfl (by kernel_rfl) (by kernel_rfl) (by kernel_rfl) ?_
           refine v_val F rfl (fun w l => r_move F rfl) (fun a F => ?_)
           refine b_q 2 (by kernel_rfl) rfl (by kernel_rfl) (by kernel_rfl) (by kernel_rfl) (by kernel_rfl) ?_
           refine v_val F rfl (fun w l => r_nilCheck F rfl) (fun a F => ?_)
           refine b_q 3 (by kernel_rfl) rfl (by kernel_rfl) (by kernel_rfl) (by kernel_rfl) (by kernel_rfl) ?_
           refine v_val F rfl (fun w l => r_bfield fa122_5 F rfl rfl) (fun a F => ?_)
           refine b_q 4 (by kernel_rfl) rfl (by kernel_rfl) (by kernel_rfl) (by kernel_rfl) (by kernel_rfl) ?_
           refine v_val F rfl (fun w l => r_load1 Tryz.isAgg46 F rfl (((K0.thru l).cell _).trans rfl)) (fun a F => ?_)
           refine b_q0 5 rfl (by kernel_rfl) (by kernel_rfl) (by kernel_rfl) ?_
           refine v_val F rfl (fun w l => r_move F rfl) (fun a F => ?_)
           refine b_q0 6 rfl (by kernel_rfl) (by kernel_rfl) (by kernel_rfl) ?_
           refine v_val F rfl (fun w l => r_move F rfl) (fun a F => ?_)
           refine b_q 7 (by kernel_rfl) rfl (by kernel_rfl) (by kernel_rfl) (by kernel_rfl) (by kernel_rfl) ?_
           refine v_index Tryz.underlying72 Tryz.sizeOf46 F rfl rfl rfl h1365.rd hxk1759 (fun a p1766 b1767 h1768 s1769 F => ?_)
           refine b_q 8 (by kernel_rfl) rfl (by kernel_rfl) (by kernel_rfl) (by kernel_rfl) (by kernel_rfl) ?_
           refine v_loadS (fun _ l => l) Tryz.isAgg46 F rfl rfl h1768 (fun a v1770 b1771 h1772 s1773 F => ?_)
           refine b_q 9 (by kernel_rfl) rfl (by kernel_rfl) (by kernel_rfl) (by kernel_rfl) (by kernel_rfl) ?_
           obtain ⟨z1774, c1775, hR⟩ := bnd_some hR
           refine v_index Tryz.underlying46 Tryz.sizeOf2 F rfl rfl rfl h1772 c1775 (fun a p1776 b1777 h1778 s1779 F => ?_)
           refine b_q 10 (by kernel_rfl) rfl (by kernel_rfl) (by kernel_rfl) (by kernel_rfl) (by kernel_rfl) ?_
           have i1780 := (h1778).i64
           refine v_val F rfl (fun w l => r_loadI Tryz.isAgg2 F rfl ((h1778).go l)) (fun a F => ?_)
           refine b_e 11 rfl (by kernel_rfl) ?_
           refine o_lit1 (R := RInt) (y := z1774) Tryz.underlying46 Tryz.sizeOf2 Tryz.zeroValue2 rfl (by decide) (by decide) F rfl rfl (El.int i1780) (fun a w v1781 rb1782 h1783 l F => ?_)
           have d1785 := Dj.new h1365.rd.m h1783.ownR (Nat.le_refl _)
           have d1786 := Dj.new h1528.rd.m h1783.ownR (Nat.le_refl _)
           have d1787 := Dj.new h1739.rd.m h1783.ownR (Nat.le_refl _)
           have d1788 := Dj.new (inm1 K0) h1783.ownR (Nat.le_refl _)
           have d1789 := Dj.app' (Dj.new h1365.memR h1783.ownR (Nat.le_refl _)).symm (Dj.nil' _)
           have d1790 := Dj.app' (Dj.new h1365.mem h1783.ownR (Nat.le_refl _)).symm (Dj.nil' _)
           have d1791 := Dj.app' (Dj.new h1528.memR h1783.ownR (Nat.le_refl _)).symm (Dj.nil' _)
           have d1792 := Dj.app' (Dj.new h1739.memR h1783.ownR (Nat.le_refl _)).symm (Dj.nil' _)
           have fr1793 : Frs [] w0.heap.size _ := Frs.new hB.size h1783.lo
           replace h1783 := h1783.base (Nat.zero_le _)
           replace hB := hB.thru l
           replace h1365 := h1365.go l
           replace h1528 := h1528.go l
           replace h1739 := h1739.go l
           replace K0 := K0.thru l
           refine x_end ?_
           refine x_tn ?_
           refine ⟨.inl l, ?_⟩
           refine b_e 12 rfl (by kernel_rfl) ?_
           obtain ⟨z1794, c1795, hR⟩ := bnd_some hR
           refine o_append (sz := 1) (R := RInt) (z := (.int .i64 0)) (bytes := 8) Tryz.underlying46 (by kernel_rfl) rfl (by decide) (by decide) (by decide) F rfl rfl rfl h1739 h1783.src (Nat.zero_le _) (Dj.nil _) c1795 (fun a w v1796 rb1797 h1798 l keep F => ?_)
           replace h1798 := row_nil2 h1798
           have fr1800 := Frs.keep fr1742 hB.size keep
           have d1801 := keep _ (inm1 K0) (Dj.symm (Dj.l d1743))
           have d1802 := keep _ h1365.rd.m d1744
           have d1803 := keep _ h1528.rd.m d1746
           replace hB := hB.oo l fr1742
           replace h1365 := h1365.goO l d1744
           replace h1528 := h1528.goO l d1746
           replace K0 := K0.only l (Dj.symm (Dj.l d1743)).not
           refine x_end ?_
           refine x_tn ?_
           refine ⟨.inr (by kernel_rfl), ?_⟩
           refine b_q 13 (by kernel_rfl) rfl (by kernel_rfl) (by kernel_rfl) (by kernel_rfl) (by kernel_rfl) ?_
           refine v_val F rfl (fun w l => r_nilCheck F rfl) (fun a F => ?_)
           refine b_q 14 (by kernel_rfl) rfl (by kernel_rfl) (by kernel_rfl) (by kernel_rfl) (by kernel_rfl) ?_
           refine v_val F rfl (fun w l => r_bfield fa122_5 F rfl rfl) (fun a F => ?_)
           refine b_e 15 rfl (by kernel_rfl) ?_
           refine o_bstore Tryz.sizeOf46 F rfl rfl rfl K0 (h1798.rd).r.one (by simp) rfl (fun w K0 l => ?_)
           replace hB := hB.oo l frK0
           replace h1365 := h1365.goO l d1376
           replace h1528 := h1528.goO l d1532
           replace h1798 := h1798.goO l (Dj.app' (Dj.symm d1801) (Dj.nil' _))
           refine x_end ?_
           refine x_tn ?_
           refine ⟨.inr (by kernel_rfl), ?_⟩
           refine b_end (by kernel_rfl) ?_
           refine x_bn ?_
           refine x_tn ?_
           refine x_reg ?_
           refine o_move F rfl rfl (fun a F => ?_)
           refine o_inc F rfl rfl rfl ink1759 (fun a F => ?_)
           refine o_assign F rfl rfl (fun a F => ?_)
           refine x_end ?_
           refine x_tn ?_
           replace hR := l_go hR hn1734
           exact ⟨_, Nat.lt_succ_self _, k1759 + 1, rest1760, z1794, v1796, rb1797, ⟨hd1763.1, hd1763.2.2⟩, rfl, hR, F.sub (sc rfl (sc rfl (sc rfl sn))), hB, h1798, fr1800, h1365, h1528, K0, (Dj.app' (Dj.symm d1801) (Dj.nil' _)), d1802, (Dj.app' (Dj.symm (Dj.l d1802)) (Dj.nil' _)), d1803, (Dj.app' (Dj.symm (Dj.l d1803)) (Dj.nil' _))⟩
        ·
         intro a w ⟨s1748, v1751, rb1752, ho1733, F, hB, h1750, fr1753, h1365, h1528, K0, d1754, d1755, d1756, d1757, d1758⟩
         subst ho1733
         have hR := then_nx hk1732
         refine x_tn ?_
         refine x_seq ?_
         refine x_reg ?_
         refine o_assign F rfl rfl (fun a F => ?_)
         refine x_end ?_
         refine x_tn ?_
         refine x_ret ?_
         refine x_tr ?_
         refine x_br ?_
         refine x_tr ?_
         replace hR := l_ret hR hn1289
         refine x_br ?_
         refine x_tr ?_
         replace hR := j_ret hR hk1287
         refine x_res1 F rfl (rv_t F rfl) ?_
         obtain rfl := Option.some.inj hR
         exact ⟨_, rfl, hB, v1529, rb1530, v1751, rb1752, ib1366, rfl, (ck64 c1358), h1528, fr1531, h1750, fr1753, K0, h1365, fi1377, d1757, d1532, d1536, d1758, d1754, d1756, d1535, d1755, d1376⟩
       ·
        replace hR := ifF hb1640 hR
        refine x_skip ?_
        refine x_tn ?_
        refine x_seq ?_
        refine x_reg ?_
        refine o_move F rfl rfl (fun a F => ?_)
        refine o_move F rfl rfl (fun a F => ?_)
        obtain ⟨z1805, c1806, hR⟩ := bnd_some hR
        refine o_rindex Tryz.underlying72 Tryz.sizeOf46 F rfl rfl rfl h1365 c1806 (fun a p1807 b1808 h1809 s1810 rp1811 F => ?_)
        refine o_loadS Tryz.isAgg46 F rfl rfl h1809 (fun a v1812 b1813 h1814 s1815 F => ?_)
        obtain ⟨z1816, c1817, hR⟩ := bnd_some hR
        refine o_index Tryz.underlying46 Tryz.sizeOf2 F rfl rfl rfl h1814 c1817 (fun a p1818 b1819 h1820 s1821 F => ?_)
        have i1822 := (h1820).i64
        refine o_loadI Tryz.isAgg2 F rfl rfl h1820 (fun a F => ?_)
        refine o_assign F rfl rfl (fun a F => ?_)
        refine x_end ?_
        refine x_tn ?_
        refine x_seq ?_
        refine x_reg ?_
        refine o_move F rfl rfl (fun a F => ?_)
        refine o_move F rfl rfl (fun a F => ?_)
        refine o_nilCheck F rfl rfl (fun a F => ?_)
        refine o_bfield fa122_4 F rfl rfl rfl (fun a F => ?_)
        refine o_bload Tryz.isAgg75 F rfl rfl K0 rfl (fun a F => ?_)
        refine o_move F rfl rfl (fun a F => ?_)
        refine o_move F rfl rfl (fun a F => ?_)
        refine o_build Tryz.underlying161 Tryz.zeroValue161 (fun w => by simp [Tryz.sizeOf2]; rfl) F rfl rfl rfl rfl rfl (oc rfl (oc rfl (oc rfl on))) rfl rfl (fun a F => ?_)
        have h1823 := RLine.mk2 (w := w) (show I64 (1) by decide) i1634 i1822 (show I64 0 by decide)
        refine o_lit1 (R := RLine) (y := (Line.mk 1 z1632 z1816 0)) Tryz.underlying75 Tryz.sizeOf161 Tryz.zeroValue161 rfl (by decide) (by decide) F rfl rfl (El.agg h1823) (fun a w v1824 rb1825 h1826 l F => ?_)
        have d1828 := Dj.new h1307.rd.m h1826.ownR (Nat.le_refl _)
        have d1829 := Dj.new h1365.rd.m h1826.ownR (Nat.le_refl _)
        have d1830 := Dj.new h1528.rd.m h1826.ownR (Nat.le_refl _)
        have d1831 := Dj.new (inm1 K0) h1826.ownR (Nat.le_refl _)
        have d1832 := Dj.app' (Dj.new h1307.memR h1826.ownR (Nat.le_refl _)).symm (Dj.nil' _)
        have d1833 := Dj.app' (Dj.new h1365.memR h1826.ownR (Nat.le_refl _)).symm (Dj.nil' _)
        have d1834 := Dj.app' (Dj.new h1365.mem h1826.ownR (Nat.le_refl _)).symm (Dj.nil' _)
        have d1835 := Dj.app' (Dj.new h1528.memR h1826.ownR (Nat.le_refl _)).symm (Dj.nil' _)
        have fr1836 : Frs [] w0.heap.size _ := Frs.new hB.size h1826.lo
        replace h1826 := h1826.base (Nat.zero_le _)
        replace hB := hB.thru l
        replace h1307 := h1307.go l
        replace h1365 := h1365.go l
        replace h1528 := h1528.go l
        replace K0 := K0.thru l
        obtain ⟨z1837, c1838, hR⟩ := bnd_some hR
        refine o_append (sz := 4) (R := RLine) (z := (.agg #[.int .i64 0, .int .i64 0, .int .i64 0, .int .i64 0])) (bytes := 32) Tryz.underlying75 (by kernel_rfl) rfl (by decide) (by decide) (by decide) F rfl rfl rfl h1528 h1826.src (Nat.zero_le _) (Dj.nil _) c1838 (fun a w v1839 rb1840 h1841 l keep F => ?_)
        replace h1841 := row_nil2 h1841
        have fr1843 := Frs.keep fr1531 hB.size keep
        have d1844 := keep _ (inm1 K0) (Dj.symm (Dj.l d1532))
        have d1845 := keep _ h1307.rd.m d1533
        have d1846 := keep _ h1365.rd.m d1535
        replace hB := hB.oo l fr1531
        replace h1307 := h1307.goO l d1533
        replace h1365 := h1365.goO l d1535
        replace K0 := K0.only l (Dj.symm (Dj.l d1532)).not
        refine o_nilCheck F rfl rfl (fun a F => ?_)
        refine o_bfield fa122_4 F rfl rfl rfl (fun a F => ?_)
        refine o_bstore Tryz.sizeOf75 F rfl rfl rfl K0 (h1841.rd).r.one (by simp) rfl (fun w K0 l => ?_)
        replace hB := hB.oo l frK0
        replace h1307 := h1307.goO l d1318
        replace h1365 := h1365.goO l d1376
        replace h1841 := h1841.goO l (Dj.app' (Dj.symm d1844) (Dj.nil' _))
        refine x_end ?_
        refine x_tn ?_
        refine x_seq ?_
        refine x_reg ?_
        refine o_move F rfl rfl (fun a F => ?_)
        obtain ⟨z1847, c1848, hR⟩ := bnd_some hR
        refine o_gives F rfl Tryz.call217 rfl (spec_l05Copies_c z1847 c1848 _ h1365.rd) (fun a vv w l ⟨v1849, rb1850, ib1851, hv1854, h1852, ow1853⟩ F => ?_)
        subst vv
        have o1855 := h1852.own ow1853
        have d1856 := (Dj.new (inm1 K0) o1855 (Nat.le_refl _)).symm
        have d1857 := (Dj.new h1307.memR o1855 (Nat.le_refl _)).symm
        have d1858 := (Dj.new h1365.memR o1855 (Nat.le_refl _)).symm
        have d1859 := (Dj.new h1365.mem o1855 (Nat.le_refl _)).symm
        have d1860 := (Dj.new h1841.memR o1855 (Nat.le_refl _)).symm
        have d1862 := Dj.new h1307.rd.m h1852.ownR (Nat.le_refl _)
        have d1863 := Dj.new h1365.rd.m h1852.ownR (Nat.le_refl _)
        have d1864 := Dj.new h1841.rd.m h1852.ownR (Nat.le_refl _)
        have d1865 := Dj.new (inm1 K0) h1852.ownR (Nat.le_refl _)
        have fr1866 : Frs [] w0.heap.size _ := Frs.new hB.size h1852.lo
        replace h1852 := h1852.base (Nat.zero_le _)
        replace ow1853 := ow1853.mono hB.size
        replace hB := hB.thru l
        replace h1307 := h1307.go l
        replace h1365 := h1365.go l
        replace h1841 := h1841.go l
        replace K0 := K0.thru l
        refine o_assign F rfl rfl (fun a F => ?_)
        refine x_end ?_
        refine x_tn ?_
        refine x_seq ?_
        refine x_reg ?_
        refine o_move F rfl rfl (fun a F => ?_)
        refine o_move F rfl rfl (fun a F => ?_)
        refine o_move F rfl rfl (fun a F => ?_)
        refine o_lit1 (R := RInt) (y := z1816) Tryz.underlying46 Tryz.sizeOf2 Tryz.zeroValue2 rfl (by decide) (by decide) F rfl rfl (El.int i1822) (fun a w v1867 rb1868 h1869 l F => ?_)
        have d1871 := Dj.new h1307.rd.m h1869.ownR (Nat.le_refl _)
        have d1872 := Dj.new h1365.rd.m h1869.ownR (Nat.le_refl _)
        have d1873 := Dj.new h1841.rd.m h1869.ownR (Nat.le_refl _)
        have d1874 := Dj.new h1852.rd.m h1869.ownR (Nat.le_refl _)
        have d1875 := Dj.new (inm1 K0) h1869.ownR (Nat.le_refl _)
        have d1876 := Dj.app' (Dj.new h1307.memR h1869.ownR (Nat.le_refl _)).symm (Dj.nil' _)
        have d1877 := Dj.app' (Dj.new h1365.memR h1869.ownR (Nat.le_refl _)).symm (Dj.nil' _)
        have d1878 := Dj.app' (Dj.new h1365.mem h1869.ownR (Nat.le_refl _)).symm (Dj.nil' _)
        have d1879 := Dj.app' (Dj.new h1841.memR h1869.ownR (Nat.le_refl _)).symm (Dj.nil' _)
        have d1880 := Dj.app' (Dj.new h1852.memR h1869.ownR (Nat.le_refl _)).symm (Dj.nil' _)
        have d1881 := Dj.app' (Dj.new h1852.mem h1869.ownR (Nat.le_refl _)).symm (Dj.nil' _)
        have fr1882 : Frs [] w0.heap.size _ := Frs.new hB.size h1869.lo
        replace h1869 := h1869.base (Nat.zero_le _)
        replace hB := hB.thru l
        replace h1307 := h1307.go l
        replace h1365 := h1365.go l
        replace h1841 := h1841.go l
        replace h1852 := h1852.go l
        replace ow1853 := ow1853.go l
        replace K0 := K0.thru l
        obtain ⟨z1883, c1884, hR⟩ := bnd_some hR
        refine o_rindex Tryz.underlying72 Tryz.sizeOf46 F rfl rfl rfl h1852 c1884 (fun a p1885 b1886 h1887 s1888 rp1889 F => ?_)
        refine o_rstore Tryz.sizeOf46 F rfl rfl rfl h1852 rp1889 (ix_lt c1884) (El.sl h1869.rd) (h1869.rd).r.one (Dj.symm d1880) (fun w ib1891 h1890 l s1892 keep => ?_)
        have d1894 := keep _ h1307.rd.m d1862
        have d1895 := keep _ h1365.rd.m d1863
        have d1896 := keep _ h1841.rd.m d1864
        have d1897 := keep _ (inm1 K0) d1865
        replace hB := hB.oo l (Frs.up fr1866)
        replace h1307 := h1307.goO l d1862
        replace h1365 := h1365.goO l d1863
        replace h1841 := h1841.goO l d1864
        replace K0 := K0.only l d1865.not
        have d1898 := Dj.stor d1857 d1876 s1892
        have d1899 := Dj.stor d1858 d1877 s1892
        have d1900 := Dj.stor d1860 d1879 s1892
        have d1901 := Dj.stor d1856 (Dj.app' (Dj.symm d1875) (Dj.nil' _)) s1892
        refine x_end ?_
        refine x_tn ?_
        refine x_seq ?_
        refine x_seq ?_
        refine x_reg ?_
        refine o_move F rfl rfl (fun a F => ?_)
        refine o_move F rfl rfl (fun a F => ?_)
        obtain ⟨z1902, c1903, hR⟩ := bnd_some hR
        have d1927 : Dj (rb1 ++ ib1366) (rb1840 ++ (rb1309 ++ ([b0] ++ rb1850))) := (Dj.app d1846 (Dj.app d1375 (Dj.app d1376 d1895)))
        refine o_givesX F rfl Tryz.call153 rfl (ih z1902 c1903 _ (A0_0.goO hB dA0_0) (A0_1.goO hB dA0_1) hx0_2 (ck64 c1358) (h1841.base (Nat.zero_le _)) (h1307.base (Nat.zero_le _)) K0 (h1890.base (Nat.zero_le _)) (Dj.app (Dj.frs A0_0.m dA0_0 fr1843) (Dj.app (Dj.frs A0_0.m dA0_0 fr1310) (Dj.app (Dj.frs A0_0.m dA0_0 frK0) (Dj.frs A0_0.m dA0_0 (Frs.up fr1866))))) (Dj.app (Dj.frs A0_1.m dA0_1 fr1843) (Dj.app (Dj.frs A0_1.m dA0_1 fr1310) (Dj.app (Dj.frs A0_1.m dA0_1 frK0) (Dj.frs A0_1.m dA0_1 (Frs.up fr1866))))) (Dj.app' (Dj.symm (Dj.l d1845)) (Dj.nil' _)) (Dj.app' (Dj.symm d1844) (Dj.nil' _)) d1896 d1845 d1318 d1894 d1900 d1898 d1901) (fun a vv w l ⟨v1905, rb1906, v1909, rb1910, ib1915, hv1926, i1904, h1907, fr1908, h1911, fr1912, K1913, h1914, fi1916, d1917, d1918, d1919, d1920, d1921, d1922, d1923, d1924, d1925⟩ F => ?_)
        subst vv
        have d1928 := Dj.frs h1365.rd.m d1927 fr1908
        have fr1929 := Frs.trans fr1908 (Frs.app fr1843 (Frs.app fr1310 (Frs.app frK0 (Frs.up fr1866)))) hB.size
        have d1930 := Dj.frs h1365.rd.m d1927 fr1912
        have fr1931 := Frs.trans fr1912 (Frs.app fr1843 (Frs.app fr1310 (Frs.app frK0 (Frs.up fr1866)))) hB.size
        have d1932 := Dj.prov d1899 h1365.memR fi1916
        replace hB := hB.oo l (Frs.app fr1843 (Frs.app fr1310 (Frs.app frK0 (Frs.up fr1866))))
        replace h1365 := h1365.goO l d1927
        replace K0 := K1913
        refine x_end ?_
        refine x_tn ?_
        refine x_if F rfl (fun hb1936 => ?_) (fun hb1936 => ?_)
        ·
         replace hR := ifT hb1936 hR
         refine x_seq ?_
         refine x_reg ?_
         refine o_assign F rfl rfl (fun a F => ?_)
         refine x_end ?_
         refine x_tn ?_
         refine x_ret ?_
         refine x_tr ?_
         refine x_br ?_
         refine x_tr ?_
         replace hR := l_ret hR hn1289
         refine x_br ?_
         refine x_tr ?_
         replace hR := j_ret hR hk1287
         refine x_res1 F rfl (rv_t F rfl) ?_
         obtain rfl := Option.some.inj hR
         exact ⟨_, rfl, hB, v1905, rb1906, v1909, rb1910, ib1366, rfl, i1904, h1907, fr1929, h1911, fr1931, K0, h1365, fi1377, d1917, d1918, (Dj.app' (Dj.symm (Dj.l d1928)) (Dj.nil' _)), d1920, d1921, (Dj.app' (Dj.symm (Dj.l d1930)) (Dj.nil' _)), d1928, d1930, d1376⟩
        ·
         replace hR := ifF hb1936 hR
         refine x_skip ?_
         refine x_tn ?_
         refine x_reg ?_
         refine o_move F rfl rfl (fun a F => ?_)
         refine o_move F rfl rfl (fun a F => ?_)
         refine o_move F rfl rfl (fun a F => ?_)
         refine o_move F rfl rfl (fun a F => ?_)
         refine o_rindex Tryz.underlying72 Tryz.sizeOf46 F rfl rfl rfl h1365 c1806 (fun a p1937 b1938 h1939 s1940 rp1941 F => ?_)
         refine o_loadS Tryz.isAgg46 F rfl rfl h1939 (fun a v1942 b1943 h1944 s1945 F => ?_)
         refine o_move F rfl rfl (fun a F => ?_)
         obtain ⟨z1946, c1947, hR⟩ := bnd_some hR
         refine o_gives F rfl Tryz.call218 rfl (spec_l05Without_c z1946 c1947 _ h1944 i1822) (fun a vv w l ⟨v1948, rb1949, hv1952, h1951⟩ F => ?_)
         subst vv
         have d1954 := Dj.new h1365.rd.m h1951.ownR (Nat.le_refl _)
         have d1955 := Dj.new h1907.rd.m h1951.ownR (Nat.le_refl _)
         have d1956 := Dj.new h1911.rd.m h1951.ownR (Nat.le_refl _)
         have d1957 := Dj.new (inm1 K0) h1951.ownR (Nat.le_refl _)
         have d1958 := Dj.app' (Dj.new h1365.memR h1951.ownR (Nat.le_refl _)).symm (Dj.nil' _)
         have d1959 := Dj.app' (Dj.new h1365.mem h1951.ownR (Nat.le_refl _)).symm (Dj.nil' _)
         have d1960 := Dj.app' (Dj.new h1907.memR h1951.ownR (Nat.le_refl _)).symm (Dj.nil' _)
         have d1961 := Dj.app' (Dj.new h1911.memR h1951.ownR (Nat.le_refl _)).symm (Dj.nil' _)
         have d1962 := Dj.app' (Dj.new h1914.memR h1951.ownR (Nat.le_refl _)).symm (Dj.nil' _)
         have d1963 := Dj.app' (Dj.new h1914.mem h1951.ownR (Nat.le_refl _)).symm (Dj.nil' _)
         have fr1964 : Frs [] w0.heap.size _ := Frs.new hB.size h1951.lo
         replace h1951 := h1951.base (Nat.zero_le _)
         replace hB := hB.thru l
         replace h1365 := h1365.go l
         replace h1907 := h1907.go l
         replace h1911 := h1911.go l
         replace K0 := K0.thru l
         refine o_rindex Tryz.underlying72 Tryz.sizeOf46 F rfl rfl rfl h1365 c1806 (fun a p1965 b1966 h1967 s1968 rp1969 F => ?_)
         refine o_rstore Tryz.sizeOf46 F rfl rfl rfl h1365 rp1969 (ix_lt c1806) (El.sl h1951.rd) (h1951.rd).r.one (Dj.symm d1958) (fun w ib1971 h1970 l s1972 keep => ?_)
         have fi1974 : Frs ib1 w0.heap.size _ := Frs.stor fi1377 (Frs.app (Frs.up fr1964) (Frs.nil _ _)) s1972
         have d1975 := keep _ (inm1 K0) (Dj.symm (Dj.l d1312))
         replace hB := hB.oo l frA1
         replace h1907 := h1907.goO l (Dj.app' (Dj.symm (Dj.l d1928)) (Dj.nil' _))
         replace h1911 := h1911.goO l (Dj.app' (Dj.symm (Dj.l d1930)) (Dj.nil' _))
         replace K0 := K0.only l (Dj.symm (Dj.l d1312)).not
         have d1976 := Dj.stor d1928 d1960 s1972
         have d1977 := Dj.stor d1930 d1961 s1972
         have d1978 := Dj.stor d1376 (Dj.app' (Dj.symm d1957) (Dj.nil' _)) s1972
         refine x_end ?_
         refine x_bn ?_
         refine x_tn ?_
         replace hR := l_go hR hn1289
         exact ⟨rest1351, (by omega), (z1359.2.set (z1632).toNat z1946), ib1971, z1902.2.1, z1902.2.2.1, v1905, rb1906, z1902.2.2.2.1, v1909, rb1910, z1902.2.2.2.2.1, hR, F.sub (sc rfl (sc rfl sn)), hB, h1970, fi1974, i1904, h1907, fr1929, h1911, fr1931, K0, d1978, (Dj.app' (Dj.symm (Dj.l d1976)) (Dj.nil' _)), (Dj.app' (Dj.symm (Dj.l d1977)) (Dj.nil' _)), d1918, d1976, d1920, d1921, d1977, d1917⟩
  ·
   intro a w ⟨s1321, ib1324, s1326, s1328, v1331, rb1332, s1334, v1337, rb1338, s1340, ho1288, F, hB, h1323, fi1325, i1327, h1330, fr1333, h1336, fr1339, K0, d1341, d1342, d1343, d1344, d1345, d1346, d1347, d1348, d1349⟩
   subst ho1288
   have hR := then_nx hk1287
   refine x_ends ?_
   refine x_res1 F rfl (rv_t F rfl) ?_
   obtain rfl := Option.some.inj hR
   exact ⟨_, rfl, hB, v1331, rb1332, v1337, rb1338, ib1324, rfl, i1327, h1330, fr1333, h1336, fr1339, K0, h1323, fi1325, d1349, d1344, d1342, d1346, d1347, d1343, d1345, d1348, d1341⟩
theorem spec_l08Search_level_c {N : Nat} {x0_0 : Template} {x0_1 : Instance} {x0_2 : Int} {x0_3 : Int} {x0_4 : List Line} {x0_5 : List Int} {x0_6 : Bool} {x1 : List (List Int)} (r : Bool × Int × (List Line) × (List Int) × Bool × (List (List Int))) (hR : spec_l08Search_level N x0_0 x0_1 x0_2 x0_3 x0_4 x0_5 x0_6 x1 = some r) {b0 : Nat} {v0_0 : Value} {b0_0 : List Nat} {v0_1 : Value} {b0_1 : List Nat} {v0_4 : Value} {rb0_4 : List Nat} {v0_5 : Value} {rb0_5 : List Nat} {v1 : Value} {rb1 ib1 : List Nat} (w0 : World) (A0_0 : Rd (Pt 2 RTemplate) w0 v0_0 x0_0 b0_0) (A0_1 : Rd (Pt 2 RInstance) w0 v0_1 x0_1 b0_1) (hx0_2 : I64 x0_2) (hx0_3 : I64 x0_3) (A0_4 : Row 4 RLine 161 0 w0 v0_4 x0_4 rb0_4 []) (A0_5 : Row 1 RInt 2 0 w0 v0_5 x0_5 rb0_5 []) (K0 : Blk w0 b0 #[v0_0, v0_1, .int .i64 x0_2, .int .i64 x0_3, v0_4, v0_5, .bool x0_6] 122) (A1 : Row 1 (RSl 1 RInt) 46 0 w0 v1 x1 rb1 ib1) (dA0_0 : Dj b0_0 (rb0_4 ++ (rb0_5 ++ ([b0] ++ rb1)))) (dA0_1 : Dj b0_1 (rb0_4 ++ (rb0_5 ++ ([b0] ++ rb1)))) (dRC_0_4_C_0_5 : Dj (rb0_4 ++ []) rb0_5) (dRC_0_4_B_0 : Dj (rb0_4 ++ []) [b0]) (dRC_0_4_P_1 : Dj (rb0_4 ++ []) rb1) (dRC_0_5_C_0_4 : Dj (rb0_5 ++ []) rb0_4) (dRC_0_5_B_0 : Dj (rb0_5 ++ []) [b0]) (dRC_0_5_P_1 : Dj (rb0_5 ++ []) rb1) (dRP_1_C_0_4 : Dj (rb1 ++ ib1) rb0_4) (dRP_1_C_0_5 : Dj (rb1 ++ ib1) rb0_5) (dRP_1_B_0 : Dj (rb1 ++ ib1) [b0]) : Calls Tryz.prog 153 #[.pointer (some ⟨b0, 0, none⟩), v1] w0 (GivesX (rb0_4 ++ (rb0_5 ++ ([b0] ++ rb1))) (fun v w' => ∃ (v1' : Value) (rb2' : List Nat) (v3' : Value) (rb4' : List Nat) (ib5' : List Nat), v = .bool r.1 ∧ I64 r.2.1 ∧ Row 4 RLine 161 0 w' v1' r.2.2.1 rb2' [] ∧ Frs (rb0_4 ++ (rb0_5 ++ ([b0] ++ rb1))) w0.heap.size rb2' ∧ Row 1 RInt 2 0 w' v3' r.2.2.2.1 rb4' [] ∧ Frs (rb0_4 ++ (rb0_5 ++ ([b0] ++ rb1))) w0.heap.size rb4' ∧ Blk w' b0 #[v0_0, v0_1, .int .i64 x0_2, .int .i64 r.2.1, v1', v3', .bool r.2.2.2.2.1] 122 ∧ Row 1 (RSl 1 RInt) 46 0 w' v1 r.2.2.2.2.2 rb1 ib5' ∧ Frs ib1 w0.heap.size ib5' ∧ Dj (rb2' ++ []) rb4' ∧ Dj (rb2' ++ []) [b0] ∧ Dj (rb2' ++ []) rb1 ∧ Dj (rb4' ++ []) rb2' ∧ Dj (rb4' ++ []) [b0] ∧ Dj (rb4' ++ []) rb1 ∧ Dj (rb1 ++ ib5') rb2' ∧ Dj (rb1 ++ ib5') rb4' ∧ Dj (rb1 ++ ib5') [b0]) w0) :=
  spec_l08Search_level_cA N r hR w0 A0_0 A0_1 hx0_2 hx0_3 A0_4 A0_5 K0 A1 dA0_0 dA0_1 dRC_0_4_C_0_5 dRC_0_4_B_0 dRC_0_4_P_1 dRC_0_5_C_0_4 dRC_0_5_B_0 dRC_0_5_P_1 dRP_1_C_0_4 dRP_1_C_0_5 dRP_1_B_0

def spec_l08Run (N : Nat) (x0 : Template) (x1 : Instance) (x2 : List (List Int)) (x3 : Int) : Option ((Int × Int × (List Line) × (List Int) × Bool) × Int × (List (List Int))) :=
 bnd (spec_l08Search_level N x0 x1 x3 0 ([]) ([]) false x2) fun z20 =>
 if z20.2.2.2.2.1 then
  some ((x3, z20.2.1, z20.2.2.1, z20.2.2.2.1, z20.2.2.2.2.1), 7, z20.2.2.2.2.2)
 else
  if z20.1 then
   some ((x3, z20.2.1, z20.2.2.1, z20.2.2.2.1, z20.2.2.2.2.1), 0, z20.2.2.2.2.2)
  else
   some ((x3, z20.2.1, z20.2.2.1, z20.2.2.2.1, z20.2.2.2.2.1), 6, z20.2.2.2.2.2)
set_option maxHeartbeats 1000000 in
theorem spec_l08Run_c {N : Nat} {x0 : Template} {x1 : Instance} {x2 : List (List Int)} {x3 : Int} (r : (Int × Int × (List Line) × (List Int) × Bool) × Int × (List (List Int))) (hR : spec_l08Run N x0 x1 x2 x3 = some r) {v0 : Value} {b0 : List Nat} {v1 : Value} {b1 : List Nat} {v2 : Value} {rb2 ib2 : List Nat} (w0 : World) (A0 : Rd (Pt 2 RTemplate) w0 v0 x0 b0) (A1 : Rd (Pt 2 RInstance) w0 v1 x1 b1) (A2 : Row 1 (RSl 1 RInt) 46 0 w0 v2 x2 rb2 ib2) (hx3 : I64 x3) (dA0 : Dj b0 rb2) (dA1 : Dj b1 rb2) : Calls Tryz.prog 83 #[v0, v1, v2, .int .i64 x3] w0 (GivesX rb2 (fun v w' => ∃ (b1' : Nat) (v2' : Value) (v3' : Value) (v4' : Value) (rb5' : List Nat) (v7' : Value) (rb8' : List Nat) (ib10' : List Nat), v = .tuple #[.pointer (some ⟨b1', 0, none⟩), .int .i64 r.2.1] ∧ Blk w' b1' #[v2', v3', .int .i64 r.1.1, .int .i64 r.1.2.1, v4', v7', .bool r.1.2.2.2.2] 122 ∧ w0.heap.size ≤ b1' ∧ I64 r.1.1 ∧ I64 r.1.2.1 ∧ Row 4 RLine 161 0 w' v4' r.1.2.2.1 rb5' [] ∧ Frs rb2 w0.heap.size rb5' ∧ Row 1 RInt 2 0 w' v7' r.1.2.2.2.1 rb8' [] ∧ Frs rb2 w0.heap.size rb8' ∧ Dj [b1'] rb5' ∧ Dj [b1'] rb8' ∧ I64 r.2.1 ∧ Dj (rb5' ++ []) (rb8' ++ []) ∧ Dj (rb5' ++ []) rb2 ∧ Dj (rb2 ++ ib10') rb5' ∧ Dj (rb8' ++ []) rb2 ∧ Dj (rb2 ++ ib10') rb8' ∧ Row 1 (RSl 1 RInt) 46 0 w' v2 r.2.2 rb2 ib10' ∧ Frs ib2 w0.heap.size ib10') w0) := by
 unfold spec_l08Run at hR
 refine x_enter (L := [(0, v0), (1, v1), (2, v2), (3, .int .i64 x3)]) Tryz.func83 rfl rfl rfl (sc rfl (sc rfl (sc rfl (sc rfl sn)))) (fun a F => ?_)
 have hB := Only.refl rb2 w0
 have frA2 : Frs rb2 w0.heap.size rb2 := Frs.mem (fun c hc => by simp [hc])
 have fiA2 : Frs ib2 w0.heap.size ib2 := Frs.mem (fun c hc => hc)
 refine x_seq ?_
 refine x_reg ?_
 refine o_assign F rfl rfl (fun a F => ?_)
 refine o_assign F rfl rfl (fun a F => ?_)
 refine x_end ?_
 refine x_tn ?_
 refine x_seq ?_
 refine x_reg ?_
 refine o_move F rfl rfl (fun a F => ?_)
 refine o_move F rfl rfl (fun a F => ?_)
 refine o_move F rfl rfl (fun a F => ?_)
 refine o_build Tryz.underlying122 Tryz.zeroValue122 (fun w => by simp [Tryz.sizeOf106, Tryz.sizeOf116, Tryz.sizeOf2, Tryz.sizeOf4, Tryz.sizeOf46, Tryz.sizeOf75]; rfl) F rfl rfl rfl rfl rfl (oc ((A0.goO hB dA0)).pone (oc ((A1.goO hB dA1)).pone (oc rfl on))) rfl rfl (fun a F => ?_)
 refine o_box F rfl rfl rfl (fun a w b12 K13 l BK13 F => ?_)
 have d14 := dj1 A2.memR BK13
 have d15 := (dj1 A2.rd.m BK13).symm
 have CK13 := Nat.le_trans hB.size BK13
 have frK13 : Frs rb2 w0.heap.size _ := Frs.box hB.size BK13
 replace hB := hB.thru l
 replace A2 := A2.go l
 refine o_assign F rfl rfl (fun a F => ?_)
 refine x_end ?_
 refine x_tn ?_
 refine x_seq ?_
 refine x_reg ?_
 refine o_move F rfl rfl (fun a F => ?_)
 refine o_move F rfl rfl (fun a F => ?_)
 have h16 := fun w => Row.nil 4 RLine 161 0 w
 have h18 := fun w => Row.nil 1 RInt 2 0 w
 obtain ⟨z20, c21, hR⟩ := bnd_some hR
 refine o_givesX F rfl Tryz.call153 rfl (spec_l08Search_level_c z20 c21 _ (A0.goO hB dA0) (A1.goO hB dA1) hx3 (show I64 0 by decide) ((h16 _).base (Nat.zero_le _)) ((h18 _).base (Nat.zero_le _)) K13 (A2.base (Nat.zero_le _)) (Dj.app (Dj.nil _) (Dj.app (Dj.nil _) (Dj.app (Dj.frs A0.m dA0 frK13) (Dj.frs A0.m dA0 frA2)))) (Dj.app (Dj.nil _) (Dj.app (Dj.nil _) (Dj.app (Dj.frs A1.m dA1 frK13) (Dj.frs A1.m dA1 frA2)))) (Dj.nil' _) (Dj.nil' _) (Dj.nil' _) (Dj.nil' _) (Dj.nil' _) (Dj.nil' _) (Dj.nil _) (Dj.nil _) d15) (fun a vv w l ⟨v23, rb24, v27, rb28, ib33, hv44, i22, h25, fr26, h29, fr30, K31, h32, fi34, d35, d36, d37, d38, d39, d40, d41, d42, d43⟩ F => ?_)
 subst vv
 have fr45 := Frs.trans fr26 (Frs.app (Frs.nil _ _) (Frs.app (Frs.nil _ _) (Frs.app frK13 frA2))) hB.size
 have fr46 := Frs.trans fr30 (Frs.app (Frs.nil _ _) (Frs.app (Frs.nil _ _) (Frs.app frK13 frA2))) hB.size
 have fi47 := Frs.trans fi34 fiA2 hB.size
 replace hB := hB.oo l (Frs.app (Frs.nil _ _) (Frs.app (Frs.nil _ _) (Frs.app frK13 frA2)))
 replace K13 := K31
 refine o_assign F rfl rfl (fun a F => ?_)
 refine x_end ?_
 refine x_tn ?_
 refine x_seq ?_
 refine x_blk ?_
 refine x_seq ?_
 refine x_reg ?_
 refine o_move F rfl rfl (fun a F => ?_)
 refine o_nilCheck F rfl rfl (fun a F => ?_)
 refine o_bfield fa122_6 F rfl rfl rfl (fun a F => ?_)
 refine o_bload Tryz.isAgg4 F rfl rfl K13 rfl (fun a F => ?_)
 refine o_assign F rfl rfl (fun a F => ?_)
 refine x_end ?_
 refine x_tn ?_
 refine x_if F rfl (fun hb51 => ?_) (fun hb51 => ?_)
 ·
  replace hR := ifT hb51 hR
  refine x_seq ?_
  refine x_reg ?_
  refine o_move F rfl rfl (fun a F => ?_)
  refine o_assign F rfl rfl (fun a F => ?_)
  refine o_assign F rfl rfl (fun a F => ?_)
  refine x_end ?_
  refine x_tn ?_
  refine x_ret ?_
  refine x_br ?_
  refine x_tr ?_
  refine x_res2 F rfl (rv_t F rfl) (rv_t F rfl) ?_
  obtain rfl := Option.some.inj hR
  exact ⟨_, rfl, hB, b12, v0, v1, v23, rb24, v27, rb28, ib33, rfl, K13, CK13, hx3, i22, h25, fr45, h29, fr46, (Dj.symm (Dj.l d36)), (Dj.symm (Dj.l d39)), (show I64 (7) by decide), (Dj.app d35 (Dj.nil _)), d37, d41, d40, d42, h32, fi47⟩
 ·
  replace hR := ifF hb51 hR
  refine x_seq ?_
  refine x_reg ?_
  refine o_move F rfl rfl (fun a F => ?_)
  refine o_assign F rfl rfl (fun a F => ?_)
  refine x_end ?_
  refine x_tn ?_
  refine x_if F rfl (fun hb52 => ?_) (fun hb52 => ?_)
  ·
   replace hR := ifT hb52 hR
   refine x_seq ?_
   refine x_reg ?_
   refine o_move F rfl rfl (fun a F => ?_)
   refine o_assign F rfl rfl (fun a F => ?_)
   refine o_assign F rfl rfl (fun a F => ?_)
   refine x_end ?_
   refine x_tn ?_
   refine x_ret ?_
   refine x_br ?_
   refine x_tr ?_
   refine x_res2 F rfl (rv_t F rfl) (rv_t F rfl) ?_
   obtain rfl := Option.some.inj hR
   exact ⟨_, rfl, hB, b12, v0, v1, v23, rb24, v27, rb28, ib33, rfl, K13, CK13, hx3, i22, h25, fr45, h29, fr46, (Dj.symm (Dj.l d36)), (Dj.symm (Dj.l d39)), (show I64 (0) by decide), (Dj.app d35 (Dj.nil _)), d37, d41, d40, d42, h32, fi47⟩
  ·
   replace hR := ifF hb52 hR
   refine x_skip ?_
   refine x_bn ?_
   refine x_tn ?_
   refine x_seq ?_
   refine x_reg ?_
   refine o_move F rfl rfl (fun a F => ?_)
   refine o_assign F rfl rfl (fun a F => ?_)
   refine o_assign F rfl rfl (fun a F => ?_)
   refine x_end ?_
   refine x_tn ?_
   refine x_ret ?_
   refine x_res2 F rfl (rv_t F rfl) (rv_t F rfl) ?_
   obtain rfl := Option.some.inj hR
   exact ⟨_, rfl, hB, b12, v0, v1, v23, rb24, v27, rb28, ib33, rfl, K13, CK13, hx3, i22, h25, fr45, h29, fr46, (Dj.symm (Dj.l d36)), (Dj.symm (Dj.l d39)), (show I64 (6) by decide), (Dj.app d35 (Dj.nil _)), d37, d41, d40, d42, h32, fi47⟩
end Go.Proofs.YtfepllddlmhjiaaGreat
