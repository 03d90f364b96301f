/-
  Functions of the program as plain functions, and that they compute them. Printed by fxio.py.
-/
import Derived.Test.YtfepllddlmhjiaaX2
namespace Go.Proofs.Ytfepllddlmhjiaa
set_option linter.unusedVariables false
set_option linter.unusedSimpArgs false
set_option maxRecDepth 100000
open Go.RowKit
def spec_l01Empty (N : Nat) (x0 : Int) (x1 : Int) : Option (Int × Int × (List Bool)) :=
 bnd (spec_l01Power N x0 x1) fun z11 =>
 bnd (mkz (false : Bool) z11) fun z13 =>
 some ((x0, x1, z13))
set_option maxHeartbeats 1000000 in
theorem spec_l01Empty_c {N : Nat} {x0 : Int} {x1 : Int} (r : (Int × Int × (List Bool))) (hR : spec_l01Empty N x0 x1 = some r)  (w0 : World) (hx0 : I64 x0) (hx1 : I64 x1) : Calls Try.prog 56 #[.int .i64 x0, .int .i64 x1] w0 (Gives (fun v w' => ∃ (b1' : Nat) (v2' : Value) (rb3' : List Nat), v = .pointer (some ⟨b1', 0, none⟩) ∧ Blk w' b1' #[.int .i64 r.1, .int .i64 r.2.1, v2'] 74 ∧ w0.heap.size ≤ b1' ∧ I64 r.1 ∧ I64 r.2.1 ∧ Row 1 RBool 4 w0.heap.size w' v2' r.2.2 rb3' [] ∧ Dj [b1'] rb3') w0) := by
 unfold spec_l01Empty at hR
 refine x_enter (L := [(0, .int .i64 x0), (1, .int .i64 x1)]) Try.func56 rfl rfl rfl (sc rfl (sc rfl sn)) (fun a F => ?_)
 have hB := Below.refl w0.heap.size w0
 refine x_seq ?_
 refine x_reg ?_
 refine o_assign F rfl rfl (fun a F => ?_)
 refine x_end ?_
 refine x_tn ?_
 refine x_seq ?_
 refine x_reg ?_
 refine o_move F rfl rfl (fun a F => ?_)
 refine o_move F rfl rfl (fun a F => ?_)
 refine o_move F rfl rfl (fun a F => ?_)
 refine o_move F rfl rfl (fun a F => ?_)
 obtain ⟨z11, c12, hR⟩ := bnd_some hR
 refine o_saysI F rfl Try.call34 rfl (spec_l01Power_c z11 c12 _ hx0 hx1) (fun a w l iz11 F => ?_)
 replace hB := Below.through l hB
 obtain ⟨z13, c14, hR⟩ := bnd_some hR
 refine o_make (sz := 1) (R := RBool) (z := (.bool false)) (bytes := 1) Try.underlying72 (by kernel_rfl) rfl (by decide) (by decide) (fun w => ⟨rfl, rfl⟩) F rfl rfl rfl c14 (fun a w v15 rb16 h17 l F => ?_)
 replace h17 := h17.base hB.size
 replace hB := Below.through l hB
 refine o_build Try.underlying74 Try.zeroValue74 (fun w => by simp [Try.sizeOf2, Try.sizeOf72]; rfl) F rfl rfl rfl rfl rfl (oc rfl (oc rfl (oc (h17.rd).r.one on))) rfl rfl (fun a F => ?_)
 refine o_box F rfl rfl rfl (fun a w b20 K21 l BK21 F => ?_)
 have d22 := dj1 h17.memR BK21
 have d23 := (dj1 h17.rd.m BK21).symm
 have CK21 := Nat.le_trans hB.size BK21
 replace hB := Below.through l hB
 replace h17 := h17.go l
 refine o_assign F rfl rfl (fun a F => ?_)
 refine x_end ?_
 refine x_tn ?_
 refine x_ret ?_
 refine x_res1 F rfl (rv_t F rfl) ?_
 obtain rfl := Option.some.inj hR
 exact ⟨_, rfl, hB, b20, v15, rb16, rfl, K21, CK21, hx0, hx1, h17, d22⟩

def spec_l01SetOf (N : Nat) (x0 : Int) (x1 : Rel) : Option (Int × Int × (List Bool)) :=
 bnd (spec_l01Empty N x0 x1.arity) fun z16 =>
 thn (σ := (List Bool)) (
  forL (σ := (List Bool)) (ρ := (Int × Int × (List Bool))) (fun (k141 : Nat) (x143 : (List Int)) (s129 : (List Bool)) =>
   bnd (spec_l01Code x0 x143) fun z172 =>
   bnd (ix s129 z172) fun z174 =>
   some (.go (s129.set (z172).toNat true))) x1.tuples 0 z16.2.2) fun s135 =>
 some ((z16.1, z16.2.1, s135))
set_option maxHeartbeats 1000000 in
theorem spec_l01SetOf_c {N : Nat} {x0 : Int} {x1 : Rel} (r : (Int × Int × (List Bool))) (hR : spec_l01SetOf N x0 x1 = some r) {v1 : Value} {b1 : List Nat} (w0 : World) (hx0 : I64 x0) (A1 : Rd (Pt 2 RRel) w0 v1 x1 b1) : Calls Try.prog 33 #[.int .i64 x0, v1] w0 (Gives (fun v w' => ∃ (b1' : Nat) (v2' : Value) (rb3' : List Nat), v = .pointer (some ⟨b1', 0, none⟩) ∧ Blk w' b1' #[.int .i64 r.1, .int .i64 r.2.1, v2'] 74 ∧ w0.heap.size ≤ b1' ∧ I64 r.1 ∧ I64 r.2.1 ∧ Row 1 RBool 4 w0.heap.size w' v2' r.2.2 rb3' [] ∧ Dj [b1'] rb3') w0) := by
 unfold spec_l01SetOf at hR
 refine x_enter (L := [(0, .int .i64 x0), (1, v1)]) Try.func33 rfl rfl rfl (sc rfl (sc rfl sn)) (fun a F => ?_)
 have hB := Below.refl w0.heap.size w0
 refine x_seq ?_
 refine x_reg ?_
 refine o_assign F rfl rfl (fun a F => ?_)
 refine x_end ?_
 refine x_tn ?_
 refine x_seq ?_
 refine x_reg ?_
 refine o_move F rfl rfl (fun a F => ?_)
 refine o_move F rfl rfl (fun a F => ?_)
 refine o_nilCheckP F rfl rfl (A1.go hB) (fun a F => ?_)
 refine o_field (s' := 1) fa53_0 F rfl rfl (A1.go hB) RRel.f0 (fun a p11 b12 h13 s14 F => ?_)
 have i15 := (h13).i64
 refine o_loadI Try.isAgg2 F rfl rfl h13 (fun a F => ?_)
 obtain ⟨z16, c17, hR⟩ := bnd_some hR
 refine o_gives F rfl Try.call56 rfl (spec_l01Empty_c z16 c17 _ hx0 i15) (fun a vv w l ⟨b18, v22, rb23, hv27, K19, BK19, i20, i21, h25, d26⟩ F => ?_)
 subst vv
 have d28 := (dj1 h13.m BK19).symm
 have CK19 := Nat.le_trans hB.size BK19
 replace h25 := h25.base hB.size
 replace hB := Below.through l hB
 refine o_assign F rfl rfl (fun a F => ?_)
 refine x_end ?_
 refine x_tn ?_
 refine x_seq ?_
 refine x_seq ?_
 refine x_reg ?_
 refine o_assign F rfl rfl (fun a F => ?_)
 refine x_end ?_
 refine x_tn ?_
 obtain ⟨o123, hR, hk124⟩ := thn_some hR
 refine x_cutQ (fun a w => ∃ (s135 : List Bool) (v138 : Value) (rb139 : List Nat), o123 = .nx s135 ∧ Sk a 37 [(5, .pointer (some ⟨b18, 0, none⟩))] ∧ Below w0.heap.size w0 w ∧ Row 1 RBool 4 w0.heap.size w v138 s135 rb139 ([]) ∧ Blk w b18 #[.int .i64 z16.1, .int .i64 z16.2.1, v138] 74 ∧ Dj (rb139 ++ []) [b18]) ?_ ?_
 ·
  refine x_blk ?_
  obtain ⟨fl127, hf128, hR⟩ := forL_gen hR
  refine x_loop (fun g a w => ∃ (k141 : Nat) (rest142 : List (List Int)) (s129 : List Bool) (v132 : Value) (rb133 : List Nat), (k141 ≤ x1.tuples.length ∧ x1.tuples.drop k141 = rest142) ∧ rest142.length = g ∧ forL fl127 rest142 k141 s129 = some o123 ∧ Sk a 37 [(6, .int .i64 (k141 : Int)), (0, .int .i64 x0), (1, v1), (5, .pointer (some ⟨b18, 0, none⟩))] ∧ Below w0.heap.size w0 w ∧ Row 1 RBool 4 w0.heap.size w v132 s129 rb133 ([]) ∧ Blk w b18 #[.int .i64 z16.1, .int .i64 z16.2.1, v132] 74 ∧ Dj (rb133 ++ []) [b18]) x1.tuples.length ?_ ?_
  ·
   exact ⟨0, x1.tuples, z16.2.2, v22, rb23, ⟨Nat.zero_le _, rfl⟩, rfl, hR, F.sub (sc rfl (sc rfl (sc rfl (sc rfl sn)))), hB, h25, K19, (Dj.app' (Dj.symm d26) (Dj.nil' _))⟩
  ·
   intro g144 a w ⟨k141, rest142, s129, v132, rb133, hd145, hg146, hR, F, hB, h131, K19, d134⟩
   cases rest142 with
   | nil =>
    replace hR := forL_nil hR
    have hkk141 := drop_nil hd145.1 hd145.2
    have hlk141 := dec_no hkk141
    refine x_seq ?_
    refine x_seq ?_
    refine x_reg ?_
    refine o_move F rfl rfl (fun a F => ?_)
    refine o_move F rfl rfl (fun a F => ?_)
    refine o_nilCheckP F rfl rfl (A1.go hB) (fun a F => ?_)
    refine o_field (s' := 1) fa53_1 F rfl rfl (A1.go hB) RRel.f1 (fun a p186 b187 h188 s189 F => ?_)
    refine o_loadS Try.isAgg26 F rfl rfl h188 (fun a v190 b191 h192 s193 F => ?_)
    refine o_len Try.underlying26 F rfl rfl h192 (fun a F => ?_)
    have i194 := (h192).r.len64
    refine o_lss F rfl rfl rfl (fun a F => ?_)
    refine x_end ?_
    refine x_tn ?_
    refine x_ifF F rfl hlk141 ?_
    refine x_exit ?_
    refine x_te ?_
    refine x_te ?_
    refine x_be ?_
    refine x_tn ?_
    exact ⟨s129, v132, rb133, (Option.some.inj hR).symm, F.sub (sc rfl sn), hB, h131, K19, d134⟩
   | cons x143 rest142 =>
    subst hg146
    replace hd145 := drop_cons hd145.2
    have hxk141 := ix_nat hd145.2.1
    obtain ⟨ck141, hR, hn126⟩ := forL_cons hR
    rw [hf128] at hR
    have hlk141 := dec_yes hd145.1
    refine x_seq ?_
    refine x_seq ?_
    refine x_reg ?_
    refine o_move F rfl rfl (fun a F => ?_)
    refine o_move F rfl rfl (fun a F => ?_)
    refine o_nilCheckP F rfl rfl (A1.go hB) (fun a F => ?_)
    refine o_field (s' := 1) fa53_1 F rfl rfl (A1.go hB) RRel.f1 (fun a p147 b148 h149 s150 F => ?_)
    refine o_loadS Try.isAgg26 F rfl rfl h149 (fun a v151 b152 h153 s154 F => ?_)
    refine o_len Try.underlying26 F rfl rfl h153 (fun a F => ?_)
    have i155 := (h153).r.len64
    refine o_lss F rfl rfl rfl (fun a F => ?_)
    refine x_end ?_
    refine x_tn ?_
    refine x_ifT F rfl hlk141 ?_
    refine x_skip ?_
    refine x_tn ?_
    refine x_seq ?_
    have ikk141 := k64 (Nat.le_of_lt hd145.1) i155
    have ink141 := inc64 hd145.1 i155
    refine x_blk ?_
    refine x_drawn (by kernel_rfl) (fun w l => ?_)
    replace hB := Below.through l hB
    replace h131 := h131.go l
    replace K19 := K19.thru l
    refine b_q0 0 rfl (by kernel_rfl) (by kernel_rfl) (by kernel_rfl) ?_
    refine v_val F rfl (fun w l => r_move F rfl) (fun a F => ?_)
    refine b_q 1 (by kernel_rfl) rfl (by kernel_rfl) (by kernel_rfl) (by kernel_rfl) (by kernel_rfl) ?_
    refine v_val F rfl (fun w l => r_nilCheck F rfl) (fun a F => ?_)
    refine b_q 2 (by kernel_rfl) rfl (by kernel_rfl) (by kernel_rfl) (by kernel_rfl) (by kernel_rfl) ?_
    refine v_val F rfl (fun w l => r_bfield fa74_2 F rfl rfl) (fun a F => ?_)
    refine b_q 3 (by kernel_rfl) rfl (by kernel_rfl) (by kernel_rfl) (by kernel_rfl) (by kernel_rfl) ?_
    refine v_val F rfl (fun w l => r_load1 Try.isAgg72 F rfl (((K19.thru l).cell _).trans rfl)) (fun a F => ?_)
    refine b_q0 4 rfl (by kernel_rfl) (by kernel_rfl) (by kernel_rfl) ?_
    refine v_val F rfl (fun w l => r_move F rfl) (fun a F => ?_)
    refine b_q0 5 rfl (by kernel_rfl) (by kernel_rfl) (by kernel_rfl) ?_
    refine v_val F rfl (fun w l => r_move F rfl) (fun a F => ?_)
    refine b_q 6 (by kernel_rfl) rfl (by kernel_rfl) (by kernel_rfl) (by kernel_rfl) (by kernel_rfl) ?_
    refine v_val F rfl (fun w l => r_nilCheckP F rfl (A1.go hB)) (fun a F => ?_)
    refine b_q 7 (by kernel_rfl) rfl (by kernel_rfl) (by kernel_rfl) (by kernel_rfl) (by kernel_rfl) ?_
    refine v_field (s' := 1) fa53_1 F rfl rfl (A1.go hB) RRel.f1 (fun a p156 b157 h158 s159 F => ?_)
    refine b_q 8 (by kernel_rfl) rfl (by kernel_rfl) (by kernel_rfl) (by kernel_rfl) (by kernel_rfl) ?_
    refine v_loadS (fun _ l => l) Try.isAgg26 F rfl rfl h158 (fun a v160 b161 h162 s163 F => ?_)
    refine b_q0 9 rfl (by kernel_rfl) (by kernel_rfl) (by kernel_rfl) ?_
    refine v_val F rfl (fun w l => r_move F rfl) (fun a F => ?_)
    refine b_q 10 (by kernel_rfl) rfl (by kernel_rfl) (by kernel_rfl) (by kernel_rfl) (by kernel_rfl) ?_
    refine v_index Try.underlying26 Try.sizeOf27 F rfl rfl rfl h162 hxk141 (fun a p164 b165 h166 s167 F => ?_)
    refine b_q 11 (by kernel_rfl) rfl (by kernel_rfl) (by kernel_rfl) (by kernel_rfl) (by kernel_rfl) ?_
    refine v_loadS (fun _ l => l) Try.isAgg27 F rfl rfl h166 (fun a v168 b169 h170 s171 F => ?_)
    refine b_e 12 rfl (by kernel_rfl) ?_
    obtain ⟨z172, c173, hR⟩ := bnd_some hR
    refine o_saysI F rfl Try.call37 rfl (spec_l01Code_c z172 c173 _ hx0 h170) (fun a w l iz172 F => ?_)
    replace hB := Below.through l hB
    replace h131 := h131.go l
    replace K19 := K19.thru l
    refine x_end ?_
    refine x_tn ?_
    refine ⟨.inl l, ?_⟩
    refine b_e 13 rfl (by kernel_rfl) ?_
    obtain ⟨z174, c175, hR⟩ := bnd_some hR
    refine o_rindex Try.underlying72 Try.sizeOf4 F rfl rfl rfl h131 c175 (fun a p176 b177 h178 s179 rp180 F => ?_)
    refine x_end ?_
    refine x_tn ?_
    refine ⟨.inl (Below.refl _ _), ?_⟩
    refine b_e 14 rfl (by kernel_rfl) ?_
    refine o_rstore Try.sizeOf4 F rfl rfl rfl h131 rp180 (ix_lt c175) El.bool rfl (Dj.nil _) (fun w ib182 h181 l s183 keep => ?_)
    obtain rfl : ib182 = [] := sub_nil_nil s183
    have d185 := keep _ (inm1 K19) (Dj.symm (Dj.l d134))
    replace hB := hB.o l h131.lo hB.size
    replace K19 := K19.only l (Dj.symm (Dj.l d134)).not
    refine x_end ?_
    refine x_tn ?_
    refine ⟨.inr (by kernel_rfl), ?_⟩
    refine b_end (by kernel_rfl) ?_
    refine x_bn ?_
    refine x_tn ?_
    refine x_reg ?_
    refine o_move F rfl rfl (fun a F => ?_)
    refine o_inc F rfl rfl rfl ink141 (fun a F => ?_)
    refine o_assign F rfl rfl (fun a F => ?_)
    refine x_end ?_
    refine x_tn ?_
    replace hR := l_go hR hn126
    exact ⟨_, Nat.lt_succ_self _, k141 + 1, rest142, (s129.set (z172).toNat true), v132, rb133, ⟨hd145.1, hd145.2.2⟩, rfl, hR, F.sub (sc rfl (sc rfl (sc rfl (sc rfl sn)))), hB, h181, K19, (Dj.app' (Dj.symm d185) (Dj.nil' _))⟩
 ·
  intro a w ⟨s135, v138, rb139, ho125, F, hB, h137, K19, d140⟩
  subst ho125
  have hR := then_nx hk124
  refine x_tn ?_
  refine x_seq ?_
  refine x_reg ?_
  refine o_move F rfl rfl (fun a F => ?_)
  refine o_assign F rfl rfl (fun a F => ?_)
  refine x_end ?_
  refine x_tn ?_
  refine x_ret ?_
  refine x_res1 F rfl (rv_t F rfl) ?_
  obtain rfl := Option.some.inj hR
  exact ⟨_, rfl, hB, b18, v138, rb139, rfl, K19, CK19, i20, i21, h137, (Dj.symm (Dj.l d140))⟩

def spec_l02Value (x0 : Int) (x1 : Op) (x2 : List Int) : Option Int :=
 bnd (spec_l01Code x0 x2) fun z19 =>
 bnd (ix x1.table z19) fun z21 =>
 some z21
set_option maxHeartbeats 1000000 in
theorem spec_l02Value_c {x0 : Int} {x1 : Op} {x2 : List Int} (r : Int) (hR : spec_l02Value x0 x1 x2 = some r) {v1 : Value} {b1 : List Nat} {v2 : Value} {b2 : List Nat} (w0 : World) (hx0 : I64 x0) (A1 : Rd (Pt 2 ROp) w0 v1 x1 b1) (A2 : Rd (Sl 1 RInt) w0 v2 x2 b2) : Calls Try.prog 57 #[.int .i64 x0, v1, v2] w0 (SaysI r w0) := by
 unfold spec_l02Value at hR
 refine x_enter (L := [(0, .int .i64 x0), (1, v1), (2, v2)]) Try.func57 rfl rfl rfl (sc rfl (sc rfl (sc rfl sn))) (fun a F => ?_)
 have hB := Below.refl w0.heap.size w0
 refine x_seq ?_
 refine x_reg ?_
 refine o_assign F rfl rfl (fun a F => ?_)
 refine x_end ?_
 refine x_tn ?_
 refine x_seq ?_
 refine x_draw (by kernel_rfl) (by kernel_rfl) ?_
 refine q_val F rfl (fun w l => r_move F rfl) (fun a F => ?_)
 refine q_val F rfl (fun w l => r_nilCheckP F rfl (A1.go hB)) (fun a F => ?_)
 refine q_field (s' := 1) fa45_1 F rfl rfl (A1.go hB) ROp.f1 (fun a p11 b12 h13 s14 F => ?_)
 refine q_loadS (fun _ l => l) Try.isAgg27 F rfl rfl h13 (fun a v15 b16 h17 s18 F => ?_)
 refine q_val F rfl (fun w l => r_move F rfl) (fun a F => ?_)
 refine q_val F rfl (fun w l => r_move F rfl) (fun a F => ?_)
 obtain ⟨z19, c20, hR⟩ := bnd_some hR
 refine q_saysI F rfl Try.call37 rfl (fun w w' h l => l.through h) _ (Below.refl _ _) (fun w l => spec_l01Code_c z19 c20 w hx0 (((A2.go hB)).go l)) (fun a iz19 F => ?_)
 obtain ⟨z21, c22, hR⟩ := bnd_some hR
 refine q_index Try.underlying27 Try.sizeOf2 F rfl rfl rfl h17 c22 (fun a p23 b24 h25 s26 F => ?_)
 have i27 := (h25).i64
 refine q_val F rfl (fun w l => r_loadI Try.isAgg2 F rfl ((h25).go l)) (fun a F => ?_)
 refine q_val F rfl (fun w l => r_assign F rfl) (fun a F => ?_)
 refine q_end (fun w l => ?_)
 replace hB := Below.through l hB
 refine x_tn ?_
 refine x_ret ?_
 refine x_res1 F rfl (rv_t F rfl) ?_
 obtain rfl := Option.some.inj hR
 exact ⟨⟨rfl, hB⟩, i27⟩

def spec_l02Make (x0 : Int) (x1 : Op) (x2 : List (List Int)) : Option (List Int) :=
 bnd (ix x2 0) fun z15 =>
 thn (σ := (List Int)) (
  forI (σ := (List Int)) (ρ := (List Int)) (fun (k173 : Nat) (s163 : (List Int)) =>
   thn (σ := (List Int)) (
    forL (σ := (List Int)) (ρ := (Ctl ((List Int)) (List Int))) (fun (k253 : Nat) (x255 : (List Int)) (s239 : (List Int)) =>
     bnd (ix x255 (k173 : Int)) fun z268 =>
     bnd (ap s239 ([z268])) fun z283 =>
     some (.go z283)) x2 0 []) fun s246 =>
   bnd (spec_l02Value x0 x1 s246) fun z291 =>
   bnd (ap s163 ([z291])) fun z299 =>
   some (.go z299)) (z15.length : Int).toNat 0 []) fun s168 =>
 some s168
set_option maxHeartbeats 1000000 in
theorem spec_l02Make_c {x0 : Int} {x1 : Op} {x2 : List (List Int)} (r : (List Int)) (hR : spec_l02Make x0 x1 x2 = some r) {v1 : Value} {b1 : List Nat} {v2 : Value} {b2 : List Nat} (w0 : World) (hx0 : I64 x0) (A1 : Rd (Pt 2 ROp) w0 v1 x1 b1) (A2 : Rd (Sl 1 (RSl 1 RInt)) w0 v2 x2 b2) : Calls Try.prog 36 #[.int .i64 x0, v1, v2] w0 (Gives (fun v w' => ∃ (v1' : Value) (rb2' : List Nat), v = v1' ∧ Row 1 RInt 2 w0.heap.size w' v1' r rb2' []) w0) := by
 unfold spec_l02Make at hR
 refine x_enter (L := [(0, .int .i64 x0), (1, v1), (2, v2)]) Try.func36 rfl rfl rfl (sc rfl (sc rfl (sc rfl sn))) (fun a F => ?_)
 have hB := Below.refl w0.heap.size w0
 refine x_seq ?_
 refine x_reg ?_
 refine o_assign F rfl rfl (fun a F => ?_)
 refine x_end ?_
 refine x_tn ?_
 refine x_seq ?_
 refine x_reg ?_
 refine o_lit0 (R := RInt) Try.underlying27 Try.sizeOf2 F rfl (fun a w v11 rb12 h13 l F => ?_)
 replace h13 := h13.base hB.size
 replace hB := Below.through l hB
 refine o_assign F rfl rfl (fun a F => ?_)
 refine x_end ?_
 refine x_tn ?_
 refine x_seq ?_
 refine x_seq ?_
 refine x_reg ?_
 refine o_assign F rfl rfl (fun a F => ?_)
 refine x_end ?_
 refine x_tn ?_
 obtain ⟨z15, c16, hR⟩ := bnd_some hR
 obtain ⟨o157, hR, hk158⟩ := thn_some hR
 refine x_cutQ (fun a w => ∃ (s168 : List Int) (v171 : Value) (rb172 : List Nat), o157 = .nx s168 ∧ Sk a 45 [(7, v171)] ∧ Below w0.heap.size w0 w ∧ Row 1 RInt 2 w0.heap.size w v171 s168 rb172 ([])) ?_ ?_
 ·
  refine x_blk ?_
  obtain ⟨fl161, hf162, hR⟩ := forI_gen hR
  refine x_loop (fun g a w => ∃ (k173 : Nat) (s163 : List Int) (v166 : Value) (rb167 : List Nat), k173 + g = (z15.length : Int).toNat ∧ forI fl161 g k173 s163 = some o157 ∧ Sk a 45 [(8, .int .i64 (k173 : Int)), (0, .int .i64 x0), (1, v1), (2, v2), (7, v166)] ∧ Below w0.heap.size w0 w ∧ Row 1 RInt 2 w0.heap.size w v166 s163 rb167 ([])) (z15.length : Int).toNat ?_ ?_
  ·
   exact ⟨0, [], v11, rb12, (Nat.zero_add _), hR, F.sub (sc rfl (sc rfl (sc rfl (sc rfl (sc rfl sn))))), hB, h13⟩
  ·
   intro g176 a w ⟨k173, s163, v166, rb167, hd177, hR, F, hB, h165⟩
   cases g176 with
   | zero =>
    replace hR := forI_zero hR
    have hlk173 := dec_noI hd177
    refine x_seq ?_
    refine x_seq ?_
    refine x_reg ?_
    refine o_move F rfl rfl (fun a F => ?_)
    refine o_move F rfl rfl (fun a F => ?_)
    refine o_index Try.underlying26 Try.sizeOf27 F rfl rfl rfl (A2.go hB) c16 (fun a p305 b306 h307 s308 F => ?_)
    refine o_loadS Try.isAgg27 F rfl rfl h307 (fun a v309 b310 h311 s312 F => ?_)
    refine o_len Try.underlying27 F rfl rfl h311 (fun a F => ?_)
    have i313 := (h311).r.len64
    refine o_lss F rfl rfl rfl (fun a F => ?_)
    refine x_end ?_
    refine x_tn ?_
    refine x_ifF F rfl hlk173 ?_
    refine x_exit ?_
    refine x_te ?_
    refine x_te ?_
    refine x_be ?_
    refine x_tn ?_
    exact ⟨s163, v166, rb167, (Option.some.inj hR).symm, F.sub (sc rfl sn), hB, h165⟩
   | succ g176 =>
    obtain ⟨ck173, hR, hn160⟩ := forI_succ hR
    rw [hf162] at hR
    have hlk173 := dec_yesI hd177
    refine x_seq ?_
    refine x_seq ?_
    refine x_reg ?_
    refine o_move F rfl rfl (fun a F => ?_)
    refine o_move F rfl rfl (fun a F => ?_)
    refine o_index Try.underlying26 Try.sizeOf27 F rfl rfl rfl (A2.go hB) c16 (fun a p179 b180 h181 s182 F => ?_)
    refine o_loadS Try.isAgg27 F rfl rfl h181 (fun a v183 b184 h185 s186 F => ?_)
    refine o_len Try.underlying27 F rfl rfl h185 (fun a F => ?_)
    have i187 := (h185).r.len64
    refine o_lss F rfl rfl rfl (fun a F => ?_)
    refine x_end ?_
    refine x_tn ?_
    refine x_ifT F rfl hlk173 ?_
    refine x_skip ?_
    refine x_tn ?_
    refine x_seq ?_
    have ikk173 := k64I hd177 i187
    have ink173 := inc64I hd177 i187
    refine x_blk ?_
    refine x_seq ?_
    refine x_reg ?_
    refine o_lit0 (R := RInt) Try.underlying27 Try.sizeOf2 F rfl (fun a w v188 rb189 h190 l F => ?_)
    have d192 := Dj.new h165.rd.m h190.ownR (Nat.le_refl _)
    have d193 := Dj.app' (Dj.new h165.memR h190.ownR (Nat.le_refl _)).symm (Dj.nil' _)
    replace h190 := h190.base hB.size
    replace hB := Below.through l hB
    replace h165 := h165.go l
    refine o_assign F rfl rfl (fun a F => ?_)
    refine x_end ?_
    refine x_tn ?_
    refine x_seq ?_
    refine x_seq ?_
    refine x_reg ?_
    refine o_assign F rfl rfl (fun a F => ?_)
    refine x_end ?_
    refine x_tn ?_
    obtain ⟨o233, hR, hk234⟩ := thn_some hR
    refine x_cutQ (fun a w => ∃ (s246 : List Int) (v249 : Value) (rb250 : List Nat), o233 = .nx s246 ∧ Sk a 45 [(0, .int .i64 x0), (1, v1), (2, v2), (7, v166), (8, .int .i64 (k173 : Int)), (9, v249)] ∧ Below w0.heap.size w0 w ∧ Row 1 RInt 2 w0.heap.size w v249 s246 rb250 ([]) ∧ Row 1 RInt 2 w0.heap.size w v166 s163 rb167 ([]) ∧ Dj (rb167 ++ []) rb250 ∧ Dj (rb250 ++ []) rb167) ?_ ?_
    ·
     refine x_blk ?_
     obtain ⟨fl237, hf238, hR⟩ := forL_gen hR
     refine x_loop (fun g a w => ∃ (k253 : Nat) (rest254 : List (List Int)) (s239 : List Int) (v242 : Value) (rb243 : List Nat), (k253 ≤ x2.length ∧ x2.drop k253 = rest254) ∧ rest254.length = g ∧ forL fl237 rest254 k253 s239 = some o233 ∧ Sk a 45 [(10, .int .i64 (k253 : Int)), (0, .int .i64 x0), (1, v1), (2, v2), (7, v166), (8, .int .i64 (k173 : Int)), (9, v242)] ∧ Below w0.heap.size w0 w ∧ Row 1 RInt 2 w0.heap.size w v242 s239 rb243 ([]) ∧ Row 1 RInt 2 w0.heap.size w v166 s163 rb167 ([]) ∧ Dj (rb167 ++ []) rb243 ∧ Dj (rb243 ++ []) rb167) x2.length ?_ ?_
     ·
      exact ⟨0, x2, [], v188, rb189, ⟨Nat.zero_le _, rfl⟩, rfl, hR, F.sub (sc rfl (sc rfl (sc rfl (sc rfl (sc rfl (sc rfl (sc rfl sn))))))), hB, h190, h165, d192, d193⟩
     ·
      intro g256 a w ⟨k253, rest254, s239, v242, rb243, hd257, hg258, hR, F, hB, h241, h165, d244, d245⟩
      cases rest254 with
      | nil =>
       replace hR := forL_nil hR
       have hkk253 := drop_nil hd257.1 hd257.2
       have hlk253 := dec_no hkk253
       refine x_seq ?_
       refine x_seq ?_
       refine x_reg ?_
       refine o_move F rfl rfl (fun a F => ?_)
       refine o_move F rfl rfl (fun a F => ?_)
       refine o_len Try.underlying26 F rfl rfl (A2.go hB) (fun a F => ?_)
       have i290 := ((A2.go hB)).r.len64
       refine o_lss F rfl rfl rfl (fun a F => ?_)
       refine x_end ?_
       refine x_tn ?_
       refine x_ifF F rfl hlk253 ?_
       refine x_exit ?_
       refine x_te ?_
       refine x_te ?_
       refine x_be ?_
       refine x_tn ?_
       exact ⟨s239, v242, rb243, (Option.some.inj hR).symm, F.sub (sc rfl (sc rfl (sc rfl (sc rfl (sc rfl (sc rfl sn)))))), hB, h241, h165, d244, d245⟩
      | cons x255 rest254 =>
       subst hg258
       replace hd257 := drop_cons hd257.2
       have hxk253 := ix_nat hd257.2.1
       obtain ⟨ck253, hR, hn236⟩ := forL_cons hR
       rw [hf238] at hR
       have hlk253 := dec_yes hd257.1
       refine x_seq ?_
       refine x_seq ?_
       refine x_reg ?_
       refine o_move F rfl rfl (fun a F => ?_)
       refine o_move F rfl rfl (fun a F => ?_)
       refine o_len Try.underlying26 F rfl rfl (A2.go hB) (fun a F => ?_)
       have i259 := ((A2.go hB)).r.len64
       refine o_lss F rfl rfl rfl (fun a F => ?_)
       refine x_end ?_
       refine x_tn ?_
       refine x_ifT F rfl hlk253 ?_
       refine x_skip ?_
       refine x_tn ?_
       refine x_seq ?_
       have ikk253 := k64 (Nat.le_of_lt hd257.1) i259
       have ink253 := inc64 hd257.1 i259
       refine x_blk ?_
       refine x_reg ?_
       refine o_move F rfl rfl (fun a F => ?_)
       refine o_move F rfl rfl (fun a F => ?_)
       refine o_move F rfl rfl (fun a F => ?_)
       refine o_index Try.underlying26 Try.sizeOf27 F rfl rfl rfl (A2.go hB) hxk253 (fun a p260 b261 h262 s263 F => ?_)
       refine o_loadS Try.isAgg27 F rfl rfl h262 (fun a v264 b265 h266 s267 F => ?_)
       refine o_move F rfl rfl (fun a F => ?_)
       obtain ⟨z268, c269, hR⟩ := bnd_some hR
       refine o_index Try.underlying27 Try.sizeOf2 F rfl rfl rfl h266 c269 (fun a p270 b271 h272 s273 F => ?_)
       have i274 := (h272).i64
       refine o_loadI Try.isAgg2 F rfl rfl h272 (fun a F => ?_)
       refine o_lit1 (R := RInt) (y := z268) Try.underlying27 Try.sizeOf2 Try.zeroValue2 rfl (by decide) (by decide) F rfl rfl (El.int i274) (fun a w v275 rb276 h277 l F => ?_)
       have d279 := Dj.new h165.rd.m h277.ownR (Nat.le_refl _)
       have d280 := Dj.new h241.rd.m h277.ownR (Nat.le_refl _)
       have d281 := Dj.app' (Dj.new h165.memR h277.ownR (Nat.le_refl _)).symm (Dj.nil' _)
       have d282 := Dj.app' (Dj.new h241.memR h277.ownR (Nat.le_refl _)).symm (Dj.nil' _)
       replace h277 := h277.base hB.size
       replace hB := Below.through l hB
       replace h165 := h165.go l
       replace h241 := h241.go l
       obtain ⟨z283, c284, hR⟩ := bnd_some hR
       refine o_append (sz := 1) (R := RInt) (z := (.int .i64 0)) (bytes := 8) Try.underlying27 (by kernel_rfl) rfl (by decide) (by decide) (by decide) F rfl rfl rfl h241 h277.src hB.size (Dj.nil _) c284 (fun a w v285 rb286 h287 l keep F => ?_)
       replace h287 := row_nil2 h287
       have d289 := keep _ h165.rd.m d244
       replace hB := hB.o l h241.lo hB.size
       replace h165 := h165.goO l d244
       refine o_assign F rfl rfl (fun a F => ?_)
       refine x_end ?_
       refine x_bn ?_
       refine x_tn ?_
       refine x_reg ?_
       refine o_move F rfl rfl (fun a F => ?_)
       refine o_inc F rfl rfl rfl ink253 (fun a F => ?_)
       refine o_assign F rfl rfl (fun a F => ?_)
       refine x_end ?_
       refine x_tn ?_
       replace hR := l_go hR hn236
       exact ⟨_, Nat.lt_succ_self _, k253 + 1, rest254, z283, v285, rb286, ⟨hd257.1, hd257.2.2⟩, rfl, hR, F.sub (sc rfl (sc rfl (sc rfl (sc rfl (sc rfl (sc rfl (sc rfl sn))))))), hB, h287, h165, d289, (Dj.app' (Dj.symm (Dj.l d289)) (Dj.nil' _))⟩
    ·
     intro a w ⟨s246, v249, rb250, ho235, F, hB, h248, h165, d251, d252⟩
     subst ho235
     have hR := then_nx hk234
     refine x_tn ?_
     refine x_reg ?_
     refine o_move F rfl rfl (fun a F => ?_)
     refine o_move F rfl rfl (fun a F => ?_)
     refine o_move F rfl rfl (fun a F => ?_)
     refine o_move F rfl rfl (fun a F => ?_)
     obtain ⟨z291, c292, hR⟩ := bnd_some hR
     refine o_saysI F rfl Try.call57 rfl (spec_l02Value_c z291 c292 _ hx0 (A1.go hB) h248.rd) (fun a w l iz291 F => ?_)
     replace hB := Below.through l hB
     replace h165 := h165.go l
     refine o_lit1 (R := RInt) (y := z291) Try.underlying27 Try.sizeOf2 Try.zeroValue2 rfl (by decide) (by decide) F rfl rfl (El.int iz291) (fun a w v293 rb294 h295 l F => ?_)
     have d297 := Dj.new h165.rd.m h295.ownR (Nat.le_refl _)
     have d298 := Dj.app' (Dj.new h165.memR h295.ownR (Nat.le_refl _)).symm (Dj.nil' _)
     replace h295 := h295.base hB.size
     replace hB := Below.through l hB
     replace h165 := h165.go l
     obtain ⟨z299, c300, hR⟩ := bnd_some hR
     refine o_append (sz := 1) (R := RInt) (z := (.int .i64 0)) (bytes := 8) Try.underlying27 (by kernel_rfl) rfl (by decide) (by decide) (by decide) F rfl rfl rfl h165 h295.src hB.size (Dj.nil _) c300 (fun a w v301 rb302 h303 l keep F => ?_)
     replace h303 := row_nil2 h303
     replace hB := hB.o l h165.lo hB.size
     refine o_assign F rfl rfl (fun a F => ?_)
     refine x_end ?_
     refine x_bn ?_
     refine x_tn ?_
     refine x_reg ?_
     refine o_move F rfl rfl (fun a F => ?_)
     refine o_inc F rfl rfl rfl ink173 (fun a F => ?_)
     refine o_assign F rfl rfl (fun a F => ?_)
     refine x_end ?_
     refine x_tn ?_
     replace hR := l_go hR hn160
     exact ⟨_, Nat.lt_succ_self _, k173 + 1, z299, v301, rb302, (by omega), hR, F.sub (sc rfl (sc rfl (sc rfl (sc rfl (sc rfl sn))))), hB, h303⟩
 ·
  intro a w ⟨s168, v171, rb172, ho159, F, hB, h170⟩
  subst ho159
  have hR := then_nx hk158
  refine x_tn ?_
  refine x_seq ?_
  refine x_reg ?_
  refine o_move F rfl rfl (fun a F => ?_)
  refine o_assign F rfl rfl (fun a F => ?_)
  refine x_end ?_
  refine x_tn ?_
  refine x_ret ?_
  refine x_res1 F rfl (rv_t F rfl) ?_
  obtain rfl := Option.some.inj hR
  exact ⟨_, rfl, hB, v171, rb172, rfl, h170⟩

def spec_l02Breaks (N : Nat) (x0 : Int) (x1 : Op) (x2 : Rel) : Option ((List (List Int)) × (List Int) × Bool) :=
 bnd (spec_l01SetOf N x0 x2) fun z20 =>
 bnd (spec_l01Power N (x2.tuples.length : Int) x1.arity) fun z40 =>
 thn (σ := Unit) (
  forI (σ := Unit) (ρ := (List (List Int)) × (List Int) × Bool) (fun (k551 : Nat) (s : Unit) =>
    match s with
    | _ =>
    bnd (spec_l01Digits N (x2.tuples.length : Int) x1.arity (k551 : Int)) fun z562 =>
    thn (σ := (List (List Int)) × Int) (
     whl (σ := (List (List Int)) × Int) (ρ := (Ctl (Unit) ((List (List Int)) × (List Int) × Bool))) (fun (s : (List (List Int)) × Int) =>
       match s with
       | (s720, s726) =>
       if (decide (s726 < (z562.length : Int))) then
        bnd (ix z562 s726) fun z760 =>
        bnd (ix x2.tuples z760) fun z767 =>
        bnd (ap s720 ([z767])) fun z789 =>
        bnd (ck (s726 + 1)) fun z801 =>
        some (.go (z789, z801))
       else
        some (.brk (s720, s726))) N ([], 0)) fun (s733, s739) =>
    bnd (spec_l02Make x0 x1 s733) fun z803 =>
    bnd (spec_l01Code x0 z803) fun z817 =>
    bnd (ix z20.2.2 z817) fun z819 =>
    if (!z819) then
     thn (σ := (List (List Int)) × Int) (
      whl (σ := (List (List Int)) × Int) (ρ := (Ctl (Unit) ((List (List Int)) × (List Int) × Bool))) (fun (s : (List (List Int)) × Int) =>
        match s with
        | (s975, s982) =>
        if (decide (s982 < (s733.length : Int))) then
         bnd (ix s733 s982) fun z1007 =>
         bnd (spec_l00Own z1007) fun z1018 =>
         bnd (ap s975 ([z1018])) fun z1047 =>
         bnd (ck (s982 + 1)) fun z1058 =>
         some (.go (z1047, z1058))
        else
         some (.brk (s975, s982))) N ([], 0)) fun (s988, s995) =>
     some (.ret (s988, z803, true))
    else
     some (.go ())) z40.toNat 0 ()) fun _ =>
 some ([], [], false)
set_option maxHeartbeats 1000000 in
theorem spec_l02Breaks_c {N : Nat} {x0 : Int} {x1 : Op} {x2 : Rel} (r : (List (List Int)) × (List Int) × Bool) (hR : spec_l02Breaks N x0 x1 x2 = some r) {v1 : Value} {b1 : List Nat} {v2 : Value} {b2 : List Nat} (w0 : World) (hx0 : I64 x0) (A1 : Rd (Pt 2 ROp) w0 v1 x1 b1) (A2 : Rd (Pt 2 RRel) w0 v2 x2 b2) : Calls Try.prog 20 #[.int .i64 x0, v1, v2] w0 (Gives (fun v w' => ∃ (v1' : Value) (rb2' : List Nat) (ib3' : List Nat) (v4' : Value) (rb5' : List Nat), v = .tuple #[v1', v4', .bool r.2.2] ∧ Row 1 (RSl 1 RInt) 27 w0.heap.size w' v1' r.1 rb2' ib3' ∧ Own w0.heap.size ib3' w' ∧ Row 1 RInt 2 w0.heap.size w' v4' r.2.1 rb5' [] ∧ Dj (rb2' ++ ib3') (rb5' ++ [])) w0) := by
 unfold spec_l02Breaks at hR
 refine x_enter (L := [(0, .int .i64 x0), (1, v1), (2, v2)]) Try.func20 rfl rfl rfl (sc rfl (sc rfl (sc rfl sn))) (fun a F => ?_)
 have hB := Below.refl w0.heap.size w0
 refine x_seq ?_
 refine x_reg ?_
 refine o_assign F rfl rfl (fun a F => ?_)
 refine o_assign F rfl rfl (fun a F => ?_)
 refine o_assign F rfl rfl (fun a F => ?_)
 refine x_end ?_
 refine x_tn ?_
 refine x_seq ?_
 refine x_reg ?_
 refine o_move F rfl rfl (fun a F => ?_)
 refine o_nilCheckP F rfl rfl (A2.go hB) (fun a F => ?_)
 refine o_field (s' := 1) fa53_1 F rfl rfl (A2.go hB) RRel.f1 (fun a p11 b12 h13 s14 F => ?_)
 refine o_loadS Try.isAgg26 F rfl rfl h13 (fun a v15 b16 h17 s18 F => ?_)
 refine o_len Try.underlying26 F rfl rfl h17 (fun a F => ?_)
 have i19 := (h17).r.len64
 refine o_assign F rfl rfl (fun a F => ?_)
 refine x_end ?_
 refine x_tn ?_
 refine x_seq ?_
 refine x_reg ?_
 refine o_move F rfl rfl (fun a F => ?_)
 refine o_move F rfl rfl (fun a F => ?_)
 obtain ⟨z20, c21, hR⟩ := bnd_some hR
 refine o_gives F rfl Try.call33 rfl (spec_l01SetOf_c z20 c21 _ hx0 (A2.go hB)) (fun a vv w l ⟨b22, v26, rb27, hv31, K23, BK23, i24, i25, h29, d30⟩ F => ?_)
 subst vv
 have d32 := (dj1 h13.m BK23).symm
 have d33 := (dj1 h17.m BK23).symm
 have CK23 := Nat.le_trans hB.size BK23
 replace h29 := h29.base hB.size
 replace hB := Below.through l hB
 refine o_assign F rfl rfl (fun a F => ?_)
 refine x_end ?_
 refine x_tn ?_
 refine x_seq ?_
 refine x_reg ?_
 refine o_move F rfl rfl (fun a F => ?_)
 refine o_move F rfl rfl (fun a F => ?_)
 refine o_nilCheckP F rfl rfl (A1.go hB) (fun a F => ?_)
 refine o_field (s' := 1) fa45_0 F rfl rfl (A1.go hB) ROp.f0 (fun a p35 b36 h37 s38 F => ?_)
 have i39 := (h37).i64
 refine o_loadI Try.isAgg2 F rfl rfl h37 (fun a F => ?_)
 obtain ⟨z40, c41, hR⟩ := bnd_some hR
 refine o_saysI F rfl Try.call34 rfl (spec_l01Power_c z40 c41 _ i19 i39) (fun a w l iz40 F => ?_)
 replace hB := Below.through l hB
 replace h29 := h29.go l
 replace K23 := K23.thru l
 refine o_assign F rfl rfl (fun a F => ?_)
 refine x_end ?_
 refine x_tn ?_
 refine x_seq ?_
 refine x_seq ?_
 refine x_reg ?_
 refine o_assign F rfl rfl (fun a F => ?_)
 refine x_end ?_
 refine x_tn ?_
 obtain ⟨o545, hR, hk546⟩ := thn_some hR
 refine x_cutQ (fun a w => o545 = .nx () ∧ Sk a 98 [] ∧ Below w0.heap.size w0 w) ?_ ?_
 ·
  refine x_blk ?_
  obtain ⟨fl549, hf550, hR⟩ := forI_gen hR
  refine x_loop (fun g a w => ∃ (k551 : Nat), k551 + g = z40.toNat ∧ forI fl549 g k551 () = some o545 ∧ Sk a 98 [(12, .int .i64 (k551 : Int)), (0, .int .i64 x0), (1, v1), (2, v2), (9, .int .i64 (x2.tuples.length : Int)), (10, .pointer (some ⟨b22, 0, none⟩)), (11, .int .i64 z40)] ∧ Below w0.heap.size w0 w ∧ Row 1 RBool 4 w0.heap.size w v26 z20.2.2 rb27 ([]) ∧ Blk w b22 #[.int .i64 z20.1, .int .i64 z20.2.1, v26] 74) z40.toNat ?_ ?_
  ·
   exact ⟨0, (Nat.zero_add _), hR, F.sub (sc rfl (sc rfl (sc rfl (sc rfl (sc rfl (sc rfl (sc rfl sn))))))), hB, h29, K23⟩
  ·
   intro g554 a w ⟨k551, hd555, hR, F, hB, h29, K23⟩
   cases g554 with
   | zero =>
    replace hR := forI_zero hR
    have hlk551 := dec_noI hd555
    refine x_seq ?_
    refine x_seq ?_
    refine x_reg ?_
    refine o_move F rfl rfl (fun a F => ?_)
    refine o_move F rfl rfl (fun a F => ?_)
    refine o_lss F rfl rfl rfl (fun a F => ?_)
    refine x_end ?_
    refine x_tn ?_
    refine x_ifF F rfl hlk551 ?_
    refine x_exit ?_
    refine x_te ?_
    refine x_te ?_
    refine x_be ?_
    refine x_tn ?_
    exact ⟨(Option.some.inj hR).symm, F.sub sn, hB⟩
   | succ g554 =>
    obtain ⟨ck551, hR, hn548⟩ := forI_succ hR
    rw [hf550] at hR
    have hlk551 := dec_yesI hd555
    refine x_seq ?_
    refine x_seq ?_
    refine x_reg ?_
    refine o_move F rfl rfl (fun a F => ?_)
    refine o_move F rfl rfl (fun a F => ?_)
    refine o_lss F rfl rfl rfl (fun a F => ?_)
    refine x_end ?_
    refine x_tn ?_
    refine x_ifT F rfl hlk551 ?_
    refine x_skip ?_
    refine x_tn ?_
    refine x_seq ?_
    have ikk551 := k64I hd555 iz40
    have ink551 := inc64I hd555 iz40
    refine x_blk ?_
    refine x_seq ?_
    refine x_reg ?_
    refine o_move F rfl rfl (fun a F => ?_)
    refine o_move F rfl rfl (fun a F => ?_)
    refine o_nilCheckP F rfl rfl (A1.go hB) (fun a F => ?_)
    refine o_field (s' := 1) fa45_0 F rfl rfl (A1.go hB) ROp.f0 (fun a p557 b558 h559 s560 F => ?_)
    have i561 := (h559).i64
    refine o_loadI Try.isAgg2 F rfl rfl h559 (fun a F => ?_)
    refine o_move F rfl rfl (fun a F => ?_)
    obtain ⟨z562, c563, hR⟩ := bnd_some hR
    refine o_gives F rfl Try.call35 rfl (spec_l01Digits_c z562 c563 _ i19 i561 ikk551) (fun a vv w l ⟨v564, rb565, hv568, h567⟩ F => ?_)
    subst vv
    have d570 := Dj.new h29.rd.m h567.ownR (Nat.le_refl _)
    have d571 := Dj.new (inm1 K23) h567.ownR (Nat.le_refl _)
    have d572 := Dj.app' (Dj.new h29.memR h567.ownR (Nat.le_refl _)).symm (Dj.nil' _)
    replace h567 := h567.base hB.size
    replace hB := Below.through l hB
    replace h29 := h29.go l
    replace K23 := K23.thru l
    refine o_assign F rfl rfl (fun a F => ?_)
    refine x_end ?_
    refine x_tn ?_
    refine x_seq ?_
    refine x_reg ?_
    refine o_lit0 (R := (RSl 1 RInt)) Try.underlying26 Try.sizeOf27 F rfl (fun a w v573 rb574 h575 l F => ?_)
    have d577 := Dj.new h29.rd.m h575.ownR (Nat.le_refl _)
    have d578 := Dj.new h567.rd.m h575.ownR (Nat.le_refl _)
    have d579 := Dj.new (inm1 K23) h575.ownR (Nat.le_refl _)
    have d580 := Dj.app' (Dj.new h29.memR h575.ownR (Nat.le_refl _)).symm (Dj.nil' _)
    have d581 := Dj.app' (Dj.new h567.memR h575.ownR (Nat.le_refl _)).symm (Dj.nil' _)
    replace h575 := h575.base hB.size
    replace hB := Below.through l hB
    replace h29 := h29.go l
    replace h567 := h567.go l
    replace K23 := K23.thru l
    refine o_assign F rfl rfl (fun a F => ?_)
    refine x_end ?_
    refine x_tn ?_
    refine x_seq ?_
    refine x_seq ?_
    refine x_reg ?_
    refine o_assign F rfl rfl (fun a F => ?_)
    refine x_end ?_
    refine x_tn ?_
    obtain ⟨o714, hR, hk715⟩ := thn_some hR
    refine x_cutQ (fun a w => ∃ (s733 : List (List Int)) (v736 : Value) (rb737 : List Nat) (ib738 : List Nat) (s739 : Int), o714 = .nx (s733, s739) ∧ Sk a 98 [(0, .int .i64 x0), (1, v1), (2, v2), (9, .int .i64 (x2.tuples.length : Int)), (10, .pointer (some ⟨b22, 0, none⟩)), (11, .int .i64 z40), (12, .int .i64 (k551 : Int)), (14, v736)] ∧ Below w0.heap.size w0 w ∧ Row 1 (RSl 1 RInt) 27 w0.heap.size w v736 s733 rb737 ib738 ∧ I64 s739 ∧ Row 1 RBool 4 w0.heap.size w v26 z20.2.2 rb27 ([]) ∧ Blk w b22 #[.int .i64 z20.1, .int .i64 z20.2.1, v26] 74 ∧ Dj (rb737 ++ ib738) [b22] ∧ Dj (rb27 ++ []) rb737 ∧ Dj (rb737 ++ ib738) rb27) ?_ ?_
    ·
     refine x_blk ?_
     obtain ⟨fl718, hf719, hR⟩ := whl_gen hR
     refine x_loop (fun g a w => ∃ (s720 : List (List Int)) (v723 : Value) (rb724 : List Nat) (ib725 : List Nat) (s726 : Int), whl fl718 g (s720, s726) = some o714 ∧ Sk a 98 [(0, .int .i64 x0), (1, v1), (2, v2), (9, .int .i64 (x2.tuples.length : Int)), (10, .pointer (some ⟨b22, 0, none⟩)), (11, .int .i64 z40), (12, .int .i64 (k551 : Int)), (13, v564), (14, v723), (15, .int .i64 s726)] ∧ Below w0.heap.size w0 w ∧ Row 1 (RSl 1 RInt) 27 w0.heap.size w v723 s720 rb724 ib725 ∧ I64 s726 ∧ Row 1 RBool 4 w0.heap.size w v26 z20.2.2 rb27 ([]) ∧ Row 1 RInt 2 w0.heap.size w v564 z562 rb565 ([]) ∧ Blk w b22 #[.int .i64 z20.1, .int .i64 z20.2.1, v26] 74 ∧ Dj (rb724 ++ ib725) [b22] ∧ Dj (rb27 ++ []) rb724 ∧ Dj (rb724 ++ ib725) rb27 ∧ Dj (rb565 ++ []) rb724 ∧ Dj (rb724 ++ ib725) rb565) N ?_ ?_
     ·
      exact ⟨[], v573, rb574, [], 0, hR, F.sub (sc rfl (sc rfl (sc rfl (sc rfl (sc rfl (sc rfl (sc rfl (sc rfl (sc rfl (sc rfl sn)))))))))), hB, h575, (show I64 (0) by decide), h29, h567, K23, (Dj.app' (Dj.symm d579) (Dj.nil' _)), d577, d580, d578, d581⟩
     ·
      intro g747 a w ⟨s720, v723, rb724, ib725, s726, hR, F, hB, h722, i727, h29, h567, K23, d728, d729, d730, d731, d732⟩
      obtain ⟨ck744, rest745, hg749, hR, hn717⟩ := whl_round hR
      rw [hf719] at hR
      refine x_seq ?_
      refine x_seq ?_
      refine x_reg ?_
      refine o_move F rfl rfl (fun a F => ?_)
      refine o_move F rfl rfl (fun a F => ?_)
      refine o_len Try.underlying27 F rfl rfl h567.rd (fun a F => ?_)
      have i750 := (h567.rd).r.len64
      refine o_lss F rfl rfl rfl (fun a F => ?_)
      refine x_end ?_
      refine x_tn ?_
      refine x_if F rfl (fun hb751 => ?_) (fun hb751 => ?_)
      ·
       replace hR := ifT hb751 hR
       refine x_skip ?_
       refine x_tn ?_
       refine x_seq ?_
       refine x_blk ?_
       refine x_drawn (by kernel_rfl) (fun w l => ?_)
       replace hB := Below.through l hB
       replace h29 := h29.go l
       replace h567 := h567.go l
       replace h722 := h722.go l
       replace K23 := K23.thru l
       refine b_q0 0 rfl (by kernel_rfl) (by kernel_rfl) (by kernel_rfl) ?_
       refine v_val F rfl (fun w l => r_move F rfl) (fun a F => ?_)
       refine b_q0 1 rfl (by kernel_rfl) (by kernel_rfl) (by kernel_rfl) ?_
       refine v_val F rfl (fun w l => r_move F rfl) (fun a F => ?_)
       refine b_q 2 (by kernel_rfl) rfl (by kernel_rfl) (by kernel_rfl) (by kernel_rfl) (by kernel_rfl) ?_
       refine v_val F rfl (fun w l => r_nilCheckP F rfl (A2.go hB)) (fun a F => ?_)
       refine b_q 3 (by kernel_rfl) rfl (by kernel_rfl) (by kernel_rfl) (by kernel_rfl) (by kernel_rfl) ?_
       refine v_field (s' := 1) fa53_1 F rfl rfl (A2.go hB) RRel.f1 (fun a p752 b753 h754 s755 F => ?_)
       refine b_q 4 (by kernel_rfl) rfl (by kernel_rfl) (by kernel_rfl) (by kernel_rfl) (by kernel_rfl) ?_
       refine v_loadS (fun _ l => l) Try.isAgg26 F rfl rfl h754 (fun a v756 b757 h758 s759 F => ?_)
       refine b_q0 5 rfl (by kernel_rfl) (by kernel_rfl) (by kernel_rfl) ?_
       refine v_val F rfl (fun w l => r_move F rfl) (fun a F => ?_)
       refine b_q0 6 rfl (by kernel_rfl) (by kernel_rfl) (by kernel_rfl) ?_
       refine v_val F rfl (fun w l => r_move F rfl) (fun a F => ?_)
       refine b_q 7 (by kernel_rfl) rfl (by kernel_rfl) (by kernel_rfl) (by kernel_rfl) (by kernel_rfl) ?_
       obtain ⟨z760, c761, hR⟩ := bnd_some hR
       refine v_index Try.underlying27 Try.sizeOf2 F rfl rfl rfl h567.rd c761 (fun a p762 b763 h764 s765 F => ?_)
       refine b_q 8 (by kernel_rfl) rfl (by kernel_rfl) (by kernel_rfl) (by kernel_rfl) (by kernel_rfl) ?_
       have i766 := (h764).i64
       refine v_val F rfl (fun w l => r_loadI Try.isAgg2 F rfl ((h764).go l)) (fun a F => ?_)
       refine b_q 9 (by kernel_rfl) rfl (by kernel_rfl) (by kernel_rfl) (by kernel_rfl) (by kernel_rfl) ?_
       obtain ⟨z767, c768, hR⟩ := bnd_some hR
       refine v_index Try.underlying26 Try.sizeOf27 F rfl rfl rfl h758 c768 (fun a p769 b770 h771 s772 F => ?_)
       refine b_q 10 (by kernel_rfl) rfl (by kernel_rfl) (by kernel_rfl) (by kernel_rfl) (by kernel_rfl) ?_
       refine v_loadS (fun _ l => l) Try.isAgg27 F rfl rfl h771 (fun a v773 b774 h775 s776 F => ?_)
       refine b_e 11 rfl (by kernel_rfl) ?_
       refine o_lit1 (R := (RSl 1 RInt)) (y := z767) Try.underlying26 Try.sizeOf27 Try.zeroValue27 rfl (by decide) (by decide) F rfl rfl (El.sl h775) (fun a w v777 rb778 h779 l F => ?_)
       have d781 := Dj.new h29.rd.m h779.ownR (Nat.le_refl _)
       have d782 := Dj.new h567.rd.m h779.ownR (Nat.le_refl _)
       have d783 := Dj.new h722.rd.m h779.ownR (Nat.le_refl _)
       have d784 := Dj.new (inm1 K23) h779.ownR (Nat.le_refl _)
       have d785 := Dj.app' (Dj.new h29.memR h779.ownR (Nat.le_refl _)).symm (Dj.sub (Dj.sub (Dj.sub (Dj.sub (Dj.new A2.m h29.ownR (Nat.le_refl _)) s755) s759) s772) s776)
       have d786 := Dj.app' (Dj.new h567.memR h779.ownR (Nat.le_refl _)).symm (Dj.sub (Dj.sub (Dj.sub (Dj.sub (Dj.new A2.m h567.ownR (Nat.le_refl _)) s755) s759) s772) s776)
       have d787 := Dj.app' (Dj.new h722.memR h779.ownR (Nat.le_refl _)).symm (Dj.sub (Dj.sub (Dj.sub (Dj.sub (Dj.new A2.m h722.ownR (Nat.le_refl _)) s755) s759) s772) s776)
       have d788 := Dj.app' (Dj.symm d784) (Dj.sub (Dj.sub (Dj.sub (Dj.sub (dj1 A2.m CK23).symm s755) s759) s772) s776)
       replace h779 := h779.base hB.size
       replace hB := Below.through l hB
       replace h29 := h29.go l
       replace h567 := h567.go l
       replace h722 := h722.go l
       replace K23 := K23.thru l
       refine x_end ?_
       refine x_tn ?_
       refine ⟨.inl l, ?_⟩
       refine b_e 12 rfl (by kernel_rfl) ?_
       obtain ⟨z789, c790, hR⟩ := bnd_some hR
       refine o_append (sz := 1) (R := (RSl 1 RInt)) (z := ((.slice none 0 0))) (bytes := 24) Try.underlying26 (by kernel_rfl) rfl (by decide) (by decide) (by decide) F rfl rfl rfl h722 h779.src hB.size (Dj.symm d787.r) c790 (fun a w v791 rb792 h793 l keep F => ?_)
       have d795 := keep _ (inm1 K23) (Dj.symm (Dj.l d728))
       have d796 := keep _ h29.rd.m d729
       have d797 := keep _ h567.rd.m d731
       replace hB := hB.o l h722.lo hB.size
       replace h29 := h29.goO l d729
       replace h567 := h567.goO l d731
       replace K23 := K23.only l (Dj.symm (Dj.l d728)).not
       have d798 := Dj.app' (Dj.symm (Dj.l d796)) (Dj.app' (Dj.r d730) (Dj.r d785))
       have d799 := Dj.app' (Dj.symm (Dj.l d797)) (Dj.app' (Dj.r d732) (Dj.r d786))
       have d800 := Dj.app' (Dj.symm d795) (Dj.app' (Dj.r d728) (Dj.r d788))
       refine x_end ?_
       refine x_tn ?_
       refine ⟨.inr (by kernel_rfl), ?_⟩
       refine b_q0 13 rfl (by kernel_rfl) (by kernel_rfl) (by kernel_rfl) ?_
       refine v_val F rfl (fun w l => r_assign F rfl) (fun a F => ?_)
       refine b_end (by kernel_rfl) ?_
       refine x_bn ?_
       refine x_tn ?_
       refine x_reg ?_
       refine o_move F rfl rfl (fun a F => ?_)
       obtain ⟨z801, c802, hR⟩ := bnd_some hR
       refine o_add F rfl rfl rfl c802 (fun a F => ?_)
       refine o_assign F rfl rfl (fun a F => ?_)
       refine x_end ?_
       refine x_tn ?_
       replace hR := l_go hR hn717
       exact ⟨rest745, (by omega), z789, v791, rb792, (ib725 ++ b774), z801, hR, F.sub (sc rfl (sc rfl (sc rfl (sc rfl (sc rfl (sc rfl (sc rfl (sc rfl (sc rfl (sc rfl sn)))))))))), hB, h793, (ck64 c802), h29, h567, K23, d800, d796, d798, d797, d799⟩
      ·
       replace hR := ifF hb751 hR
       refine x_exit ?_
       refine x_te ?_
       refine x_te ?_
       replace hR := l_brk hR hn717
       refine x_be ?_
       refine x_tn ?_
       exact ⟨s720, v723, rb724, ib725, s726, (Option.some.inj hR).symm, F.sub (sc rfl (sc rfl (sc rfl (sc rfl (sc rfl (sc rfl (sc rfl (sc rfl sn)))))))), hB, h722, i727, h29, K23, d728, d729, d730⟩
    ·
     intro a w ⟨s733, v736, rb737, ib738, s739, ho716, F, hB, h735, i740, h29, K23, d741, d742, d743⟩
     subst ho716
     have hR := then_nx hk715
     refine x_tn ?_
     refine x_seq ?_
     refine x_reg ?_
     refine o_move F rfl rfl (fun a F => ?_)
     refine o_move F rfl rfl (fun a F => ?_)
     refine o_move F rfl rfl (fun a F => ?_)
     obtain ⟨z803, c804, hR⟩ := bnd_some hR
     refine o_gives F rfl Try.call36 rfl (spec_l02Make_c z803 c804 _ hx0 (A1.go hB) h735.rd) (fun a vv w l ⟨v805, rb806, hv809, h808⟩ F => ?_)
     subst vv
     have d811 := Dj.new h29.rd.m h808.ownR (Nat.le_refl _)
     have d812 := Dj.new h735.rd.m h808.ownR (Nat.le_refl _)
     have d813 := Dj.new (inm1 K23) h808.ownR (Nat.le_refl _)
     have d814 := Dj.app' (Dj.new h29.memR h808.ownR (Nat.le_refl _)).symm (Dj.nil' _)
     have d815 := Dj.app' (Dj.new h735.memR h808.ownR (Nat.le_refl _)).symm (Dj.nil' _)
     have d816 := Dj.app' (Dj.new h735.mem h808.ownR (Nat.le_refl _)).symm (Dj.nil' _)
     replace h808 := h808.base hB.size
     replace hB := Below.through l hB
     replace h29 := h29.go l
     replace h735 := h735.go l
     replace K23 := K23.thru l
     refine o_assign F rfl rfl (fun a F => ?_)
     refine x_end ?_
     refine x_tn ?_
     refine x_seq ?_
     refine x_draw (by kernel_rfl) (by kernel_rfl) ?_
     refine q_val F rfl (fun w l => r_move F rfl) (fun a F => ?_)
     refine q_val F rfl (fun w l => r_nilCheck F rfl) (fun a F => ?_)
     refine q_val F rfl (fun w l => r_bfield fa74_2 F rfl rfl) (fun a F => ?_)
     refine q_val F rfl (fun w l => r_load1 Try.isAgg72 F rfl (((K23.thru l).cell _).trans rfl)) (fun a F => ?_)
     refine q_val F rfl (fun w l => r_move F rfl) (fun a F => ?_)
     refine q_val F rfl (fun w l => r_move F rfl) (fun a F => ?_)
     obtain ⟨z817, c818, hR⟩ := bnd_some hR
     refine q_saysI F rfl Try.call37 rfl (fun w w' h l => l.through h) _ (Below.refl _ _) (fun w l => spec_l01Code_c z817 c818 w hx0 (h808.rd.go l)) (fun a iz817 F => ?_)
     obtain ⟨z819, c820, hR⟩ := bnd_some hR
     refine q_index Try.underlying72 Try.sizeOf4 F rfl rfl rfl h29.rd c820 (fun a p821 b822 h823 s824 F => ?_)
     refine q_val F rfl (fun w l => r_loadB Try.isAgg4 F rfl ((h823).go l)) (fun a F => ?_)
     refine q_val F rfl (fun w l => r_not F rfl) (fun a F => ?_)
     refine q_end (fun w l => ?_)
     replace hB := Below.through l hB
     replace h29 := h29.go l
     replace h735 := h735.go l
     replace h808 := h808.go l
     replace K23 := K23.thru l
     refine x_tn ?_
     refine x_if F rfl (fun hb825 => ?_) (fun hb825 => ?_)
     ·
      replace hR := ifT hb825 hR
      refine x_seq ?_
      refine x_reg ?_
      refine o_lit0 (R := (RSl 1 RInt)) Try.underlying26 Try.sizeOf27 F rfl (fun a w v826 rb827 h828 l F => ?_)
      have d830 := Dj.new h735.rd.m h828.ownR (Nat.le_refl _)
      have d831 := Dj.new h808.rd.m h828.ownR (Nat.le_refl _)
      have d832 := Dj.app' (Dj.new h29.memR h828.ownR (Nat.le_refl _)).symm (Dj.nil' _)
      have d833 := Dj.app' (Dj.new h735.memR h828.ownR (Nat.le_refl _)).symm (Dj.nil' _)
      have d834 := Dj.app' (Dj.new h735.mem h828.ownR (Nat.le_refl _)).symm (Dj.nil' _)
      have d835 := Dj.app' (Dj.new h808.memR h828.ownR (Nat.le_refl _)).symm (Dj.nil' _)
      replace h828 := h828.base hB.size
      replace hB := Below.through l hB
      replace h735 := h735.go l
      replace h808 := h808.go l
      refine o_assign F rfl rfl (fun a F => ?_)
      refine x_end ?_
      refine x_tn ?_
      refine x_seq ?_
      refine x_seq ?_
      refine x_reg ?_
      refine o_assign F rfl rfl (fun a F => ?_)
      refine x_end ?_
      refine x_tn ?_
      obtain ⟨o969, hR, hk970⟩ := thn_some hR
      refine x_cutQ (fun a w => ∃ (s988 : List (List Int)) (v991 : Value) (rb992 : List Nat) (ib993 : List Nat) (s995 : Int), o969 = .nx (s988, s995) ∧ Sk a 98 [(16, v805), (17, v991)] ∧ Below w0.heap.size w0 w ∧ Row 1 (RSl 1 RInt) 27 w0.heap.size w v991 s988 rb992 ib993 ∧ Own w0.heap.size ib993 w ∧ I64 s995 ∧ Row 1 RInt 2 w0.heap.size w v805 z803 rb806 ([]) ∧ Dj (rb806 ++ []) rb992 ∧ Dj (rb992 ++ ib993) rb806) ?_ ?_
      ·
       refine x_blk ?_
       obtain ⟨fl973, hf974, hR⟩ := whl_gen hR
       refine x_loop (fun g a w => ∃ (s975 : List (List Int)) (v978 : Value) (rb979 : List Nat) (ib980 : List Nat) (s982 : Int), whl fl973 g (s975, s982) = some o969 ∧ Sk a 98 [(14, v736), (16, v805), (17, v978), (18, .int .i64 s982)] ∧ Below w0.heap.size w0 w ∧ Row 1 (RSl 1 RInt) 27 w0.heap.size w v978 s975 rb979 ib980 ∧ Own w0.heap.size ib980 w ∧ I64 s982 ∧ Row 1 (RSl 1 RInt) 27 w0.heap.size w v736 s733 rb737 ib738 ∧ Row 1 RInt 2 w0.heap.size w v805 z803 rb806 ([]) ∧ Dj (rb737 ++ ib738) rb979 ∧ Dj (rb979 ++ ib980) rb737 ∧ Dj (rb806 ++ []) rb979 ∧ Dj (rb979 ++ ib980) rb806) N ?_ ?_
       ·
        exact ⟨[], v826, rb827, [], 0, hR, F.sub (sc rfl (sc rfl (sc rfl (sc rfl sn)))), hB, h828, (Own.nil _ _), (show I64 (0) by decide), h735, h808, d830, d833, d831, d835⟩
       ·
        intro g1002 a w ⟨s975, v978, rb979, ib980, s982, hR, F, hB, h977, ow981, i983, h735, h808, d984, d985, d986, d987⟩
        obtain ⟨ck999, rest1000, hg1004, hR, hn972⟩ := whl_round hR
        rw [hf974] at hR
        refine x_seq ?_
        refine x_seq ?_
        refine x_reg ?_
        refine o_move F rfl rfl (fun a F => ?_)
        refine o_move F rfl rfl (fun a F => ?_)
        refine o_len Try.underlying26 F rfl rfl h735.rd (fun a F => ?_)
        have i1005 := (h735.rd).r.len64
        refine o_lss F rfl rfl rfl (fun a F => ?_)
        refine x_end ?_
        refine x_tn ?_
        refine x_if F rfl (fun hb1006 => ?_) (fun hb1006 => ?_)
        ·
         replace hR := ifT hb1006 hR
         refine x_skip ?_
         refine x_tn ?_
         refine x_seq ?_
         refine x_blk ?_
         refine x_reg ?_
         refine o_move F rfl rfl (fun a F => ?_)
         refine o_move F rfl rfl (fun a F => ?_)
         refine o_move F rfl rfl (fun a F => ?_)
         obtain ⟨z1007, c1008, hR⟩ := bnd_some hR
         refine o_rindex Try.underlying26 Try.sizeOf27 F rfl rfl rfl h735 c1008 (fun a p1009 b1010 h1011 s1012 rp1013 F => ?_)
         refine o_loadS Try.isAgg27 F rfl rfl h1011 (fun a v1014 b1015 h1016 s1017 F => ?_)
         obtain ⟨z1018, c1019, hR⟩ := bnd_some hR
         refine o_gives F rfl Try.call38 rfl (spec_l00Own_c z1018 c1019 _ h1016) (fun a vv w l ⟨v1020, rb1021, hv1024, h1023⟩ F => ?_)
         subst vv
         have d1026 := Dj.new h735.rd.m h1023.ownR (Nat.le_refl _)
         have d1027 := Dj.new h808.rd.m h1023.ownR (Nat.le_refl _)
         have d1028 := Dj.new h977.rd.m h1023.ownR (Nat.le_refl _)
         have d1029 := Dj.app' (Dj.new h735.memR h1023.ownR (Nat.le_refl _)).symm (Dj.nil' _)
         have d1030 := Dj.app' (Dj.new h735.mem h1023.ownR (Nat.le_refl _)).symm (Dj.nil' _)
         have d1031 := Dj.app' (Dj.new h808.memR h1023.ownR (Nat.le_refl _)).symm (Dj.nil' _)
         have d1032 := Dj.app' (Dj.new h977.memR h1023.ownR (Nat.le_refl _)).symm (Dj.nil' _)
         have d1033 := Dj.app' (Dj.new h977.mem h1023.ownR (Nat.le_refl _)).symm (Dj.nil' _)
         replace h1023 := h1023.base hB.size
         replace hB := Below.through l hB
         replace h735 := h735.go l
         replace h808 := h808.go l
         replace h977 := h977.go l
         replace ow981 := ow981.go l
         refine o_lit1 (R := (RSl 1 RInt)) (y := z1018) Try.underlying26 Try.sizeOf27 Try.zeroValue27 rfl (by decide) (by decide) F rfl rfl (El.sl h1023.rd) (fun a w v1034 rb1035 h1036 l F => ?_)
         have ow1037 := Own.go (h1023.own (Own.nil _ _)) l
         have d1039 := Dj.new h735.rd.m h1036.ownR (Nat.le_refl _)
         have d1040 := Dj.new h808.rd.m h1036.ownR (Nat.le_refl _)
         have d1041 := Dj.new h977.rd.m h1036.ownR (Nat.le_refl _)
         have d1042 := Dj.app' (Dj.new h735.memR h1036.ownR (Nat.le_refl _)).symm d1029
         have d1043 := Dj.app' (Dj.new h735.mem h1036.ownR (Nat.le_refl _)).symm d1030
         have d1044 := Dj.app' (Dj.new h808.memR h1036.ownR (Nat.le_refl _)).symm d1031
         have d1045 := Dj.app' (Dj.new h977.memR h1036.ownR (Nat.le_refl _)).symm d1032
         have d1046 := Dj.app' (Dj.new h977.mem h1036.ownR (Nat.le_refl _)).symm d1033
         replace h1036 := h1036.base hB.size
         replace hB := Below.through l hB
         replace h735 := h735.go l
         replace h808 := h808.go l
         replace h977 := h977.go l
         replace ow981 := ow981.go l
         obtain ⟨z1047, c1048, hR⟩ := bnd_some hR
         refine o_append (sz := 1) (R := (RSl 1 RInt)) (z := ((.slice none 0 0))) (bytes := 24) Try.underlying26 (by kernel_rfl) rfl (by decide) (by decide) (by decide) F rfl rfl rfl h977 h1036.src hB.size (Dj.symm d1045.r) c1048 (fun a w v1049 rb1050 h1051 l keep F => ?_)
         have ow1052 := Own.append (Own.goO ow981 l h977.dj.symm) (Own.goO ow1037 l (Dj.symm (Dj.symm d1045.r))) (Dj.symm d1046.r)
         have d1054 := keep _ h735.rd.m d984
         have d1055 := keep _ h808.rd.m d986
         replace hB := hB.o l h977.lo hB.size
         replace h735 := h735.goO l d984
         replace h808 := h808.goO l d986
         have d1056 := Dj.app' (Dj.symm (Dj.l d1054)) (Dj.app' (Dj.r d985) (Dj.r d1042))
         have d1057 := Dj.app' (Dj.symm (Dj.l d1055)) (Dj.app' (Dj.r d987) (Dj.r d1044))
         refine o_assign F rfl rfl (fun a F => ?_)
         refine x_end ?_
         refine x_bn ?_
         refine x_tn ?_
         refine x_reg ?_
         refine o_move F rfl rfl (fun a F => ?_)
         obtain ⟨z1058, c1059, hR⟩ := bnd_some hR
         refine o_add F rfl rfl rfl c1059 (fun a F => ?_)
         refine o_assign F rfl rfl (fun a F => ?_)
         refine x_end ?_
         refine x_tn ?_
         replace hR := l_go hR hn972
         exact ⟨rest1000, (by omega), z1047, v1049, rb1050, (ib980 ++ (rb1021 ++ [])), z1058, hR, F.sub (sc rfl (sc rfl (sc rfl (sc rfl sn)))), hB, h1051, ow1052, (ck64 c1059), h735, h808, d1054, d1056, d1055, d1057⟩
        ·
         replace hR := ifF hb1006 hR
         refine x_exit ?_
         refine x_te ?_
         refine x_te ?_
         replace hR := l_brk hR hn972
         refine x_be ?_
         refine x_tn ?_
         exact ⟨s975, v978, rb979, ib980, s982, (Option.some.inj hR).symm, F.sub (sc rfl (sc rfl sn)), hB, h977, ow981, i983, h808, d986, d987⟩
      ·
       intro a w ⟨s988, v991, rb992, ib993, s995, ho971, F, hB, h990, ow994, i996, h808, d997, d998⟩
       subst ho971
       have hR := then_nx hk970
       refine x_tn ?_
       refine x_seq ?_
       refine x_reg ?_
       refine o_move F rfl rfl (fun a F => ?_)
       refine o_move F rfl rfl (fun a F => ?_)
       refine o_assign F rfl rfl (fun a F => ?_)
       refine o_assign F rfl rfl (fun a F => ?_)
       refine o_assign F rfl rfl (fun a F => ?_)
       refine x_end ?_
       refine x_tn ?_
       refine x_ret ?_
       refine x_br ?_
       refine x_tr ?_
       refine x_tr ?_
       replace hR := l_ret hR hn548
       refine x_br ?_
       refine x_tr ?_
       replace hR := j_ret hR hk546
       refine x_tr ?_
       refine x_res3 F rfl (rv_t F rfl) (rv_t F rfl) (rv_t F rfl) ?_
       obtain rfl := Option.some.inj hR
       exact ⟨_, rfl, hB, v991, rb992, ib993, v805, rb806, rfl, h990, ow994, h808, (Dj.app d998 (Dj.nil _))⟩
     ·
      replace hR := ifF hb825 hR
      refine x_skip ?_
      refine x_bn ?_
      refine x_tn ?_
      refine x_reg ?_
      refine o_move F rfl rfl (fun a F => ?_)
      refine o_inc F rfl rfl rfl ink551 (fun a F => ?_)
      refine o_assign F rfl rfl (fun a F => ?_)
      refine x_end ?_
      refine x_tn ?_
      replace hR := l_go hR hn548
      exact ⟨_, Nat.lt_succ_self _, k551 + 1, (by omega), hR, F.sub (sc rfl (sc rfl (sc rfl (sc rfl (sc rfl (sc rfl (sc rfl sn))))))), hB, h29, K23⟩
 ·
  intro a w ⟨ho547, F, hB⟩
  subst ho547
  have hR := then_nx hk546
  refine x_tn ?_
  refine x_seq ?_
  refine x_reg ?_
  refine o_lit0 (R := (RSl 1 RInt)) Try.underlying26 Try.sizeOf27 F rfl (fun a w v1060 rb1061 h1062 l F => ?_)
  replace h1062 := h1062.base hB.size
  replace hB := Below.through l hB
  refine o_lit0 (R := RInt) Try.underlying27 Try.sizeOf2 F rfl (fun a w v1064 rb1065 h1066 l F => ?_)
  have d1068 := Dj.new h1062.rd.m h1066.ownR (Nat.le_refl _)
  have d1069 := Dj.app' (Dj.new h1062.memR h1066.ownR (Nat.le_refl _)).symm (Dj.nil' _)
  replace h1066 := h1066.base hB.size
  replace hB := Below.through l hB
  replace h1062 := h1062.go l
  refine o_assign F rfl rfl (fun a F => ?_)
  refine o_assign F rfl rfl (fun a F => ?_)
  refine o_assign F rfl rfl (fun a F => ?_)
  refine x_end ?_
  refine x_tn ?_
  refine x_ret ?_
  refine x_res3 F rfl (rv_t F rfl) (rv_t F rfl) (rv_t F rfl) ?_
  obtain rfl := Option.some.inj hR
  exact ⟨_, rfl, hB, v1060, rb1061, [], v1064, rb1065, rfl, h1062, (Own.nil _ _), h1066, (Dj.app d1068 (Dj.nil _))⟩

def spec_l02Keeps (N : Nat) (x0 : Int) (x1 : Op) (x2 : Rel) : Option Bool :=
 bnd (spec_l02Breaks N x0 x1 x2) fun z11 =>
 some ((!z11.2.2))
set_option maxHeartbeats 1000000 in
theorem spec_l02Keeps_c {N : Nat} {x0 : Int} {x1 : Op} {x2 : Rel} (r : Bool) (hR : spec_l02Keeps N x0 x1 x2 = some r) {v1 : Value} {b1 : List Nat} {v2 : Value} {b2 : List Nat} (w0 : World) (hx0 : I64 x0) (A1 : Rd (Pt 2 ROp) w0 v1 x1 b1) (A2 : Rd (Pt 2 RRel) w0 v2 x2 b2) : Calls Try.prog 32 #[.int .i64 x0, v1, v2] w0 (Says (.bool r) w0) := by
 unfold spec_l02Keeps at hR
 refine x_enter (L := [(0, .int .i64 x0), (1, v1), (2, v2)]) Try.func32 rfl rfl rfl (sc rfl (sc rfl (sc rfl sn))) (fun a F => ?_)
 have hB := Below.refl w0.heap.size w0
 refine x_seq ?_
 refine x_reg ?_
 refine o_assign F rfl rfl (fun a F => ?_)
 refine x_end ?_
 refine x_tn ?_
 refine x_seq ?_
 refine x_reg ?_
 refine o_move F rfl rfl (fun a F => ?_)
 refine o_move F rfl rfl (fun a F => ?_)
 refine o_move F rfl rfl (fun a F => ?_)
 obtain ⟨z11, c12, hR⟩ := bnd_some hR
 refine o_gives F rfl Try.call20 rfl (spec_l02Breaks_c z11 c12 _ hx0 (A1.go hB) (A2.go hB)) (fun a vv w l ⟨v13, rb14, ib15, v18, rb19, hv22, h16, ow17, h21, dj23⟩ F => ?_)
 subst vv
 have o24 := h16.own ow17
 replace h16 := h16.base hB.size
 replace ow17 := ow17.mono hB.size
 replace h21 := h21.base hB.size
 replace hB := Below.through l hB
 refine o_move F rfl rfl (fun a F => ?_)
 refine o_extract F rfl rfl rfl (fun a F => ?_)
 refine o_extract F rfl rfl rfl (fun a F => ?_)
 refine o_extract F rfl rfl rfl (fun a F => ?_)
 refine o_assign F rfl rfl (fun a F => ?_)
 refine o_assign F rfl rfl (fun a F => ?_)
 refine o_assign F rfl rfl (fun a F => ?_)
 refine x_end ?_
 refine x_tn ?_
 refine x_seq ?_
 refine x_reg ?_
 refine o_move F rfl rfl (fun a F => ?_)
 refine o_not F rfl rfl (fun a F => ?_)
 refine o_assign F rfl rfl (fun a F => ?_)
 refine x_end ?_
 refine x_tn ?_
 refine x_ret ?_
 refine x_res1 F rfl (rv_t F rfl) ?_
 obtain rfl := Option.some.inj hR
 exact ⟨rfl, hB⟩

def spec_l02First (N : Nat) (x0 : Template) (x1 : Op) : Option Int :=
 thn (σ := Unit) (
  forL (σ := Unit) (ρ := Int) (fun (k55 : Nat) (x57 : Rel) (s : Unit) =>
    match s with
    | _ =>
    bnd (spec_l02Keeps N x0.size x1 x57) fun z87 =>
    if (!z87) then
     some (.ret ((k55 : Int)))
    else
     some (.go ())) x0.rels 0 ()) fun _ =>
 some ((-1))
set_option maxHeartbeats 1000000 in
theorem spec_l02First_c {N : Nat} {x0 : Template} {x1 : Op} (r : Int) (hR : spec_l02First N x0 x1 = some r) {v0 : Value} {b0 : List Nat} {v1 : Value} {b1 : List Nat} (w0 : World) (A0 : Rd (Pt 2 RTemplate) w0 v0 x0 b0) (A1 : Rd (Pt 2 ROp) w0 v1 x1 b1) : Calls Try.prog 19 #[v0, v1] w0 (SaysI r w0) := by
 unfold spec_l02First at hR
 refine x_enter (L := [(0, v0), (1, v1)]) Try.func19 rfl rfl rfl (sc rfl (sc rfl sn)) (fun a F => ?_)
 have hB := Below.refl w0.heap.size w0
 refine x_seq ?_
 refine x_reg ?_
 refine o_assign F rfl rfl (fun a F => ?_)
 refine x_end ?_
 refine x_tn ?_
 refine x_seq ?_
 refine x_seq ?_
 refine x_reg ?_
 refine o_assign F rfl rfl (fun a F => ?_)
 refine x_end ?_
 refine x_tn ?_
 obtain ⟨o49, hR, hk50⟩ := thn_some hR
 refine x_cutQ (fun a w => o49 = .nx () ∧ Sk a 29 [] ∧ Below w0.heap.size w0 w) ?_ ?_
 ·
  refine x_blk ?_
  obtain ⟨fl53, hf54, hR⟩ := forL_gen hR
  refine x_loop (fun g a w => ∃ (k55 : Nat) (rest56 : List Rel), (k55 ≤ x0.rels.length ∧ x0.rels.drop k55 = rest56) ∧ rest56.length = g ∧ forL fl53 rest56 k55 () = some o49 ∧ Sk a 29 [(5, .int .i64 (k55 : Int)), (0, v0), (1, v1)] ∧ Below w0.heap.size w0 w) x0.rels.length ?_ ?_
  ·
   exact ⟨0, x0.rels, ⟨Nat.zero_le _, rfl⟩, rfl, hR, F.sub (sc rfl (sc rfl (sc rfl sn))), hB⟩
  ·
   intro g58 a w ⟨k55, rest56, hd59, hg60, hR, F, hB⟩
   cases rest56 with
   | nil =>
    replace hR := forL_nil hR
    have hkk55 := drop_nil hd59.1 hd59.2
    have hlk55 := dec_no hkk55
    refine x_seq ?_
    refine x_seq ?_
    refine x_reg ?_
    refine o_move F rfl rfl (fun a F => ?_)
    refine o_move F rfl rfl (fun a F => ?_)
    refine o_nilCheckP F rfl rfl (A0.go hB) (fun a F => ?_)
    refine o_field (s' := 1) fa32_1 F rfl rfl (A0.go hB) RTemplate.f1 (fun a p90 b91 h92 s93 F => ?_)
    refine o_loadS Try.isAgg30 F rfl rfl h92 (fun a v94 b95 h96 s97 F => ?_)
    refine o_len Try.underlying30 F rfl rfl h96 (fun a F => ?_)
    have i98 := (h96).r.len64
    refine o_lss F rfl rfl rfl (fun a F => ?_)
    refine x_end ?_
    refine x_tn ?_
    refine x_ifF F rfl hlk55 ?_
    refine x_exit ?_
    refine x_te ?_
    refine x_te ?_
    refine x_be ?_
    refine x_tn ?_
    exact ⟨(Option.some.inj hR).symm, F.sub sn, hB⟩
   | cons x57 rest56 =>
    subst hg60
    replace hd59 := drop_cons hd59.2
    have hxk55 := ix_nat hd59.2.1
    obtain ⟨ck55, hR, hn52⟩ := forL_cons hR
    rw [hf54] at hR
    have hlk55 := dec_yes hd59.1
    refine x_seq ?_
    refine x_seq ?_
    refine x_reg ?_
    refine o_move F rfl rfl (fun a F => ?_)
    refine o_move F rfl rfl (fun a F => ?_)
    refine o_nilCheckP F rfl rfl (A0.go hB) (fun a F => ?_)
    refine o_field (s' := 1) fa32_1 F rfl rfl (A0.go hB) RTemplate.f1 (fun a p61 b62 h63 s64 F => ?_)
    refine o_loadS Try.isAgg30 F rfl rfl h63 (fun a v65 b66 h67 s68 F => ?_)
    refine o_len Try.underlying30 F rfl rfl h67 (fun a F => ?_)
    have i69 := (h67).r.len64
    refine o_lss F rfl rfl rfl (fun a F => ?_)
    refine x_end ?_
    refine x_tn ?_
    refine x_ifT F rfl hlk55 ?_
    refine x_skip ?_
    refine x_tn ?_
    refine x_seq ?_
    have ikk55 := k64 (Nat.le_of_lt hd59.1) i69
    have ink55 := inc64 hd59.1 i69
    refine x_blk ?_
    refine x_seq ?_
    refine x_draw (by kernel_rfl) (by kernel_rfl) ?_
    refine q_val F rfl (fun w l => r_move F rfl) (fun a F => ?_)
    refine q_val F rfl (fun w l => r_nilCheckP F rfl (A0.go hB)) (fun a F => ?_)
    refine q_field (s' := 1) fa32_0 F rfl rfl (A0.go hB) RTemplate.f0 (fun a p70 b71 h72 s73 F => ?_)
    have i74 := (h72).i64
    refine q_val F rfl (fun w l => r_loadI Try.isAgg2 F rfl ((h72).go l)) (fun a F => ?_)
    refine q_val F rfl (fun w l => r_move F rfl) (fun a F => ?_)
    refine q_val F rfl (fun w l => r_move F rfl) (fun a F => ?_)
    refine q_val F rfl (fun w l => r_nilCheckP F rfl (A0.go hB)) (fun a F => ?_)
    refine q_field (s' := 1) fa32_1 F rfl rfl (A0.go hB) RTemplate.f1 (fun a p75 b76 h77 s78 F => ?_)
    refine q_loadS (fun _ l => l) Try.isAgg30 F rfl rfl h77 (fun a v79 b80 h81 s82 F => ?_)
    refine q_val F rfl (fun w l => r_move F rfl) (fun a F => ?_)
    refine q_index Try.underlying30 Try.sizeOf53 F rfl rfl rfl h81 hxk55 (fun a p83 b84 h85 s86 F => ?_)
    obtain ⟨z87, c88, hR⟩ := bnd_some hR
    refine q_says F rfl Try.call32 rfl (fun w w' h l => l.through h) (fun w l => spec_l02Keeps_c z87 c88 w i74 (((A1.go hB)).go l) (h85.go l)) (fun a F => ?_)
    refine q_val F rfl (fun w l => r_not F rfl) (fun a F => ?_)
    refine q_end (fun w l => ?_)
    replace hB := Below.through l hB
    refine x_tn ?_
    refine x_if F rfl (fun hb89 => ?_) (fun hb89 => ?_)
    ·
     replace hR := ifT hb89 hR
     refine x_seq ?_
     refine x_reg ?_
     refine o_move F rfl rfl (fun a F => ?_)
     refine o_assign F rfl rfl (fun a F => ?_)
     refine x_end ?_
     refine x_tn ?_
     refine x_ret ?_
     refine x_br ?_
     refine x_tr ?_
     refine x_tr ?_
     replace hR := l_ret hR hn52
     refine x_br ?_
     refine x_tr ?_
     replace hR := j_ret hR hk50
     refine x_tr ?_
     refine x_res1 F rfl (rv_t F rfl) ?_
     obtain rfl := Option.some.inj hR
     exact ⟨⟨rfl, hB⟩, ikk55⟩
    ·
     replace hR := ifF hb89 hR
     refine x_skip ?_
     refine x_bn ?_
     refine x_tn ?_
     refine x_reg ?_
     refine o_move F rfl rfl (fun a F => ?_)
     refine o_inc F rfl rfl rfl ink55 (fun a F => ?_)
     refine o_assign F rfl rfl (fun a F => ?_)
     refine x_end ?_
     refine x_tn ?_
     replace hR := l_go hR hn52
     exact ⟨_, Nat.lt_succ_self _, k55 + 1, rest56, ⟨hd59.1, hd59.2.2⟩, rfl, hR, F.sub (sc rfl (sc rfl (sc rfl sn))), hB⟩
 ·
  intro a w ⟨ho51, F, hB⟩
  subst ho51
  have hR := then_nx hk50
  refine x_tn ?_
  refine x_seq ?_
  refine x_reg ?_
  refine o_assign F rfl rfl (fun a F => ?_)
  refine x_end ?_
  refine x_tn ?_
  refine x_ret ?_
  refine x_res1 F rfl (rv_t F rfl) ?_
  obtain rfl := Option.some.inj hR
  exact ⟨⟨rfl, hB⟩, (show I64 (-1) by decide)⟩

def impl_made (x0 : Int) (x1 : Op) (x2 : List (List Int)) : Option (List Int) :=
 bnd (ix x2 0) fun z20 =>
 bnd (mkz (0 : Int) (z20.length : Int)) fun z31 =>
 thn (σ := (List Int)) (
  forL (σ := (List Int)) (ρ := (List Int)) (fun (k217 : Nat) (x219 : Int) (s205 : (List Int)) =>
   thn (σ := Int) (
    forL (σ := Int) (ρ := (Ctl ((List Int)) (List Int))) (fun (k255 : Nat) (x257 : (List Int)) (s251 : Int) =>
     bnd (ck (s251 * x0)) fun z269 =>
     bnd (ix x257 (k217 : Int)) fun z271 =>
     bnd (ck (z269 + z271)) fun z278 =>
     some (.go z278)) x2 0 0) fun s253 =>
   bnd (ix x1.table s253) fun z280 =>
   bnd (ix s205 (k217 : Int)) fun z287 =>
   some (.go (s205.set ((k217 : Int)).toNat z280))) z31 0 z31) fun s212 =>
 some s212
set_option maxHeartbeats 1000000 in
theorem impl_made_c {x0 : Int} {x1 : Op} {x2 : List (List Int)} (r : (List Int)) (hR : impl_made x0 x1 x2 = some r) {v1 : Value} {b1 : List Nat} {v2 : Value} {b2 : List Nat} (w0 : World) (hx0 : I64 x0) (A1 : Rd (Agg 2 ROp) w0 v1 x1 b1) (A2 : Rd (Sl 1 (RSl 1 RInt)) w0 v2 x2 b2) : Calls Try.prog 49 #[.int .i64 x0, v1, v2] w0 (Gives (fun v w' => ∃ (v1' : Value) (rb2' : List Nat), v = v1' ∧ Row 1 RInt 2 w0.heap.size w' v1' r rb2' []) w0) := by
 unfold impl_made at hR
 refine x_enter (L := [(0, .int .i64 x0), (1, v1), (2, v2)]) Try.func49 rfl rfl rfl (sc rfl (sc rfl (sc rfl sn))) (fun a F => ?_)
 have hB := Below.refl w0.heap.size w0
 refine x_seq ?_
 refine x_reg ?_
 obtain ⟨v15, b16, e18, i14, h17, eb13⟩ := ROp.rd (A1.go hB)
 subst e18
 refine o_box F rfl rfl rfl (fun a w b11 K12 l BK12 F => ?_)
 have d19 := (dj1 h17.m BK12).symm
 have CK12 := Nat.le_trans hB.size BK12
 replace hB := Below.through l hB
 replace h17 := h17.go l
 refine o_assign F rfl rfl (fun a F => ?_)
 refine x_end ?_
 refine x_tn ?_
 refine x_seq ?_
 refine x_reg ?_
 refine o_move F rfl rfl (fun a F => ?_)
 obtain ⟨z20, c21, hR⟩ := bnd_some hR
 refine o_index Try.underlying26 Try.sizeOf27 F rfl rfl rfl (A2.go hB) c21 (fun a p22 b23 h24 s25 F => ?_)
 refine o_loadS Try.isAgg27 F rfl rfl h24 (fun a v26 b27 h28 s29 F => ?_)
 refine o_len Try.underlying27 F rfl rfl h28 (fun a F => ?_)
 have i30 := (h28).r.len64
 obtain ⟨z31, c32, hR⟩ := bnd_some hR
 refine o_make (sz := 1) (R := RInt) (z := (.int .i64 0)) (bytes := 8) Try.underlying27 (by kernel_rfl) rfl (by decide) (by decide) (fun w => ⟨rfl, by decide, rfl⟩) F rfl rfl rfl c32 (fun a w v33 rb34 h35 l F => ?_)
 have d37 := Dj.new h17.m h35.ownR (Nat.le_refl _)
 have d38 := Dj.new (inm1 K12) h35.ownR (Nat.le_refl _)
 replace h35 := h35.base hB.size
 replace hB := Below.through l hB
 replace h17 := h17.go l
 replace K12 := K12.thru l
 refine o_assign F rfl rfl (fun a F => ?_)
 refine x_end ?_
 refine x_tn ?_
 refine x_seq ?_
 refine x_seq ?_
 refine x_reg ?_
 refine o_move F rfl rfl (fun a F => ?_)
 refine o_len Try.underlying27 F rfl rfl h35.rd (fun a F => ?_)
 have i39 := (h35.rd).r.len64
 refine o_move F rfl rfl (fun a F => ?_)
 refine x_end ?_
 refine x_tn ?_
 obtain ⟨o199, hR, hk200⟩ := thn_some hR
 refine x_cutQ (fun a w => ∃ (s212 : List Int) (v215 : Value) (rb216 : List Nat), o199 = .nx s212 ∧ Sk a 47 [(7, v215)] ∧ Below w0.heap.size w0 w ∧ Row 1 RInt 2 w0.heap.size w v215 s212 rb216 ([])) ?_ ?_
 ·
  refine x_blk ?_
  obtain ⟨fl203, hf204, hR⟩ := forL_gen hR
  refine x_loop (fun g a w => ∃ (k217 : Nat) (rest218 : List Int) (s205 : List Int) (v208 : Value) (rb209 : List Nat), (k217 ≤ z31.length ∧ z31.drop k217 = rest218) ∧ rest218.length = g ∧ forL fl203 rest218 k217 s205 = some o199 ∧ Sk a 47 [(19, .int .i64 (k217 : Int)), (0, .int .i64 x0), (2, v2), (4, .pointer (some ⟨b11, 0, none⟩)), (7, v208), (18, .int .i64 (z31.length : Int))] ∧ Below w0.heap.size w0 w ∧ Row 1 RInt 2 w0.heap.size w v208 s205 rb209 ([]) ∧ Rd (Sl 1 RInt) w v15 x1.table b16 ∧ Blk w b11 #[.int .i64 x1.arity, v15] 45 ∧ Dj b16 rb209 ∧ Dj (rb209 ++ []) [b11]) z31.length ?_ ?_
  ·
   exact ⟨0, z31, z31, v33, rb34, ⟨Nat.zero_le _, rfl⟩, rfl, hR, F.sub (sc rfl (sc rfl (sc rfl (sc rfl (sc rfl (sc rfl sn)))))), hB, h35, h17, K12, d37, (Dj.app' (Dj.symm d38) (Dj.nil' _))⟩
  ·
   intro g220 a w ⟨k217, rest218, s205, v208, rb209, hd221, hg222, hR, F, hB, h207, h17, K12, d210, d211⟩
   cases rest218 with
   | nil =>
    replace hR := forL_nil hR
    have hkk217 := drop_nil hd221.1 hd221.2
    have hlk217 := dec_no hkk217
    refine x_seq ?_
    refine x_reg ?_
    refine o_lss F rfl rfl rfl (fun a F => ?_)
    refine x_end ?_
    refine x_tn ?_
    refine x_seq ?_
    refine x_ifF F rfl hlk217 ?_
    refine x_exit ?_
    refine x_te ?_
    refine x_te ?_
    refine x_be ?_
    refine x_tn ?_
    exact ⟨s205, v208, rb209, (Option.some.inj hR).symm, F.sub (sc rfl sn), hB, h207⟩
   | cons x219 rest218 =>
    subst hg222
    replace hd221 := drop_cons hd221.2
    have hxk217 := ix_nat hd221.2.1
    obtain ⟨ck217, hR, hn202⟩ := forL_cons hR
    rw [hf204] at hR
    have hlk217 := dec_yes hd221.1
    refine x_seq ?_
    refine x_reg ?_
    refine o_lss F rfl rfl rfl (fun a F => ?_)
    refine x_end ?_
    refine x_tn ?_
    refine x_seq ?_
    refine x_ifT F rfl hlk217 ?_
    refine x_skip ?_
    refine x_tn ?_
    refine x_seq ?_
    have ikk217 := k64 (Nat.le_of_lt hd221.1) i39
    have ink217 := inc64 hd221.1 i39
    refine x_blk ?_
    refine x_seq ?_
    refine x_reg ?_
    refine o_move F rfl rfl (fun a F => ?_)
    refine o_assign F rfl rfl (fun a F => ?_)
    refine x_end ?_
    refine x_tn ?_
    refine x_seq ?_
    refine x_reg ?_
    refine o_assign F rfl rfl (fun a F => ?_)
    refine x_end ?_
    refine x_tn ?_
    refine x_seq ?_
    refine x_seq ?_
    refine x_reg ?_
    refine o_move F rfl rfl (fun a F => ?_)
    refine o_len Try.underlying26 F rfl rfl (A2.go hB) (fun a F => ?_)
    have i223 := ((A2.go hB)).r.len64
    refine o_move F rfl rfl (fun a F => ?_)
    refine x_end ?_
    refine x_tn ?_
    obtain ⟨o245, hR, hk246⟩ := thn_some hR
    refine x_cutQ (fun a w => ∃ (s253 : Int), o245 = .nx s253 ∧ Sk a 47 [(0, .int .i64 x0), (2, v2), (4, .pointer (some ⟨b11, 0, none⟩)), (7, v208), (8, .int .i64 (k217 : Int)), (9, .int .i64 s253), (18, .int .i64 (z31.length : Int)), (19, .int .i64 (k217 : Int))] ∧ Below w0.heap.size w0 w ∧ I64 s253 ∧ Rd (Sl 1 RInt) w v15 x1.table b16 ∧ Row 1 RInt 2 w0.heap.size w v208 s205 rb209 ([]) ∧ Blk w b11 #[.int .i64 x1.arity, v15] 45) ?_ ?_
    ·
     refine x_blk ?_
     obtain ⟨fl249, hf250, hR⟩ := forL_gen hR
     refine x_loop (fun g a w => ∃ (k255 : Nat) (rest256 : List (List Int)) (s251 : Int), (k255 ≤ x2.length ∧ x2.drop k255 = rest256) ∧ rest256.length = g ∧ forL fl249 rest256 k255 s251 = some o245 ∧ Sk a 47 [(24, .int .i64 (k255 : Int)), (0, .int .i64 x0), (2, v2), (4, .pointer (some ⟨b11, 0, none⟩)), (7, v208), (8, .int .i64 (k217 : Int)), (9, .int .i64 s251), (18, .int .i64 (z31.length : Int)), (19, .int .i64 (k217 : Int)), (22, v2), (23, .int .i64 (x2.length : Int))] ∧ Below w0.heap.size w0 w ∧ I64 s251 ∧ Rd (Sl 1 RInt) w v15 x1.table b16 ∧ Row 1 RInt 2 w0.heap.size w v208 s205 rb209 ([]) ∧ Blk w b11 #[.int .i64 x1.arity, v15] 45) x2.length ?_ ?_
     ·
      exact ⟨0, x2, 0, ⟨Nat.zero_le _, rfl⟩, rfl, hR, F.sub (sc rfl (sc rfl (sc rfl (sc rfl (sc rfl (sc rfl (sc rfl (sc rfl (sc rfl (sc rfl (sc rfl sn))))))))))), hB, (show I64 (0) by decide), h17, h207, K12⟩
     ·
      intro g258 a w ⟨k255, rest256, s251, hd259, hg260, hR, F, hB, i252, h17, h207, K12⟩
      cases rest256 with
      | nil =>
       replace hR := forL_nil hR
       have hkk255 := drop_nil hd259.1 hd259.2
       have hlk255 := dec_no hkk255
       refine x_seq ?_
       refine x_reg ?_
       refine o_lss F rfl rfl rfl (fun a F => ?_)
       refine x_end ?_
       refine x_tn ?_
       refine x_seq ?_
       refine x_ifF F rfl hlk255 ?_
       refine x_exit ?_
       refine x_te ?_
       refine x_te ?_
       refine x_be ?_
       refine x_tn ?_
       exact ⟨s251, (Option.some.inj hR).symm, F.sub (sc rfl (sc rfl (sc rfl (sc rfl (sc rfl (sc rfl (sc rfl (sc rfl sn)))))))), hB, i252, h17, h207, K12⟩
      | cons x257 rest256 =>
       subst hg260
       replace hd259 := drop_cons hd259.2
       have hxk255 := ix_nat hd259.2.1
       obtain ⟨ck255, hR, hn248⟩ := forL_cons hR
       rw [hf250] at hR
       have hlk255 := dec_yes hd259.1
       refine x_seq ?_
       refine x_reg ?_
       refine o_lss F rfl rfl rfl (fun a F => ?_)
       refine x_end ?_
       refine x_tn ?_
       refine x_seq ?_
       refine x_ifT F rfl hlk255 ?_
       refine x_skip ?_
       refine x_tn ?_
       refine x_seq ?_
       have ikk255 := k64 (Nat.le_of_lt hd259.1) i223
       have ink255 := inc64 hd259.1 i223
       refine x_blk ?_
       refine x_seq ?_
       refine x_reg ?_
       refine o_index Try.underlying26 Try.sizeOf27 F rfl rfl rfl (A2.go hB) hxk255 (fun a p261 b262 h263 s264 F => ?_)
       refine o_loadS Try.isAgg27 F rfl rfl h263 (fun a v265 b266 h267 s268 F => ?_)
       refine o_assign F rfl rfl (fun a F => ?_)
       refine x_end ?_
       refine x_tn ?_
       refine x_reg ?_
       refine o_move F rfl rfl (fun a F => ?_)
       refine o_move F rfl rfl (fun a F => ?_)
       obtain ⟨z269, c270, hR⟩ := bnd_some hR
       refine o_mul F rfl rfl rfl c270 (fun a F => ?_)
       refine o_move F rfl rfl (fun a F => ?_)
       refine o_move F rfl rfl (fun a F => ?_)
       obtain ⟨z271, c272, hR⟩ := bnd_some hR
       refine o_index Try.underlying27 Try.sizeOf2 F rfl rfl rfl h267 c272 (fun a p273 b274 h275 s276 F => ?_)
       have i277 := (h275).i64
       refine o_loadI Try.isAgg2 F rfl rfl h275 (fun a F => ?_)
       obtain ⟨z278, c279, hR⟩ := bnd_some hR
       refine o_add F rfl rfl rfl c279 (fun a F => ?_)
       refine o_assign F rfl rfl (fun a F => ?_)
       refine x_end ?_
       refine x_bn ?_
       refine x_tn ?_
       refine x_reg ?_
       refine o_inc F rfl rfl rfl ink255 (fun a F => ?_)
       refine o_move F rfl rfl (fun a F => ?_)
       refine x_end ?_
       refine x_tn ?_
       replace hR := l_go hR hn248
       exact ⟨_, Nat.lt_succ_self _, k255 + 1, rest256, z278, ⟨hd259.1, hd259.2.2⟩, rfl, hR, F.sub (sc rfl (sc rfl (sc rfl (sc rfl (sc rfl (sc rfl (sc rfl (sc rfl (sc rfl (sc rfl (sc rfl sn))))))))))), hB, (ck64 c279), h17, h207, K12⟩
    ·
     intro a w ⟨s253, ho247, F, hB, i254, h17, h207, K12⟩
     subst ho247
     have hR := then_nx hk246
     refine x_tn ?_
     refine x_reg ?_
     refine o_move F rfl rfl (fun a F => ?_)
     refine o_move F rfl rfl (fun a F => ?_)
     refine o_bfield fa45_1 F rfl rfl rfl (fun a F => ?_)
     refine o_bload Try.isAgg27 F rfl rfl K12 rfl (fun a F => ?_)
     refine o_move F rfl rfl (fun a F => ?_)
     obtain ⟨z280, c281, hR⟩ := bnd_some hR
     refine o_index Try.underlying27 Try.sizeOf2 F rfl rfl rfl h17 c281 (fun a p282 b283 h284 s285 F => ?_)
     have i286 := (h284).i64
     refine o_loadI Try.isAgg2 F rfl rfl h284 (fun a F => ?_)
     obtain ⟨z287, c288, hR⟩ := bnd_some hR
     refine o_rindex Try.underlying27 Try.sizeOf2 F rfl rfl rfl h207 c288 (fun a p289 b290 h291 s292 rp293 F => ?_)
     refine o_rstore Try.sizeOf2 F rfl rfl rfl h207 rp293 (ix_lt c288) (El.int i286) rfl (Dj.nil _) (fun w ib295 h294 l s296 keep => ?_)
     obtain rfl : ib295 = [] := sub_nil_nil s296
     have d298 := keep _ h17.m d210
     have d299 := keep _ (inm1 K12) (Dj.symm (Dj.l d211))
     replace hB := hB.o l h207.lo hB.size
     replace h17 := h17.goO l d210
     replace K12 := K12.only l (Dj.symm (Dj.l d211)).not
     refine x_end ?_
     refine x_bn ?_
     refine x_tn ?_
     refine x_reg ?_
     refine o_inc F rfl rfl rfl ink217 (fun a F => ?_)
     refine o_move F rfl rfl (fun a F => ?_)
     refine x_end ?_
     refine x_tn ?_
     replace hR := l_go hR hn202
     exact ⟨_, Nat.lt_succ_self _, k217 + 1, rest218, (s205.set ((k217 : Int)).toNat z280), v208, rb209, ⟨hd221.1, hd221.2.2⟩, rfl, hR, F.sub (sc rfl (sc rfl (sc rfl (sc rfl (sc rfl (sc rfl sn)))))), hB, h294, h17, K12, d298, (Dj.app' (Dj.symm d299) (Dj.nil' _))⟩
 ·
  intro a w ⟨s212, v215, rb216, ho201, F, hB, h214⟩
  subst ho201
  have hR := then_nx hk200
  refine x_tn ?_
  refine x_seq ?_
  refine x_reg ?_
  refine o_move F rfl rfl (fun a F => ?_)
  refine o_assign F rfl rfl (fun a F => ?_)
  refine x_end ?_
  refine x_tn ?_
  refine x_ret ?_
  refine x_res1 F rfl (rv_t F rfl) ?_
  obtain rfl := Option.some.inj hR
  exact ⟨_, rfl, hB, v215, rb216, rfl, h214⟩

def impl_broken (N : Nat) (x0 : Int) (x1 : Op) (x2 : Rel) : Option ((List (List Int)) × (List Int)) :=
 bnd (impl_power x0 x2.arity) fun z32 =>
 if ((x2.tuples.length : Int) == z32) then
  some ([], [])
 else
  bnd (mkz (false : Bool) z32) fun z35 =>
  thn (σ := (List Bool)) (
   forL (σ := (List Bool)) (ρ := (List (List Int)) × (List Int)) (fun (k129 : Nat) (x131 : (List Int)) (s111 : (List Bool)) =>
    bnd (impl_indexOf x0 x131) fun z143 =>
    bnd (ix s111 z143) fun z145 =>
    some (.go (s111.set (z143).toNat true))) x2.tuples 0 z35) fun s120 =>
  bnd (impl_power (x2.tuples.length : Int) x1.arity) fun z160 =>
  thn (σ := Unit) (
   forI (σ := Unit) (ρ := (List (List Int)) × (List Int)) (fun (k434 : Nat) (s : Unit) =>
     match s with
     | _ =>
     bnd (impl_listOf N (x2.tuples.length : Int) x1.arity (k434 : Int)) fun z450 =>
     thn (σ := (List (List Int))) (
      forL (σ := (List (List Int))) (ρ := (Ctl (Unit) ((List (List Int)) × (List Int)))) (fun (k622 : Nat) (x624 : Int) (s596 : (List (List Int))) =>
       bnd (ix x2.tuples x624) fun z634 =>
       bnd (ap s596 ([z634])) fun z660 =>
       some (.go z660)) z450 0 []) fun s610 =>
     bnd (impl_made x0 (Op.mk x1.arity x1.table) s610) fun z677 =>
     bnd (impl_indexOf x0 z677) fun z694 =>
     bnd (ix s120 z694) fun z696 =>
     if (!z696) then
      bnd (nev z677) fun z704 =>
      some (.ret (s610, z677))
     else
      some (.go ())) z160.toNat 0 ()) fun _ =>
  some ([], [])
set_option maxHeartbeats 1000000 in
theorem impl_broken_c {N : Nat} {x0 : Int} {x1 : Op} {x2 : Rel} (r : (List (List Int)) × (List Int)) (hR : impl_broken N x0 x1 x2 = some r) {v1 : Value} {b1 : List Nat} {v2 : Value} {b2 : List Nat} (w0 : World) (hx0 : I64 x0) (A1 : Rd (Agg 2 ROp) w0 v1 x1 b1) (A2 : Rd (Agg 2 RRel) w0 v2 x2 b2) : Calls Try.prog 25 #[.int .i64 x0, v1, v2] w0 (Gives (fun v w' => ∃ (v1' : Value) (rb2' : List Nat) (ib3' : List Nat) (v4' : Value) (rb5' : List Nat), v = .tuple #[v1', v4'] ∧ Row 1 (RSl 1 RInt) 27 w0.heap.size w' v1' r.1 rb2' ib3' ∧ Row 1 RInt 2 w0.heap.size w' v4' r.2 rb5' [] ∧ (r.2 = [] → v4' = .slice none 0 0) ∧ Dj (rb2' ++ ib3') (rb5' ++ [])) w0) := by
 unfold impl_broken at hR
 refine x_enter (L := [(0, .int .i64 x0), (1, v1), (2, v2)]) Try.func25 rfl rfl rfl (sc rfl (sc rfl (sc rfl sn))) (fun a F => ?_)
 have hB := Below.refl w0.heap.size w0
 refine x_seq ?_
 refine x_reg ?_
 obtain ⟨v15, b16, e18, i14, h17, eb13⟩ := ROp.rd (A1.go hB)
 subst e18
 refine o_box F rfl rfl rfl (fun a w b11 K12 l BK12 F => ?_)
 have d19 := (dj1 h17.m BK12).symm
 have CK12 := Nat.le_trans hB.size BK12
 replace hB := Below.through l hB
 replace h17 := h17.go l
 obtain ⟨v24, b25, e27, i23, h26, eb22⟩ := RRel.rd (A2.go hB)
 subst e27
 refine o_box F rfl rfl rfl (fun a w b20 K21 l BK21 F => ?_)
 have nb28 := Dj.bb K12 BK21
 have d29 := (dj1 h17.m BK21).symm
 have d30 := (dj1 h26.m BK21).symm
 have CK21 := Nat.le_trans hB.size BK21
 replace hB := Below.through l hB
 replace h17 := h17.go l
 replace h26 := h26.go l
 replace K12 := K12.thru l
 refine o_assign F rfl rfl (fun a F => ?_)
 refine o_assign F rfl rfl (fun a F => ?_)
 refine x_end ?_
 refine x_tn ?_
 refine x_seq ?_
 refine x_reg ?_
 refine o_bfield fa53_1 F rfl rfl rfl (fun a F => ?_)
 refine o_bload Try.isAgg26 F rfl rfl K21 rfl (fun a F => ?_)
 refine o_len Try.underlying26 F rfl rfl h26 (fun a F => ?_)
 have i31 := (h26).r.len64
 refine o_assign F rfl rfl (fun a F => ?_)
 refine x_end ?_
 refine x_tn ?_
 refine x_seq ?_
 refine x_seq ?_
 refine x_reg ?_
 refine o_move F rfl rfl (fun a F => ?_)
 refine o_move F rfl rfl (fun a F => ?_)
 refine o_bfield fa53_0 F rfl rfl rfl (fun a F => ?_)
 refine o_bload Try.isAgg2 F rfl rfl K21 rfl (fun a F => ?_)
 obtain ⟨z32, c33, hR⟩ := bnd_some hR
 refine o_saysI F rfl Try.call46 rfl (impl_power_c z32 c33 _ hx0 i23) (fun a w l iz32 F => ?_)
 replace hB := Below.through l hB
 replace h17 := h17.go l
 replace h26 := h26.go l
 replace K12 := K12.thru l
 replace K21 := K21.thru l
 refine o_eql F rfl rfl rfl (fun a F => ?_)
 refine x_end ?_
 refine x_tn ?_
 refine x_if F rfl (fun hb34 => ?_) (fun hb34 => ?_)
 ·
  replace hR := ifT hb34 hR
  refine x_seq ?_
  refine x_reg ?_
  refine o_assign F rfl rfl (fun a F => ?_)
  refine o_assign F rfl rfl (fun a F => ?_)
  refine x_end ?_
  refine x_tn ?_
  refine x_ret ?_
  refine x_tr ?_
  refine x_res2 F rfl (rv_t F rfl) (rv_t F rfl) ?_
  obtain rfl := Option.some.inj hR
  exact ⟨_, rfl, hB, (.slice none 0 0), [], [], (.slice none 0 0), [], rfl, Row.nil 1 (RSl 1 RInt) 27 _ _, Row.nil 1 RInt 2 _ _, (fun _ => rfl), (Dj.nil' _)⟩
 ·
  replace hR := ifF hb34 hR
  refine x_skip ?_
  refine x_tn ?_
  refine x_seq ?_
  refine x_reg ?_
  refine o_move F rfl rfl (fun a F => ?_)
  refine o_bfield fa53_0 F rfl rfl rfl (fun a F => ?_)
  refine o_bload Try.isAgg2 F rfl rfl K21 rfl (fun a F => ?_)
  refine o_saysI F rfl Try.call46 rfl (impl_power_c z32 c33 _ hx0 i23) (fun a w l iz32 F => ?_)
  replace hB := Below.through l hB
  replace h17 := h17.go l
  replace h26 := h26.go l
  replace K12 := K12.thru l
  replace K21 := K21.thru l
  obtain ⟨z35, c36, hR⟩ := bnd_some hR
  refine o_make (sz := 1) (R := RBool) (z := (.bool false)) (bytes := 1) Try.underlying72 (by kernel_rfl) rfl (by decide) (by decide) (fun w => ⟨rfl, rfl⟩) F rfl rfl rfl c36 (fun a w v37 rb38 h39 l F => ?_)
  have d41 := Dj.new h17.m h39.ownR (Nat.le_refl _)
  have d42 := Dj.new h26.m h39.ownR (Nat.le_refl _)
  have d43 := Dj.new (inm1 K12) h39.ownR (Nat.le_refl _)
  have d44 := Dj.new (inm1 K21) h39.ownR (Nat.le_refl _)
  replace h39 := h39.base hB.size
  replace hB := Below.through l hB
  replace h17 := h17.go l
  replace h26 := h26.go l
  replace K12 := K12.thru l
  replace K21 := K21.thru l
  refine o_assign F rfl rfl (fun a F => ?_)
  refine x_end ?_
  refine x_tn ?_
  refine x_seq ?_
  refine x_seq ?_
  refine x_reg ?_
  refine o_bfield fa53_1 F rfl rfl rfl (fun a F => ?_)
  refine o_bload Try.isAgg26 F rfl rfl K21 rfl (fun a F => ?_)
  refine o_len Try.underlying26 F rfl rfl h26 (fun a F => ?_)
  have i45 := (h26).r.len64
  refine o_move F rfl rfl (fun a F => ?_)
  refine x_end ?_
  refine x_tn ?_
  obtain ⟨o105, hR, hk106⟩ := thn_some hR
  refine x_cutQ (fun a w => ∃ (s120 : List Bool) (v123 : Value) (rb124 : List Nat), o105 = .nx s120 ∧ Sk a 85 [(0, .int .i64 x0), (4, .pointer (some ⟨b11, 0, none⟩)), (5, .pointer (some ⟨b20, 0, none⟩)), (8, .int .i64 (x2.tuples.length : Int)), (9, v123)] ∧ Below w0.heap.size w0 w ∧ Row 1 RBool 4 w0.heap.size w v123 s120 rb124 ([]) ∧ Rd (Sl 1 RInt) w v15 x1.table b16 ∧ Rd (Sl 1 (RSl 1 RInt)) w v24 x2.tuples b25 ∧ Blk w b11 #[.int .i64 x1.arity, v15] 45 ∧ Blk w b20 #[.int .i64 x2.arity, v24] 53 ∧ Dj b16 rb124 ∧ Dj b25 rb124 ∧ Dj (rb124 ++ []) [b11] ∧ Dj (rb124 ++ []) [b20]) ?_ ?_
  ·
   refine x_blk ?_
   obtain ⟨fl109, hf110, hR⟩ := forL_gen hR
   refine x_loop (fun g a w => ∃ (k129 : Nat) (rest130 : List (List Int)) (s111 : List Bool) (v114 : Value) (rb115 : List Nat), (k129 ≤ x2.tuples.length ∧ x2.tuples.drop k129 = rest130) ∧ rest130.length = g ∧ forL fl109 rest130 k129 s111 = some o105 ∧ Sk a 85 [(34, .int .i64 (k129 : Int)), (0, .int .i64 x0), (4, .pointer (some ⟨b11, 0, none⟩)), (5, .pointer (some ⟨b20, 0, none⟩)), (8, .int .i64 (x2.tuples.length : Int)), (9, v114), (32, v24), (33, .int .i64 (x2.tuples.length : Int))] ∧ Below w0.heap.size w0 w ∧ Row 1 RBool 4 w0.heap.size w v114 s111 rb115 ([]) ∧ Rd (Sl 1 RInt) w v15 x1.table b16 ∧ Rd (Sl 1 (RSl 1 RInt)) w v24 x2.tuples b25 ∧ Blk w b11 #[.int .i64 x1.arity, v15] 45 ∧ Blk w b20 #[.int .i64 x2.arity, v24] 53 ∧ Dj b16 rb115 ∧ Dj b25 rb115 ∧ Dj (rb115 ++ []) [b11] ∧ Dj (rb115 ++ []) [b20]) x2.tuples.length ?_ ?_
   ·
    exact ⟨0, x2.tuples, z35, v37, rb38, ⟨Nat.zero_le _, rfl⟩, rfl, hR, F.sub (sc rfl (sc rfl (sc rfl (sc rfl (sc rfl (sc rfl (sc rfl (sc rfl sn)))))))), hB, h39, h17, h26, K12, K21, d41, d42, (Dj.app' (Dj.symm d43) (Dj.nil' _)), (Dj.app' (Dj.symm d44) (Dj.nil' _))⟩
   ·
    intro g132 a w ⟨k129, rest130, s111, v114, rb115, hd133, hg134, hR, F, hB, h113, h17, h26, K12, K21, d116, d117, d118, d119⟩
    cases rest130 with
    | nil =>
     replace hR := forL_nil hR
     have hkk129 := drop_nil hd133.1 hd133.2
     have hlk129 := dec_no hkk129
     refine x_seq ?_
     refine x_reg ?_
     refine o_lss F rfl rfl rfl (fun a F => ?_)
     refine x_end ?_
     refine x_tn ?_
     refine x_seq ?_
     refine x_ifF F rfl hlk129 ?_
     refine x_exit ?_
     refine x_te ?_
     refine x_te ?_
     refine x_be ?_
     refine x_tn ?_
     exact ⟨s111, v114, rb115, (Option.some.inj hR).symm, F.sub (sc rfl (sc rfl (sc rfl (sc rfl (sc rfl sn))))), hB, h113, h17, h26, K12, K21, d116, d117, d118, d119⟩
    | cons x131 rest130 =>
     subst hg134
     replace hd133 := drop_cons hd133.2
     have hxk129 := ix_nat hd133.2.1
     obtain ⟨ck129, hR, hn108⟩ := forL_cons hR
     rw [hf110] at hR
     have hlk129 := dec_yes hd133.1
     refine x_seq ?_
     refine x_reg ?_
     refine o_lss F rfl rfl rfl (fun a F => ?_)
     refine x_end ?_
     refine x_tn ?_
     refine x_seq ?_
     refine x_ifT F rfl hlk129 ?_
     refine x_skip ?_
     refine x_tn ?_
     refine x_seq ?_
     have ikk129 := k64 (Nat.le_of_lt hd133.1) i45
     have ink129 := inc64 hd133.1 i45
     refine x_blk ?_
     refine x_seq ?_
     refine x_reg ?_
     refine o_index Try.underlying26 Try.sizeOf27 F rfl rfl rfl h26 hxk129 (fun a p135 b136 h137 s138 F => ?_)
     refine o_loadS Try.isAgg27 F rfl rfl h137 (fun a v139 b140 h141 s142 F => ?_)
     refine o_assign F rfl rfl (fun a F => ?_)
     refine x_end ?_
     refine x_tn ?_
     refine x_reg ?_
     refine o_move F rfl rfl (fun a F => ?_)
     refine o_move F rfl rfl (fun a F => ?_)
     refine o_move F rfl rfl (fun a F => ?_)
     obtain ⟨z143, c144, hR⟩ := bnd_some hR
     refine o_saysI F rfl Try.call47 rfl (impl_indexOf_c z143 c144 _ hx0 h141) (fun a w l iz143 F => ?_)
     replace hB := Below.through l hB
     replace h17 := h17.go l
     replace h26 := h26.go l
     replace h113 := h113.go l
     replace K12 := K12.thru l
     replace K21 := K21.thru l
     obtain ⟨z145, c146, hR⟩ := bnd_some hR
     refine o_rindex Try.underlying72 Try.sizeOf4 F rfl rfl rfl h113 c146 (fun a p147 b148 h149 s150 rp151 F => ?_)
     refine o_rstore Try.sizeOf4 F rfl rfl rfl h113 rp151 (ix_lt c146) El.bool rfl (Dj.nil _) (fun w ib153 h152 l s154 keep => ?_)
     obtain rfl : ib153 = [] := sub_nil_nil s154
     have d156 := keep _ h17.m d116
     have d157 := keep _ h26.m d117
     have d158 := keep _ (inm1 K12) (Dj.symm (Dj.l d118))
     have d159 := keep _ (inm1 K21) (Dj.symm (Dj.l d119))
     replace hB := hB.o l h113.lo hB.size
     replace h17 := h17.goO l d116
     replace h26 := h26.goO l d117
     replace K12 := K12.only l (Dj.symm (Dj.l d118)).not
     replace K21 := K21.only l (Dj.symm (Dj.l d119)).not
     refine x_end ?_
     refine x_bn ?_
     refine x_tn ?_
     refine x_reg ?_
     refine o_inc F rfl rfl rfl ink129 (fun a F => ?_)
     refine o_move F rfl rfl (fun a F => ?_)
     refine x_end ?_
     refine x_tn ?_
     replace hR := l_go hR hn108
     exact ⟨_, Nat.lt_succ_self _, k129 + 1, rest130, (s111.set (z143).toNat true), v114, rb115, ⟨hd133.1, hd133.2.2⟩, rfl, hR, F.sub (sc rfl (sc rfl (sc rfl (sc rfl (sc rfl (sc rfl (sc rfl (sc rfl sn)))))))), hB, h152, h17, h26, K12, K21, d156, d157, (Dj.app' (Dj.symm d158) (Dj.nil' _)), (Dj.app' (Dj.symm d159) (Dj.nil' _))⟩
  ·
   intro a w ⟨s120, v123, rb124, ho107, F, hB, h122, h17, h26, K12, K21, d125, d126, d127, d128⟩
   subst ho107
   have hR := then_nx hk106
   refine x_tn ?_
   refine x_seq ?_
   refine x_seq ?_
   refine x_reg ?_
   refine o_move F rfl rfl (fun a F => ?_)
   refine o_bfield fa45_0 F rfl rfl rfl (fun a F => ?_)
   refine o_bload Try.isAgg2 F rfl rfl K12 rfl (fun a F => ?_)
   obtain ⟨z160, c161, hR⟩ := bnd_some hR
   refine o_saysI F rfl Try.call46 rfl (impl_power_c z160 c161 _ i31 i14) (fun a w l iz160 F => ?_)
   replace hB := Below.through l hB
   replace h17 := h17.go l
   replace h26 := h26.go l
   replace h122 := h122.go l
   replace K12 := K12.thru l
   replace K21 := K21.thru l
   refine o_move F rfl rfl (fun a F => ?_)
   refine x_end ?_
   refine x_tn ?_
   obtain ⟨o428, hR, hk429⟩ := thn_some hR
   refine x_cutQ (fun a w => o428 = .nx () ∧ Sk a 85 [] ∧ Below w0.heap.size w0 w) ?_ ?_
   ·
    refine x_blk ?_
    obtain ⟨fl432, hf433, hR⟩ := forI_gen hR
    refine x_loop (fun g a w => ∃ (k434 : Nat), k434 + g = z160.toNat ∧ forI fl432 g k434 () = some o428 ∧ Sk a 85 [(48, .int .i64 (k434 : Int)), (0, .int .i64 x0), (4, .pointer (some ⟨b11, 0, none⟩)), (5, .pointer (some ⟨b20, 0, none⟩)), (8, .int .i64 (x2.tuples.length : Int)), (9, v123), (47, .int .i64 z160)] ∧ Below w0.heap.size w0 w ∧ Rd (Sl 1 RInt) w v15 x1.table b16 ∧ Rd (Sl 1 (RSl 1 RInt)) w v24 x2.tuples b25 ∧ Row 1 RBool 4 w0.heap.size w v123 s120 rb124 ([]) ∧ Blk w b11 #[.int .i64 x1.arity, v15] 45 ∧ Blk w b20 #[.int .i64 x2.arity, v24] 53) z160.toNat ?_ ?_
    ·
     exact ⟨0, (Nat.zero_add _), hR, F.sub (sc rfl (sc rfl (sc rfl (sc rfl (sc rfl (sc rfl (sc rfl sn))))))), hB, h17, h26, h122, K12, K21⟩
    ·
     intro g437 a w ⟨k434, hd438, hR, F, hB, h17, h26, h122, K12, K21⟩
     cases g437 with
     | zero =>
      replace hR := forI_zero hR
      have hlk434 := dec_noI hd438
      refine x_seq ?_
      refine x_reg ?_
      refine o_lss F rfl rfl rfl (fun a F => ?_)
      refine x_end ?_
      refine x_tn ?_
      refine x_seq ?_
      refine x_ifF F rfl hlk434 ?_
      refine x_exit ?_
      refine x_te ?_
      refine x_te ?_
      refine x_be ?_
      refine x_tn ?_
      exact ⟨(Option.some.inj hR).symm, F.sub sn, hB⟩
     | succ g437 =>
      obtain ⟨ck434, hR, hn431⟩ := forI_succ hR
      rw [hf433] at hR
      have hlk434 := dec_yesI hd438
      refine x_seq ?_
      refine x_reg ?_
      refine o_lss F rfl rfl rfl (fun a F => ?_)
      refine x_end ?_
      refine x_tn ?_
      refine x_seq ?_
      refine x_ifT F rfl hlk434 ?_
      refine x_skip ?_
      refine x_tn ?_
      refine x_seq ?_
      have ikk434 := k64I hd438 iz160
      have ink434 := inc64I hd438 iz160
      refine x_blk ?_
      refine x_seq ?_
      refine x_reg ?_
      refine o_move F rfl rfl (fun a F => ?_)
      refine o_assign F rfl rfl (fun a F => ?_)
      refine x_end ?_
      refine x_tn ?_
      refine x_seq ?_
      refine x_reg ?_
      refine o_lit0 (R := (RSl 1 RInt)) Try.underlying26 Try.sizeOf27 F rfl (fun a w v440 rb441 h442 l F => ?_)
      have d444 := Dj.new h17.m h442.ownR (Nat.le_refl _)
      have d445 := Dj.new h26.m h442.ownR (Nat.le_refl _)
      have d446 := Dj.new h122.rd.m h442.ownR (Nat.le_refl _)
      have d447 := Dj.new (inm1 K12) h442.ownR (Nat.le_refl _)
      have d448 := Dj.new (inm1 K21) h442.ownR (Nat.le_refl _)
      have d449 := Dj.app' (Dj.new h122.memR h442.ownR (Nat.le_refl _)).symm (Dj.nil' _)
      replace h442 := h442.base hB.size
      replace hB := Below.through l hB
      replace h17 := h17.go l
      replace h26 := h26.go l
      replace h122 := h122.go l
      replace K12 := K12.thru l
      replace K21 := K21.thru l
      refine o_assign F rfl rfl (fun a F => ?_)
      refine x_end ?_
      refine x_tn ?_
      refine x_seq ?_
      refine x_seq ?_
      refine x_reg ?_
      refine o_move F rfl rfl (fun a F => ?_)
      refine o_bfield fa45_0 F rfl rfl rfl (fun a F => ?_)
      refine o_bload Try.isAgg2 F rfl rfl K12 rfl (fun a F => ?_)
      refine o_move F rfl rfl (fun a F => ?_)
      obtain ⟨z450, c451, hR⟩ := bnd_some hR
      refine o_gives F rfl Try.call48 rfl (impl_listOf_c z450 c451 _ i31 i14 ikk434) (fun a vv w l ⟨v452, rb453, hv456, h455⟩ F => ?_)
      subst vv
      have d458 := Dj.new h17.m h455.ownR (Nat.le_refl _)
      have d459 := Dj.new h26.m h455.ownR (Nat.le_refl _)
      have d460 := Dj.new h122.rd.m h455.ownR (Nat.le_refl _)
      have d461 := Dj.new h442.rd.m h455.ownR (Nat.le_refl _)
      have d462 := Dj.new (inm1 K12) h455.ownR (Nat.le_refl _)
      have d463 := Dj.new (inm1 K21) h455.ownR (Nat.le_refl _)
      have d464 := Dj.app' (Dj.new h122.memR h455.ownR (Nat.le_refl _)).symm (Dj.nil' _)
      have d465 := Dj.app' (Dj.new h442.memR h455.ownR (Nat.le_refl _)).symm (Dj.nil' _)
      replace h455 := h455.base hB.size
      replace hB := Below.through l hB
      replace h17 := h17.go l
      replace h26 := h26.go l
      replace h122 := h122.go l
      replace h442 := h442.go l
      replace K12 := K12.thru l
      replace K21 := K21.thru l
      refine o_len Try.underlying27 F rfl rfl h455.rd (fun a F => ?_)
      have i466 := (h455.rd).r.len64
      refine o_move F rfl rfl (fun a F => ?_)
      refine x_end ?_
      refine x_tn ?_
      obtain ⟨o590, hR, hk591⟩ := thn_some hR
      refine x_cutQ (fun a w => ∃ (s610 : List (List Int)) (v613 : Value) (rb614 : List Nat) (ib615 : List Nat), o590 = .nx s610 ∧ Sk a 85 [(0, .int .i64 x0), (4, .pointer (some ⟨b11, 0, none⟩)), (5, .pointer (some ⟨b20, 0, none⟩)), (8, .int .i64 (x2.tuples.length : Int)), (9, v123), (13, v613), (47, .int .i64 z160), (48, .int .i64 (k434 : Int))] ∧ Below w0.heap.size w0 w ∧ Row 1 (RSl 1 RInt) 27 w0.heap.size w v613 s610 rb614 ib615 ∧ Rd (Sl 1 RInt) w v15 x1.table b16 ∧ Rd (Sl 1 (RSl 1 RInt)) w v24 x2.tuples b25 ∧ Row 1 RBool 4 w0.heap.size w v123 s120 rb124 ([]) ∧ Blk w b11 #[.int .i64 x1.arity, v15] 45 ∧ Blk w b20 #[.int .i64 x2.arity, v24] 53 ∧ Dj b16 rb614 ∧ Dj b25 rb614 ∧ Dj (rb614 ++ ib615) [b11] ∧ Dj (rb614 ++ ib615) [b20] ∧ Dj (rb124 ++ []) rb614 ∧ Dj (rb614 ++ ib615) rb124) ?_ ?_
      ·
       refine x_blk ?_
       obtain ⟨fl594, hf595, hR⟩ := forL_gen hR
       refine x_loop (fun g a w => ∃ (k622 : Nat) (rest623 : List Int) (s596 : List (List Int)) (v599 : Value) (rb600 : List Nat) (ib601 : List Nat), (k622 ≤ z450.length ∧ z450.drop k622 = rest623) ∧ rest623.length = g ∧ forL fl594 rest623 k622 s596 = some o590 ∧ Sk a 85 [(58, .int .i64 (k622 : Int)), (0, .int .i64 x0), (4, .pointer (some ⟨b11, 0, none⟩)), (5, .pointer (some ⟨b20, 0, none⟩)), (8, .int .i64 (x2.tuples.length : Int)), (9, v123), (13, v599), (47, .int .i64 z160), (48, .int .i64 (k434 : Int)), (56, v452), (57, .int .i64 (z450.length : Int))] ∧ Below w0.heap.size w0 w ∧ Row 1 (RSl 1 RInt) 27 w0.heap.size w v599 s596 rb600 ib601 ∧ Rd (Sl 1 RInt) w v15 x1.table b16 ∧ Rd (Sl 1 (RSl 1 RInt)) w v24 x2.tuples b25 ∧ Row 1 RBool 4 w0.heap.size w v123 s120 rb124 ([]) ∧ Row 1 RInt 2 w0.heap.size w v452 z450 rb453 ([]) ∧ Blk w b11 #[.int .i64 x1.arity, v15] 45 ∧ Blk w b20 #[.int .i64 x2.arity, v24] 53 ∧ Dj b16 rb600 ∧ Dj b25 rb600 ∧ Dj (rb600 ++ ib601) [b11] ∧ Dj (rb600 ++ ib601) [b20] ∧ Dj (rb124 ++ []) rb600 ∧ Dj (rb600 ++ ib601) rb124 ∧ Dj (rb453 ++ []) rb600 ∧ Dj (rb600 ++ ib601) rb453) z450.length ?_ ?_
       ·
        exact ⟨0, z450, [], v440, rb441, [], ⟨Nat.zero_le _, rfl⟩, rfl, hR, F.sub (sc rfl (sc rfl (sc rfl (sc rfl (sc rfl (sc rfl (sc rfl (sc rfl (sc rfl (sc rfl (sc rfl sn))))))))))), hB, h442, h17, h26, h122, h455, K12, K21, d444, d445, (Dj.app' (Dj.symm d447) (Dj.nil' _)), (Dj.app' (Dj.symm d448) (Dj.nil' _)), d446, d449, d465, d461⟩
       ·
        intro g625 a w ⟨k622, rest623, s596, v599, rb600, ib601, hd626, hg627, hR, F, hB, h598, h17, h26, h122, h455, K12, K21, d602, d603, d604, d605, d606, d607, d608, d609⟩
        cases rest623 with
        | nil =>
         replace hR := forL_nil hR
         have hkk622 := drop_nil hd626.1 hd626.2
         have hlk622 := dec_no hkk622
         refine x_seq ?_
         refine x_reg ?_
         refine o_lss F rfl rfl rfl (fun a F => ?_)
         refine x_end ?_
         refine x_tn ?_
         refine x_seq ?_
         refine x_ifF F rfl hlk622 ?_
         refine x_exit ?_
         refine x_te ?_
         refine x_te ?_
         refine x_be ?_
         refine x_tn ?_
         exact ⟨s596, v599, rb600, ib601, (Option.some.inj hR).symm, F.sub (sc rfl (sc rfl (sc rfl (sc rfl (sc rfl (sc rfl (sc rfl (sc rfl sn)))))))), hB, h598, h17, h26, h122, K12, K21, d602, d603, d604, d605, d606, d607⟩
        | cons x624 rest623 =>
         subst hg627
         replace hd626 := drop_cons hd626.2
         have hxk622 := ix_nat hd626.2.1
         obtain ⟨ck622, hR, hn593⟩ := forL_cons hR
         rw [hf595] at hR
         have hlk622 := dec_yes hd626.1
         refine x_seq ?_
         refine x_reg ?_
         refine o_lss F rfl rfl rfl (fun a F => ?_)
         refine x_end ?_
         refine x_tn ?_
         refine x_seq ?_
         refine x_ifT F rfl hlk622 ?_
         refine x_skip ?_
         refine x_tn ?_
         refine x_seq ?_
         have ikk622 := k64 (Nat.le_of_lt hd626.1) i466
         have ink622 := inc64 hd626.1 i466
         refine x_blk ?_
         refine x_seq ?_
         refine x_reg ?_
         refine o_rindex Try.underlying27 Try.sizeOf2 F rfl rfl rfl h455 hxk622 (fun a p628 b629 h630 s631 rp632 F => ?_)
         have i633 := (h630).i64
         refine o_loadI Try.isAgg2 F rfl rfl h630 (fun a F => ?_)
         refine o_assign F rfl rfl (fun a F => ?_)
         refine x_end ?_
         refine x_tn ?_
         refine x_reg ?_
         refine o_move F rfl rfl (fun a F => ?_)
         refine o_bfield fa53_1 F rfl rfl rfl (fun a F => ?_)
         refine o_bload Try.isAgg26 F rfl rfl K21 rfl (fun a F => ?_)
         refine o_move F rfl rfl (fun a F => ?_)
         obtain ⟨z634, c635, hR⟩ := bnd_some hR
         refine o_index Try.underlying26 Try.sizeOf27 F rfl rfl rfl h26 c635 (fun a p636 b637 h638 s639 F => ?_)
         refine o_loadS Try.isAgg27 F rfl rfl h638 (fun a v640 b641 h642 s643 F => ?_)
         refine o_lit1 (R := (RSl 1 RInt)) (y := z634) Try.underlying26 Try.sizeOf27 Try.zeroValue27 rfl (by decide) (by decide) F rfl rfl (El.sl h642) (fun a w v644 rb645 h646 l F => ?_)
         have d648 := Dj.new h17.m h646.ownR (Nat.le_refl _)
         have d649 := Dj.new h26.m h646.ownR (Nat.le_refl _)
         have d650 := Dj.new h122.rd.m h646.ownR (Nat.le_refl _)
         have d651 := Dj.new h455.rd.m h646.ownR (Nat.le_refl _)
         have d652 := Dj.new h598.rd.m h646.ownR (Nat.le_refl _)
         have d653 := Dj.new (inm1 K12) h646.ownR (Nat.le_refl _)
         have d654 := Dj.new (inm1 K21) h646.ownR (Nat.le_refl _)
         have d655 := Dj.app' (Dj.new h122.memR h646.ownR (Nat.le_refl _)).symm (Dj.sub (Dj.sub d126 s639) s643)
         have d656 := Dj.app' (Dj.new h455.memR h646.ownR (Nat.le_refl _)).symm (Dj.sub (Dj.sub d459 s639) s643)
         have d657 := Dj.app' (Dj.new h598.memR h646.ownR (Nat.le_refl _)).symm (Dj.sub (Dj.sub d603 s639) s643)
         have d658 := Dj.app' (Dj.symm d653) (Dj.sub (Dj.sub (Dj.sub (dj1 A2.m CK12).symm (fun c hc => by rw [eb22]; simp [hc])) s639) s643)
         have d659 := Dj.app' (Dj.symm d654) (Dj.sub (Dj.sub d30 s639) s643)
         replace h646 := h646.base hB.size
         replace hB := Below.through l hB
         replace h17 := h17.go l
         replace h26 := h26.go l
         replace h122 := h122.go l
         replace h455 := h455.go l
         replace h598 := h598.go l
         replace K12 := K12.thru l
         replace K21 := K21.thru l
         obtain ⟨z660, c661, hR⟩ := bnd_some hR
         refine o_append (sz := 1) (R := (RSl 1 RInt)) (z := ((.slice none 0 0))) (bytes := 24) Try.underlying26 (by kernel_rfl) rfl (by decide) (by decide) (by decide) F rfl rfl rfl h598 h646.src hB.size (Dj.symm d657.r) c661 (fun a w v662 rb663 h664 l keep F => ?_)
         have d666 := keep _ h17.m d602
         have d667 := keep _ h26.m d603
         have d668 := keep _ (inm1 K12) (Dj.symm (Dj.l d604))
         have d669 := keep _ (inm1 K21) (Dj.symm (Dj.l d605))
         have d670 := keep _ h122.rd.m d606
         have d671 := keep _ h455.rd.m d608
         replace hB := hB.o l h598.lo hB.size
         replace h17 := h17.goO l d602
         replace h26 := h26.goO l d603
         replace h122 := h122.goO l d606
         replace h455 := h455.goO l d608
         replace K12 := K12.only l (Dj.symm (Dj.l d604)).not
         replace K21 := K21.only l (Dj.symm (Dj.l d605)).not
         have d672 := Dj.app' (Dj.symm (Dj.l d670)) (Dj.app' (Dj.r d607) (Dj.r d655))
         have d673 := Dj.app' (Dj.symm (Dj.l d671)) (Dj.app' (Dj.r d609) (Dj.r d656))
         have d674 := Dj.app' (Dj.symm d668) (Dj.app' (Dj.r d604) (Dj.r d658))
         have d675 := Dj.app' (Dj.symm d669) (Dj.app' (Dj.r d605) (Dj.r d659))
         refine o_assign F rfl rfl (fun a F => ?_)
         refine x_end ?_
         refine x_bn ?_
         refine x_tn ?_
         refine x_reg ?_
         refine o_inc F rfl rfl rfl ink622 (fun a F => ?_)
         refine o_move F rfl rfl (fun a F => ?_)
         refine x_end ?_
         refine x_tn ?_
         replace hR := l_go hR hn593
         exact ⟨_, Nat.lt_succ_self _, k622 + 1, rest623, z660, v662, rb663, (ib601 ++ b641), ⟨hd626.1, hd626.2.2⟩, rfl, hR, F.sub (sc rfl (sc rfl (sc rfl (sc rfl (sc rfl (sc rfl (sc rfl (sc rfl (sc rfl (sc rfl (sc rfl sn))))))))))), hB, h664, h17, h26, h122, h455, K12, K21, d666, d667, d674, d675, d670, d672, d671, d673⟩
      ·
       intro a w ⟨s610, v613, rb614, ib615, ho592, F, hB, h612, h17, h26, h122, K12, K21, d616, d617, d618, d619, d620, d621⟩
       subst ho592
       have hR := then_nx hk591
       refine x_tn ?_
       refine x_seq ?_
       refine x_reg ?_
       refine o_move F rfl rfl (fun a F => ?_)
       refine o_bloadA (cs := [.int .i64 x1.arity, v15]) Try.isAgg45 Try.sizeOf45 F rfl rfl K12 rfl (fun j hj => by match j, hj with | 0, _ => rfl | 1, _ => rfl) (fun a F => ?_)
       have h676 := ROp.mk2 (w := w) i14 h17
       refine o_move F rfl rfl (fun a F => ?_)
       obtain ⟨z677, c678, hR⟩ := bnd_some hR
       refine o_gives F rfl Try.call49 rfl (impl_made_c z677 c678 _ hx0 h676 h612.rd) (fun a vv w l ⟨v679, rb680, hv683, h682⟩ F => ?_)
       subst vv
       have d685 := Dj.new h17.m h682.ownR (Nat.le_refl _)
       have d686 := Dj.new h26.m h682.ownR (Nat.le_refl _)
       have d687 := Dj.new h122.rd.m h682.ownR (Nat.le_refl _)
       have d688 := Dj.new h612.rd.m h682.ownR (Nat.le_refl _)
       have d689 := Dj.new (inm1 K12) h682.ownR (Nat.le_refl _)
       have d690 := Dj.new (inm1 K21) h682.ownR (Nat.le_refl _)
       have d691 := Dj.app' (Dj.new h122.memR h682.ownR (Nat.le_refl _)).symm (Dj.nil' _)
       have d692 := Dj.app' (Dj.new h612.memR h682.ownR (Nat.le_refl _)).symm (Dj.nil' _)
       have d693 := Dj.app' (Dj.new h612.mem h682.ownR (Nat.le_refl _)).symm (Dj.nil' _)
       replace h682 := h682.base hB.size
       replace hB := Below.through l hB
       replace h17 := h17.go l
       replace h26 := h26.go l
       replace h122 := h122.go l
       replace h612 := h612.go l
       replace K12 := K12.thru l
       replace K21 := K21.thru l
       refine o_assign F rfl rfl (fun a F => ?_)
       refine x_end ?_
       refine x_tn ?_
       refine x_seq ?_
       refine x_reg ?_
       refine o_move F rfl rfl (fun a F => ?_)
       refine o_move F rfl rfl (fun a F => ?_)
       refine o_move F rfl rfl (fun a F => ?_)
       obtain ⟨z694, c695, hR⟩ := bnd_some hR
       refine o_saysI F rfl Try.call47 rfl (impl_indexOf_c z694 c695 _ hx0 h682.rd) (fun a w l iz694 F => ?_)
       replace hB := Below.through l hB
       replace h17 := h17.go l
       replace h26 := h26.go l
       replace h122 := h122.go l
       replace h612 := h612.go l
       replace h682 := h682.go l
       replace K12 := K12.thru l
       replace K21 := K21.thru l
       obtain ⟨z696, c697, hR⟩ := bnd_some hR
       refine o_rindex Try.underlying72 Try.sizeOf4 F rfl rfl rfl h122 c697 (fun a p698 b699 h700 s701 rp702 F => ?_)
       refine o_loadB Try.isAgg4 F rfl rfl h700 (fun a F => ?_)
       refine o_not F rfl rfl (fun a F => ?_)
       refine x_end ?_
       refine x_tn ?_
       refine x_if F rfl (fun hb703 => ?_) (fun hb703 => ?_)
       ·
        replace hR := ifT hb703 hR
        refine x_seq ?_
        refine x_reg ?_
        refine o_move F rfl rfl (fun a F => ?_)
        refine o_move F rfl rfl (fun a F => ?_)
        refine o_assign F rfl rfl (fun a F => ?_)
        refine o_assign F rfl rfl (fun a F => ?_)
        refine x_end ?_
        refine x_tn ?_
        refine x_ret ?_
        obtain ⟨z704, c705, hR⟩ := bnd_some hR
        refine x_br ?_
        refine x_tr ?_
        refine x_tr ?_
        replace hR := l_ret hR hn431
        refine x_br ?_
        refine x_tr ?_
        replace hR := j_ret hR hk429
        refine x_tr ?_
        refine x_res2 F rfl (rv_t F rfl) (rv_t F rfl) ?_
        obtain rfl := Option.some.inj hR
        exact ⟨_, rfl, hB, v613, rb614, ib615, v679, rb680, rfl, h612, h682, (nev_z c705), (Dj.app d688 (Dj.nil _))⟩
       ·
        replace hR := ifF hb703 hR
        refine x_skip ?_
        refine x_bn ?_
        refine x_tn ?_
        refine x_reg ?_
        refine o_inc F rfl rfl rfl ink434 (fun a F => ?_)
        refine o_move F rfl rfl (fun a F => ?_)
        refine x_end ?_
        refine x_tn ?_
        replace hR := l_go hR hn431
        exact ⟨_, Nat.lt_succ_self _, k434 + 1, (by omega), hR, F.sub (sc rfl (sc rfl (sc rfl (sc rfl (sc rfl (sc rfl (sc rfl sn))))))), hB, h17, h26, h122, K12, K21⟩
   ·
    intro a w ⟨ho430, F, hB⟩
    subst ho430
    have hR := then_nx hk429
    refine x_tn ?_
    refine x_seq ?_
    refine x_reg ?_
    refine o_assign F rfl rfl (fun a F => ?_)
    refine o_assign F rfl rfl (fun a F => ?_)
    refine x_end ?_
    refine x_tn ?_
    refine x_ret ?_
    refine x_res2 F rfl (rv_t F rfl) (rv_t F rfl) ?_
    obtain rfl := Option.some.inj hR
    exact ⟨_, rfl, hB, (.slice none 0 0), [], [], (.slice none 0 0), [], rfl, Row.nil 1 (RSl 1 RInt) 27 _ _, Row.nil 1 RInt 2 _ _, (fun _ => rfl), (Dj.nil' _)⟩

def impl_keeps (N : Nat) (x0 : Int) (x1 : Op) (x2 : Rel) : Option Bool :=
 bnd (impl_broken N x0 (Op.mk x1.arity x1.table) (Rel.mk x2.arity x2.tuples)) fun z33 =>
 some z33.2.isEmpty
set_option maxHeartbeats 1000000 in
theorem impl_keeps_c {N : Nat} {x0 : Int} {x1 : Op} {x2 : Rel} (r : Bool) (hR : impl_keeps N x0 x1 x2 = some r) {v1 : Value} {b1 : List Nat} {v2 : Value} {b2 : List Nat} (w0 : World) (hx0 : I64 x0) (A1 : Rd (Agg 2 ROp) w0 v1 x1 b1) (A2 : Rd (Agg 2 RRel) w0 v2 x2 b2) : Calls Try.prog 45 #[.int .i64 x0, v1, v2] w0 (Says (.bool r) w0) := by
 unfold impl_keeps at hR
 refine x_enter (L := [(0, .int .i64 x0), (1, v1), (2, v2)]) Try.func45 rfl rfl rfl (sc rfl (sc rfl (sc rfl sn))) (fun a F => ?_)
 have hB := Below.refl w0.heap.size w0
 refine x_seq ?_
 refine x_reg ?_
 obtain ⟨v15, b16, e18, i14, h17, eb13⟩ := ROp.rd (A1.go hB)
 subst e18
 refine o_box F rfl rfl rfl (fun a w b11 K12 l BK12 F => ?_)
 have d19 := (dj1 h17.m BK12).symm
 have CK12 := Nat.le_trans hB.size BK12
 replace hB := Below.through l hB
 replace h17 := h17.go l
 obtain ⟨v24, b25, e27, i23, h26, eb22⟩ := RRel.rd (A2.go hB)
 subst e27
 refine o_box F rfl rfl rfl (fun a w b20 K21 l BK21 F => ?_)
 have nb28 := Dj.bb K12 BK21
 have d29 := (dj1 h17.m BK21).symm
 have d30 := (dj1 h26.m BK21).symm
 have CK21 := Nat.le_trans hB.size BK21
 replace hB := Below.through l hB
 replace h17 := h17.go l
 replace h26 := h26.go l
 replace K12 := K12.thru l
 refine o_assign F rfl rfl (fun a F => ?_)
 refine x_end ?_
 refine x_tn ?_
 refine x_seq ?_
 refine x_reg ?_
 refine o_move F rfl rfl (fun a F => ?_)
 refine o_bloadA (cs := [.int .i64 x1.arity, v15]) Try.isAgg45 Try.sizeOf45 F rfl rfl K12 rfl (fun j hj => by match j, hj with | 0, _ => rfl | 1, _ => rfl) (fun a F => ?_)
 have h31 := ROp.mk2 (w := w) i14 h17
 refine o_bloadA (cs := [.int .i64 x2.arity, v24]) Try.isAgg53 Try.sizeOf53 F rfl rfl K21 rfl (fun j hj => by match j, hj with | 0, _ => rfl | 1, _ => rfl) (fun a F => ?_)
 have h32 := RRel.mk2 (w := w) i23 h26
 obtain ⟨z33, c34, hR⟩ := bnd_some hR
 refine o_gives F rfl Try.call25 rfl (impl_broken_c z33 c34 _ hx0 h31 h32) (fun a vv w l ⟨v35, rb36, ib37, v39, rb40, hv44, h38, h42, hz43, dj45⟩ F => ?_)
 subst vv
 replace h38 := h38.base hB.size
 replace h42 := h42.base hB.size
 replace hB := Below.through l hB
 refine o_move F rfl rfl (fun a F => ?_)
 refine o_extract F rfl rfl rfl (fun a F => ?_)
 refine o_extract F rfl rfl rfl (fun a F => ?_)
 refine o_assign F rfl rfl (fun a F => ?_)
 refine o_assign F rfl rfl (fun a F => ?_)
 refine x_end ?_
 refine x_tn ?_
 refine x_seq ?_
 refine x_reg ?_
 refine o_move F rfl rfl (fun a F => ?_)
 refine o_eqlnil Try.underlying27 F rfl rfl rfl h42.rd hz43 (fun a F => ?_)
 refine o_assign F rfl rfl (fun a F => ?_)
 refine x_end ?_
 refine x_tn ?_
 refine x_ret ?_
 refine x_res1 F rfl (rv_t F rfl) ?_
 obtain rfl := Option.some.inj hR
 exact ⟨rfl, hB⟩

def impl_firstBroken_1 (N : Nat) (x0 : Rel) (y0 : Template) (y1 : Op) : Option Bool :=
 bnd (impl_keeps N y0.size y1 (Rel.mk x0.arity x0.tuples)) fun z30 =>
 some ((!z30))
set_option maxHeartbeats 1000000 in
theorem impl_firstBroken_1_c {N : Nat} {x0 : Rel} {y0 : Template} {y1 : Op} (r : Bool) (hR : impl_firstBroken_1 N x0 y0 y1 = some r) {v0 : Value} {b0 : List Nat} {v1 : Value} {b1 : List Nat} {v2 : Value} {b2 : List Nat} (w0 : World) (A0 : Rd (Agg 2 RRel) w0 v0 x0 b0) (A1 : Rd (Pt 2 RTemplate) w0 v1 y0 b1) (A2 : Rd (Pt 2 ROp) w0 v2 y1 b2) : Calls Try.prog 44 #[v0, v1, v2] w0 (Says (.bool r) w0) := by
 unfold impl_firstBroken_1 at hR
 refine x_enter (L := [(0, v0), (1, v1), (2, v2)]) Try.func44 rfl rfl rfl (sc rfl (sc rfl (sc rfl sn))) (fun a F => ?_)
 have hB := Below.refl w0.heap.size w0
 refine x_seq ?_
 refine x_reg ?_
 obtain ⟨v15, b16, e18, i14, h17, eb13⟩ := RRel.rd (A0.go hB)
 subst e18
 refine o_box F rfl rfl rfl (fun a w b11 K12 l BK12 F => ?_)
 have d19 := (dj1 h17.m BK12).symm
 have CK12 := Nat.le_trans hB.size BK12
 replace hB := Below.through l hB
 replace h17 := h17.go l
 refine o_assign F rfl rfl (fun a F => ?_)
 refine x_end ?_
 refine x_tn ?_
 refine x_seq ?_
 refine x_reg ?_
 refine o_field (s' := 1) fa32_0 F rfl rfl (A1.go hB) RTemplate.f0 (fun a p20 b21 h22 s23 F => ?_)
 have i24 := (h22).i64
 refine o_loadI Try.isAgg2 F rfl rfl h22 (fun a F => ?_)
 refine o_loadA Try.isAgg45 Try.sizeOf45 F rfl rfl (A2.go hB) (fun a v25 b26 h27 s28 F => ?_)
 refine o_bloadA (cs := [.int .i64 x0.arity, v15]) Try.isAgg53 Try.sizeOf53 F rfl rfl K12 rfl (fun j hj => by match j, hj with | 0, _ => rfl | 1, _ => rfl) (fun a F => ?_)
 have h29 := RRel.mk2 (w := w) i14 h17
 obtain ⟨z30, c31, hR⟩ := bnd_some hR
 refine o_says F rfl Try.call45 rfl (impl_keeps_c z30 c31 _ i24 h27 h29) (fun a w l F => ?_)
 replace hB := Below.through l hB
 refine o_not F rfl rfl (fun a F => ?_)
 refine o_assign F rfl rfl (fun a F => ?_)
 refine x_end ?_
 refine x_tn ?_
 refine x_ret ?_
 refine x_res1 F rfl (rv_t F rfl) ?_
 obtain rfl := Option.some.inj hR
 exact ⟨rfl, hB⟩

def impl_firstBroken (N : Nat) (x0 : Template) (x1 : Op) : Option Int :=
 bnd (slices_IndexFunc_s_Rel_Rel x0.rels (fun a0 => impl_firstBroken_1 N a0 (Template.mk x0.size x0.rels) (Op.mk x1.arity x1.table))) fun z31 =>
 some z31
set_option maxHeartbeats 1000000 in
theorem impl_firstBroken_c {N : Nat} {x0 : Template} {x1 : Op} (r : Int) (hR : impl_firstBroken N x0 x1 = some r) {v0 : Value} {b0 : List Nat} {v1 : Value} {b1 : List Nat} (w0 : World) (A0 : Rd (Agg 2 RTemplate) w0 v0 x0 b0) (A1 : Rd (Agg 2 ROp) w0 v1 x1 b1) : Calls Try.prog 24 #[v0, v1] w0 (SaysI r w0) := by
 unfold impl_firstBroken at hR
 refine x_enter (L := [(0, v0), (1, v1)]) Try.func24 rfl rfl rfl (sc rfl (sc rfl sn)) (fun a F => ?_)
 have hB := Below.refl w0.heap.size w0
 refine x_seq ?_
 refine x_reg ?_
 obtain ⟨v15, b16, e18, i14, h17, eb13⟩ := RTemplate.rd (A0.go hB)
 subst e18
 refine o_box F rfl rfl rfl (fun a w b11 K12 l BK12 F => ?_)
 have d19 := (dj1 h17.m BK12).symm
 have CK12 := Nat.le_trans hB.size BK12
 replace hB := Below.through l hB
 replace h17 := h17.go l
 obtain ⟨v24, b25, e27, i23, h26, eb22⟩ := ROp.rd (A1.go hB)
 subst e27
 refine o_box F rfl rfl rfl (fun a w b20 K21 l BK21 F => ?_)
 have nb28 := Dj.bb K12 BK21
 have d29 := (dj1 h17.m BK21).symm
 have d30 := (dj1 h26.m BK21).symm
 have CK21 := Nat.le_trans hB.size BK21
 replace hB := Below.through l hB
 replace h17 := h17.go l
 replace h26 := h26.go l
 replace K12 := K12.thru l
 refine o_assign F rfl rfl (fun a F => ?_)
 refine x_end ?_
 refine x_tn ?_
 refine x_seq ?_
 refine x_reg ?_
 refine o_bfield fa32_1 F rfl rfl rfl (fun a F => ?_)
 refine o_bload Try.isAgg30 F rfl rfl K12 rfl (fun a F => ?_)
 refine o_func F rfl rfl rfl (fun a F => ?_)
 obtain ⟨z31, c32, hR⟩ := bnd_some hR
 refine o_saysI F rfl Try.call43 rfl (slices_IndexFunc_s_Rel_Rel_c z31 c32 _ h17 Try.call44 (fun a0 r h W l u0 c0 f0 => impl_firstBroken_1_c r h W f0 ((RTemplate.blk K12 i14 h17).go l) ((ROp.blk K21 i23 h26).go l))) (fun a w l iz31 F => ?_)
 replace hB := Below.through l hB
 refine o_assign F rfl rfl (fun a F => ?_)
 refine x_end ?_
 refine x_tn ?_
 refine x_ret ?_
 refine x_res1 F rfl (rv_t F rfl) ?_
 obtain rfl := Option.some.inj hR
 exact ⟨⟨rfl, hB⟩, iz31⟩
end Go.Proofs.Ytfepllddlmhjiaa
