/-
  Functions of the program as plain functions, and that they compute them. Printed by fxio.py.
-/
import Derived.Test.YtfepllddlmhjiaaGreatD1
namespace Go.Proofs.YtfepllddlmhjiaaGreat
set_option linter.unusedVariables false
set_option linter.unusedSimpArgs false
set_option maxRecDepth 100000
open Go.RowKit
def slices_Clone_s_Literal_Literal (x0 : List Literal) : Option (List Literal) :=
 bnd (ap ([]) x0) fun z18 =>
 some z18
set_option maxHeartbeats 1000000 in
theorem slices_Clone_s_Literal_Literal_c {x0 : List Literal} (r : (List Literal)) (hR : slices_Clone_s_Literal_Literal x0 = some r) {v0 : Value} {b0 : List Nat} (w0 : World) (A0 : Rd (Sl 2 RLiteral) w0 v0 x0 b0) : Calls Tryz.prog 117 #[v0] w0 (Gives (fun v w' => ∃ (v1' : Value) (rb2' : List Nat), v = v1' ∧ Row 2 RLiteral 136 w0.heap.size w' v1' r rb2' []) w0) := by
 unfold slices_Clone_s_Literal_Literal at hR
 refine x_enter (L := [(0, v0)]) Tryz.func117 rfl rfl rfl (sc rfl sn) (fun a F => ?_)
 have hB := Below.refl w0.heap.size w0
 refine x_seq ?_
 refine x_reg ?_
 refine o_assign F rfl rfl (fun a F => ?_)
 refine x_end ?_
 refine x_tn ?_
 refine x_seq ?_
 refine x_seq ?_
 refine x_reg ?_
 refine o_move F rfl rfl (fun a F => ?_)
 refine o_eqlnilG Tryz.underlying63 F rfl rfl rfl (A0.go hB) (fun a nb11 hn12 F => ?_)
 refine x_end ?_
 refine x_tn ?_
 refine x_if F rfl (fun hb13 => ?_) (fun hb13 => ?_)
 ·
  replace hR : some ([]) = some r := by rw [hn12 hb13] at hR; exact hR
  refine x_seq ?_
  refine x_reg ?_
  refine o_assign F rfl rfl (fun a F => ?_)
  refine x_end ?_
  refine x_tn ?_
  refine x_ret ?_
  refine x_tr ?_
  refine x_res1 F rfl (rv_t F rfl) ?_
  obtain rfl := Option.some.inj hR
  exact ⟨_, rfl, hB, (.slice none 0 0), [], rfl, Row.nil 2 RLiteral 136 _ _⟩
 ·
  refine x_skip ?_
  refine x_tn ?_
  refine x_seq ?_
  refine x_reg ?_
  refine o_lit0 (R := RLiteral) Tryz.underlying63 Tryz.sizeOf136 F rfl (fun a w v14 rb15 h16 l F => ?_)
  replace h16 := h16.base hB.size
  replace hB := Below.through l hB
  refine o_move F rfl rfl (fun a F => ?_)
  obtain ⟨z18, c19, hR⟩ := bnd_some hR
  obtain ⟨ib23, sr24, sn25⟩ := Rd.src (by decide) (A0.go hB)
  refine o_append (sz := 2) (R := RLiteral) (z := (.agg #[.int .i64 0, .int .i64 0])) (bytes := 16) Tryz.underlying63 (by kernel_rfl) rfl (by decide) (by decide) (by decide) F rfl rfl rfl h16 sr24 hB.size (Dj.symm (Dj.sub (Dj.new A0.m h16.ownR (Nat.le_refl _)) sn25)) c19 (fun a w v20 rb21 h22 l keep F => ?_)
  obtain rfl : ib23 = [] := src_flat sr24 (fun w f x bs h => by first | exact h.2.2 | exact h.2 | exact h.2.2.2.2 | exact h.2.2.2.2.2.2 | exact h.2.2.2.2.2.2.2.2)
  replace h22 := row_nil2 h22
  replace hB := hB.o l h16.lo hB.size
  refine o_assign F rfl rfl (fun a F => ?_)
  refine x_end ?_
  refine x_tn ?_
  refine x_ret ?_
  refine x_res1 F rfl (rv_t F rfl) ?_
  obtain rfl := Option.some.inj hR
  exact ⟨_, rfl, hB, v20, rb21, rfl, h22⟩

def spec_ShrinkNoGood (N : Nat) (x0 : Template) (x1 : Instance) (x2 : List Literal) (x3 : Int) : Option ((List Literal) × Int) :=
 bnd (spec_IsNoGood N (Template.mk x0.size x0.rels) (Instance.mk x1.vars x1.cons) x2 x3) fun z33 =>
 if (z33.2 != 0) then
  some ([], z33.2)
 else
  if (!z33.1) then
   some ([], 4)
  else
   bnd (ap ([]) x2) fun z55 =>
   thn (σ := (List Literal) × Int) (
    whl (σ := (List Literal) × Int) (ρ := (List Literal) × Int) (fun (s : (List Literal) × Int) =>
      match s with
      | (s155, s160) =>
      if (decide (s160 < (s155.length : Int))) then
       bnd (sl s155 0 s160) fun z181 =>
       bnd (ck (s160 + 1)) fun z187 =>
       bnd (sl s155 z187 (s155.length : Int)) fun z189 =>
       bnd (ap ([]) z181) fun z208 =>
       bnd (ap z208 z189) fun z223 =>
       bnd (spec_l08Bad N (Template.mk x0.size x0.rels) (Instance.mk x1.vars x1.cons) z223 x3) fun z237 =>
       if (z237.2 != 0) then
        some (.ret ([], z237.2))
       else
        if z237.1 then
         some (.go (z223, s160))
        else
         some (.go (s155, z187))
      else
       some (.brk (s155, s160))) N (z55, 0)) fun (s166, s171) =>
   some (s166, 0)
set_option maxHeartbeats 1000000 in
theorem spec_ShrinkNoGood_c {N : Nat} {x0 : Template} {x1 : Instance} {x2 : List Literal} {x3 : Int} (r : (List Literal) × Int) (hR : spec_ShrinkNoGood N x0 x1 x2 x3 = some r) {v0 : Value} {b0 : List Nat} {v1 : Value} {b1 : List Nat} {v2 : Value} {b2 : List Nat} (w0 : World) (A0 : Rd (Agg 2 RTemplate) w0 v0 x0 b0) (A1 : Rd (Agg 2 RInstance) w0 v1 x1 b1) (A2 : Rd (Sl 2 RLiteral) w0 v2 x2 b2) (hx3 : I64 x3) : Calls Tryz.prog 59 #[v0, v1, v2, .int .i64 x3] w0 (Gives (fun v w' => ∃ (v1' : Value) (rb2' : List Nat), v = .tuple #[v1', .int .i64 r.2] ∧ Row 2 RLiteral 136 w0.heap.size w' v1' r.1 rb2' [] ∧ I64 r.2) w0) := by
 unfold spec_ShrinkNoGood at hR
 refine x_enter (L := [(0, v0), (1, v1), (2, v2), (3, .int .i64 x3)]) Tryz.func59 rfl rfl rfl (sc rfl (sc rfl (sc rfl (sc rfl sn)))) (fun a F => ?_)
 have hB := Below.refl w0.heap.size w0
 refine x_seq ?_
 refine x_reg ?_
 obtain ⟨v15, b16, e18, i14, h17, eb13⟩ := RTemplate.rd (A0.go hB)
 subst e18
 refine o_box F rfl rfl rfl (fun a w b11 K12 l BK12 F => ?_)
 have d19 := (dj1 h17.m BK12).symm
 have CK12 := Nat.le_trans hB.size BK12
 replace hB := Below.through l hB
 replace h17 := h17.go l
 obtain ⟨v24, b25, e27, i23, h26, eb22⟩ := RInstance.rd (A1.go hB)
 subst e27
 refine o_box F rfl rfl rfl (fun a w b20 K21 l BK21 F => ?_)
 have nb28 := Dj.bb K12 BK21
 have d29 := (dj1 h17.m BK21).symm
 have d30 := (dj1 h26.m BK21).symm
 have CK21 := Nat.le_trans hB.size BK21
 replace hB := Below.through l hB
 replace h17 := h17.go l
 replace h26 := h26.go l
 replace K12 := K12.thru l
 refine o_assign F rfl rfl (fun a F => ?_)
 refine o_assign F rfl rfl (fun a F => ?_)
 refine x_end ?_
 refine x_tn ?_
 refine x_seq ?_
 refine x_reg ?_
 refine o_bloadA (cs := [.int .i64 x0.size, v15]) Tryz.isAgg33 Tryz.sizeOf33 F rfl rfl K12 rfl (fun j hj => by match j, hj with | 0, _ => rfl | 1, _ => rfl) (fun a F => ?_)
 have h31 := RTemplate.mk2 (w := w) i14 h17
 refine o_bloadA (cs := [.int .i64 x1.vars, v24]) Tryz.isAgg51 Tryz.sizeOf51 F rfl rfl K21 rfl (fun j hj => by match j, hj with | 0, _ => rfl | 1, _ => rfl) (fun a F => ?_)
 have h32 := RInstance.mk2 (w := w) i23 h26
 refine o_move F rfl rfl (fun a F => ?_)
 refine o_move F rfl rfl (fun a F => ?_)
 obtain ⟨z33, c34, hR⟩ := bnd_some hR
 refine o_gives F rfl Tryz.call33 rfl (spec_IsNoGood_c z33 c34 _ h31 h32 (A2.go hB) hx3) (fun a vv w l ⟨hv36, i35⟩ F => ?_)
 subst vv
 replace hB := Below.through l hB
 replace h17 := h17.go l
 replace h26 := h26.go l
 replace K12 := K12.thru l
 replace K21 := K21.thru l
 refine o_move F rfl rfl (fun a F => ?_)
 refine o_extract F rfl rfl rfl (fun a F => ?_)
 refine o_extract F rfl rfl rfl (fun a F => ?_)
 refine o_assign F rfl rfl (fun a F => ?_)
 refine o_assign F rfl rfl (fun a F => ?_)
 refine x_end ?_
 refine x_tn ?_
 refine x_seq ?_
 refine x_seq ?_
 refine x_reg ?_
 refine o_move F rfl rfl (fun a F => ?_)
 refine o_neq F rfl rfl rfl (fun a F => ?_)
 refine x_end ?_
 refine x_tn ?_
 refine x_if F rfl (fun hb37 => ?_) (fun hb37 => ?_)
 ·
  replace hR := ifT hb37 hR
  refine x_seq ?_
  refine x_reg ?_
  refine o_lit0 (R := RLiteral) Tryz.underlying63 Tryz.sizeOf136 F rfl (fun a w v38 rb39 h40 l F => ?_)
  replace h40 := h40.base hB.size
  replace hB := Below.through l hB
  refine o_move F rfl rfl (fun a F => ?_)
  refine o_assign F rfl rfl (fun a F => ?_)
  refine o_assign F rfl rfl (fun a F => ?_)
  refine x_end ?_
  refine x_tn ?_
  refine x_ret ?_
  refine x_tr ?_
  refine x_res2 F rfl (rv_t F rfl) (rv_t F rfl) ?_
  obtain rfl := Option.some.inj hR
  exact ⟨_, rfl, hB, v38, rb39, rfl, h40, i35⟩
 ·
  replace hR := ifF hb37 hR
  refine x_skip ?_
  refine x_tn ?_
  refine x_seq ?_
  refine x_seq ?_
  refine x_reg ?_
  refine o_move F rfl rfl (fun a F => ?_)
  refine o_not F rfl rfl (fun a F => ?_)
  refine x_end ?_
  refine x_tn ?_
  refine x_if F rfl (fun hb42 => ?_) (fun hb42 => ?_)
  ·
   replace hR := ifT hb42 hR
   refine x_seq ?_
   refine x_reg ?_
   refine o_lit0 (R := RLiteral) Tryz.underlying63 Tryz.sizeOf136 F rfl (fun a w v43 rb44 h45 l F => ?_)
   replace h45 := h45.base hB.size
   replace hB := Below.through l hB
   refine o_assign F rfl rfl (fun a F => ?_)
   refine o_assign F rfl rfl (fun a F => ?_)
   refine x_end ?_
   refine x_tn ?_
   refine x_ret ?_
   refine x_tr ?_
   refine x_res2 F rfl (rv_t F rfl) (rv_t F rfl) ?_
   obtain rfl := Option.some.inj hR
   exact ⟨_, rfl, hB, v43, rb44, rfl, h45, (show I64 (4) by decide)⟩
  ·
   replace hR := ifF hb42 hR
   refine x_skip ?_
   refine x_tn ?_
   refine x_seq ?_
   refine x_reg ?_
   refine o_lit0 (R := RLiteral) Tryz.underlying63 Tryz.sizeOf136 F rfl (fun a w v47 rb48 h49 l F => ?_)
   have d51 := Dj.new h17.m h49.ownR (Nat.le_refl _)
   have d52 := Dj.new h26.m h49.ownR (Nat.le_refl _)
   have d53 := Dj.new (inm1 K12) h49.ownR (Nat.le_refl _)
   have d54 := Dj.new (inm1 K21) h49.ownR (Nat.le_refl _)
   replace h49 := h49.base hB.size
   replace hB := Below.through l hB
   replace h17 := h17.go l
   replace h26 := h26.go l
   replace K12 := K12.thru l
   replace K21 := K21.thru l
   refine o_move F rfl rfl (fun a F => ?_)
   obtain ⟨z55, c56, hR⟩ := bnd_some hR
   obtain ⟨ib60, sr61, sn62⟩ := Rd.src (by decide) (A2.go hB)
   refine o_append (sz := 2) (R := RLiteral) (z := (.agg #[.int .i64 0, .int .i64 0])) (bytes := 16) Tryz.underlying63 (by kernel_rfl) rfl (by decide) (by decide) (by decide) F rfl rfl rfl h49 sr61 hB.size (Dj.symm (Dj.sub (Dj.new A2.m h49.ownR (Nat.le_refl _)) sn62)) c56 (fun a w v57 rb58 h59 l keep F => ?_)
   obtain rfl : ib60 = [] := src_flat sr61 (fun w f x bs h => by first | exact h.2.2 | exact h.2 | exact h.2.2.2.2 | exact h.2.2.2.2.2.2 | exact h.2.2.2.2.2.2.2.2)
   replace h59 := row_nil2 h59
   have d64 := keep _ h17.m d51
   have d65 := keep _ h26.m d52
   have d66 := keep _ (inm1 K12) d53
   have d67 := keep _ (inm1 K21) d54
   replace hB := hB.o l h49.lo hB.size
   replace h17 := h17.goO l d51
   replace h26 := h26.goO l d52
   replace K12 := K12.only l d53.not
   replace K21 := K21.only l d54.not
   refine o_assign F rfl rfl (fun a F => ?_)
   refine x_end ?_
   refine x_tn ?_
   refine x_seq ?_
   refine x_seq ?_
   refine x_reg ?_
   refine o_assign F rfl rfl (fun a F => ?_)
   refine x_end ?_
   refine x_tn ?_
   obtain ⟨o149, hR, hk150⟩ := thn_some hR
   refine x_cutQ (fun a w => ∃ (s166 : List Literal) (v169 : Value) (rb170 : List Nat) (s171 : Int), o149 = .nx (s166, s171) ∧ Sk a 64 [(12, v169)] ∧ Below w0.heap.size w0 w ∧ Row 2 RLiteral 136 w0.heap.size w v169 s166 rb170 ([]) ∧ I64 s171) ?_ ?_
   ·
    refine x_blk ?_
    obtain ⟨fl153, hf154, hR⟩ := whl_gen hR
    refine x_loop (fun g a w => ∃ (s155 : List Literal) (v158 : Value) (rb159 : List Nat) (s160 : Int), whl fl153 g (s155, s160) = some o149 ∧ Sk a 64 [(3, .int .i64 x3), (4, .pointer (some ⟨b11, 0, none⟩)), (5, .pointer (some ⟨b20, 0, none⟩)), (12, v158), (13, .int .i64 s160)] ∧ Below w0.heap.size w0 w ∧ Row 2 RLiteral 136 w0.heap.size w v158 s155 rb159 ([]) ∧ I64 s160 ∧ Rd (Sl 2 RRel) w v15 x0.rels b16 ∧ Rd (Sl 2 RCon) w v24 x1.cons b25 ∧ Blk w b11 #[.int .i64 x0.size, v15] 33 ∧ Blk w b20 #[.int .i64 x1.vars, v24] 51 ∧ Dj b16 rb159 ∧ Dj b25 rb159 ∧ Dj (rb159 ++ []) [b11] ∧ Dj (rb159 ++ []) [b20]) N ?_ ?_
    ·
     exact ⟨z55, v57, rb58, 0, hR, F.sub (sc rfl (sc rfl (sc rfl (sc rfl (sc rfl sn))))), hB, h59, (show I64 (0) by decide), h17, h26, K12, K21, d64, d65, (Dj.app' (Dj.symm d66) (Dj.nil' _)), (Dj.app' (Dj.symm d67) (Dj.nil' _))⟩
    ·
     intro g176 a w ⟨s155, v158, rb159, s160, hR, F, hB, h157, i161, h17, h26, K12, K21, d162, d163, d164, d165⟩
     obtain ⟨ck173, rest174, hg178, hR, hn152⟩ := whl_round hR
     rw [hf154] at hR
     refine x_seq ?_
     refine x_seq ?_
     refine x_reg ?_
     refine o_move F rfl rfl (fun a F => ?_)
     refine o_move F rfl rfl (fun a F => ?_)
     refine o_len Tryz.underlying63 F rfl rfl h157.rd (fun a F => ?_)
     have i179 := (h157.rd).r.len64
     refine o_lss F rfl rfl rfl (fun a F => ?_)
     refine x_end ?_
     refine x_tn ?_
     refine x_if F rfl (fun hb180 => ?_) (fun hb180 => ?_)
     ·
      replace hR := ifT hb180 hR
      refine x_skip ?_
      refine x_tn ?_
      refine x_blk ?_
      refine x_seq ?_
      refine x_drawnB (by kernel_rfl) (fun w l hsz => ?_)
      replace hB := Below.through l hB
      replace h17 := h17.go l
      replace h26 := h26.go l
      replace h157 := h157.go l
      replace K12 := K12.thru l
      replace K21 := K21.thru l
      refine b_q0 1 rfl (by kernel_rfl) (by kernel_rfl) (by kernel_rfl) ?_
      refine v_val F rfl (fun w l => r_move F rfl) (fun a F => ?_)
      refine b_q0 2 rfl (by kernel_rfl) (by kernel_rfl) (by kernel_rfl) ?_
      refine v_val F rfl (fun w l => r_move F rfl) (fun a F => ?_)
      refine b_q 3 (by kernel_rfl) rfl (by kernel_rfl) (by kernel_rfl) (by kernel_rfl) (by kernel_rfl) ?_
      obtain ⟨z181, c182, hR⟩ := bnd_some hR
      refine v_sliceh Tryz.underlying63 Tryz.sizeOf136 F rfl rfl rfl h157.rd c182 (fun a v183 b184 h185 s186 F => ?_)
      refine b_q0 5 rfl (by kernel_rfl) (by kernel_rfl) (by kernel_rfl) ?_
      refine v_val F rfl (fun w l => r_move F rfl) (fun a F => ?_)
      refine b_q0 6 rfl (by kernel_rfl) (by kernel_rfl) (by kernel_rfl) ?_
      refine v_val F rfl (fun w l => r_move F rfl) (fun a F => ?_)
      refine b_q 7 (by kernel_rfl) rfl (by kernel_rfl) (by kernel_rfl) (by kernel_rfl) (by kernel_rfl) ?_
      obtain ⟨z187, c188, hR⟩ := bnd_some hR
      refine v_val F rfl (fun w l => r_add F rfl rfl c188) (fun a F => ?_)
      refine b_q 8 (by kernel_rfl) rfl (by kernel_rfl) (by kernel_rfl) (by kernel_rfl) (by kernel_rfl) ?_
      obtain ⟨z189, c190, hR⟩ := bnd_some hR
      refine v_slicel Tryz.underlying63 Tryz.sizeOf136 F rfl rfl rfl h157.rd c190 (fun a v191 b192 h193 s194 F => ?_)
      refine b_e 0 rfl (by kernel_rfl) ?_
      refine o_lit0 (R := RLiteral) Tryz.underlying63 Tryz.sizeOf136 F rfl (fun a w v195 rb196 h197 l F => ?_)
      have d199 := Dj.new h17.m h197.ownR (Nat.le_refl _)
      have d200 := Dj.new h26.m h197.ownR (Nat.le_refl _)
      have d201 := Dj.new h185.m h197.ownR (Nat.le_refl _)
      have d202 := Dj.new h193.m h197.ownR (Nat.le_refl _)
      have d203 := Dj.new h157.rd.m h197.ownR (Nat.le_refl _)
      have d204 := Dj.new (inm1 K12) h197.ownR (Nat.le_refl _)
      have d205 := Dj.new (inm1 K21) h197.ownR (Nat.le_refl _)
      have d206 := Dj.app' (Dj.new h157.memR h197.ownR (Nat.le_refl _)).symm (Dj.nil' _)
      have lo207 := fun c hc => Nat.le_trans hsz (h197.lo c hc)
      replace h197 := h197.base hB.size
      replace hB := Below.through l hB
      replace h17 := h17.go l
      replace h26 := h26.go l
      replace h157 := h157.go l
      replace h185 := h185.go l
      replace h193 := h193.go l
      replace K12 := K12.thru l
      replace K21 := K21.thru l
      refine x_end ?_
      refine x_tn ?_
      refine ⟨.inl (l.mono hsz), ?_⟩
      replace hsz := Nat.le_trans hsz l.size
      refine b_e 4 rfl (by kernel_rfl) ?_
      obtain ⟨z208, c209, hR⟩ := bnd_some hR
      obtain ⟨ib213, sr214, sn215⟩ := Rd.src (by decide) h185
      refine o_append (sz := 2) (R := RLiteral) (z := (.agg #[.int .i64 0, .int .i64 0])) (bytes := 16) Tryz.underlying63 (by kernel_rfl) rfl (by decide) (by decide) (by decide) F rfl rfl rfl h197 sr214 hB.size (Dj.symm (Dj.sub d201 sn215)) c209 (fun a w v210 rb211 h212 l keep F => ?_)
      obtain rfl : ib213 = [] := src_flat sr214 (fun w f x bs h => by first | exact h.2.2 | exact h.2 | exact h.2.2.2.2 | exact h.2.2.2.2.2.2 | exact h.2.2.2.2.2.2.2.2)
      replace h212 := row_nil2 h212
      have d217 := keep _ h17.m d199
      have d218 := keep _ h26.m d200
      have d219 := keep _ h193.m d202
      have d220 := keep _ h157.rd.m d203
      have d221 := keep _ (inm1 K12) d204
      have d222 := keep _ (inm1 K21) d205
      replace hB := hB.o l h197.lo hB.size
      replace h17 := h17.goO l d199
      replace h26 := h26.goO l d200
      replace h157 := h157.goO l d203
      replace h193 := h193.goO l d202
      replace K12 := K12.only l d204.not
      replace K21 := K21.only l d205.not
      refine x_end ?_
      refine x_tn ?_
      refine ⟨.inl ((Below.refl _ _).o l lo207 hsz), ?_⟩
      replace hsz := Nat.le_trans hsz l.size
      refine b_e 9 rfl (by kernel_rfl) ?_
      obtain ⟨z223, c224, hR⟩ := bnd_some hR
      obtain ⟨ib228, sr229, sn230⟩ := Rd.src (by decide) h193
      refine o_append (sz := 2) (R := RLiteral) (z := (.agg #[.int .i64 0, .int .i64 0])) (bytes := 16) Tryz.underlying63 (by kernel_rfl) rfl (by decide) (by decide) (by decide) F rfl rfl rfl h212 sr229 hB.size (Dj.symm (Dj.sub d219 sn230)) c224 (fun a w v225 rb226 h227 l keep F => ?_)
      obtain rfl : ib228 = [] := src_flat sr229 (fun w f x bs h => by first | exact h.2.2 | exact h.2 | exact h.2.2.2.2 | exact h.2.2.2.2.2.2 | exact h.2.2.2.2.2.2.2.2)
      replace h227 := row_nil2 h227
      have d232 := keep _ h17.m d217
      have d233 := keep _ h26.m d218
      have d234 := keep _ h157.rd.m d220
      have d235 := keep _ (inm1 K12) d221
      have d236 := keep _ (inm1 K21) d222
      replace hB := hB.o l h212.lo hB.size
      replace h17 := h17.goO l d217
      replace h26 := h26.goO l d218
      replace h157 := h157.goO l d220
      replace K12 := K12.only l d221.not
      replace K21 := K21.only l d222.not
      refine x_end ?_
      refine x_tn ?_
      refine ⟨.inr (by kernel_rfl), ?_⟩
      replace hsz := Nat.le_trans hsz l.size
      refine b_q0 10 rfl (by kernel_rfl) (by kernel_rfl) (by kernel_rfl) ?_
      refine v_val F rfl (fun w l => r_assign F rfl) (fun a F => ?_)
      refine b_end (by kernel_rfl) ?_
      refine x_tn ?_
      refine x_seq ?_
      refine x_reg ?_
      refine o_move F rfl rfl (fun a F => ?_)
      refine o_move F rfl rfl (fun a F => ?_)
      obtain ⟨z237, c238, hR⟩ := bnd_some hR
      refine o_gives F rfl Tryz.call93 rfl (spec_l08Bad_c z237 c238 _ (RTemplate.blk K12 i14 h17) (RInstance.blk K21 i23 h26) h227.rd hx3) (fun a vv w l ⟨hv240, i239⟩ F => ?_)
      subst vv
      replace hB := Below.through l hB
      replace h17 := h17.go l
      replace h26 := h26.go l
      replace h157 := h157.go l
      replace h227 := h227.go l
      replace K12 := K12.thru l
      replace K21 := K21.thru l
      refine o_move F rfl rfl (fun a F => ?_)
      refine o_extract F rfl rfl rfl (fun a F => ?_)
      refine o_extract F rfl rfl rfl (fun a F => ?_)
      refine o_assign F rfl rfl (fun a F => ?_)
      refine o_assign F rfl rfl (fun a F => ?_)
      refine x_end ?_
      refine x_tn ?_
      refine x_seq ?_
      refine x_seq ?_
      refine x_reg ?_
      refine o_move F rfl rfl (fun a F => ?_)
      refine o_neq F rfl rfl rfl (fun a F => ?_)
      refine x_end ?_
      refine x_tn ?_
      refine x_if F rfl (fun hb241 => ?_) (fun hb241 => ?_)
      ·
       replace hR := ifT hb241 hR
       refine x_seq ?_
       refine x_reg ?_
       refine o_lit0 (R := RLiteral) Tryz.underlying63 Tryz.sizeOf136 F rfl (fun a w v242 rb243 h244 l F => ?_)
       have d246 := Dj.app' (Dj.new h157.memR h244.ownR (Nat.le_refl _)).symm (Dj.nil' _)
       have d247 := Dj.app' (Dj.new h227.memR h244.ownR (Nat.le_refl _)).symm (Dj.nil' _)
       replace h244 := h244.base hB.size
       replace hB := Below.through l hB
       refine o_move F rfl rfl (fun a F => ?_)
       refine o_assign F rfl rfl (fun a F => ?_)
       refine o_assign F rfl rfl (fun a F => ?_)
       refine x_end ?_
       refine x_tn ?_
       refine x_ret ?_
       refine x_tr ?_
       refine x_br ?_
       refine x_tr ?_
       replace hR := l_ret hR hn152
       refine x_br ?_
       refine x_tr ?_
       replace hR := j_ret hR hk150
       refine x_tr ?_
       refine x_res2 F rfl (rv_t F rfl) (rv_t F rfl) ?_
       obtain rfl := Option.some.inj hR
       exact ⟨_, rfl, hB, v242, rb243, rfl, h244, i239⟩
      ·
       replace hR := ifF hb241 hR
       refine x_skip ?_
       refine x_tn ?_
       refine x_seq ?_
       refine x_reg ?_
       refine o_move F rfl rfl (fun a F => ?_)
       refine x_end ?_
       refine x_tn ?_
       refine x_if F rfl (fun hb248 => ?_) (fun hb248 => ?_)
       ·
        replace hR := ifT hb248 hR
        refine x_reg ?_
        refine o_move F rfl rfl (fun a F => ?_)
        refine o_assign F rfl rfl (fun a F => ?_)
        refine x_end ?_
        refine x_bn ?_
        refine x_tn ?_
        replace hR := l_go hR hn152
        exact ⟨rest174, (by omega), z223, v225, rb226, s160, hR, F.sub (sc rfl (sc rfl (sc rfl (sc rfl (sc rfl sn))))), hB, h227, i161, h17, h26, K12, K21, d232, d233, (Dj.app' (Dj.symm d235) (Dj.nil' _)), (Dj.app' (Dj.symm d236) (Dj.nil' _))⟩
       ·
        replace hR := ifF hb248 hR
        refine x_reg ?_
        refine o_move F rfl rfl (fun a F => ?_)
        refine o_add F rfl rfl rfl c188 (fun a F => ?_)
        refine o_assign F rfl rfl (fun a F => ?_)
        refine x_end ?_
        refine x_bn ?_
        refine x_tn ?_
        replace hR := l_go hR hn152
        exact ⟨rest174, (by omega), s155, v158, rb159, z187, hR, F.sub (sc rfl (sc rfl (sc rfl (sc rfl (sc rfl sn))))), hB, h157, (ck64 c188), h17, h26, K12, K21, d162, d163, d164, d165⟩
     ·
      replace hR := ifF hb180 hR
      refine x_exit ?_
      refine x_te ?_
      refine x_te ?_
      replace hR := l_brk hR hn152
      refine x_be ?_
      refine x_tn ?_
      exact ⟨s155, v158, rb159, s160, (Option.some.inj hR).symm, F.sub (sc rfl sn), hB, h157, i161⟩
   ·
    intro a w ⟨s166, v169, rb170, s171, ho151, F, hB, h168, i172⟩
    subst ho151
    have hR := then_nx hk150
    refine x_tn ?_
    refine x_seq ?_
    refine x_reg ?_
    refine o_move F rfl rfl (fun a F => ?_)
    refine o_assign F rfl rfl (fun a F => ?_)
    refine o_assign F rfl rfl (fun a F => ?_)
    refine x_end ?_
    refine x_tn ?_
    refine x_ret ?_
    refine x_res2 F rfl (rv_t F rfl) (rv_t F rfl) ?_
    obtain rfl := Option.some.inj hR
    exact ⟨_, rfl, hB, v169, rb170, rfl, h168, (show I64 (0) by decide)⟩

def impl_ShrinkNoGood (N : Nat) (x0 : Template) (x1 : Instance) (x2 : List Literal) (x3 : Int) : Option ((List Literal) × Int) :=
 bnd (impl_IsNoGood N (Template.mk x0.size x0.rels) (Instance.mk x1.vars x1.cons) x2 x3) fun z33 =>
 if (z33.2 != 0) then
  some ([], z33.2)
 else
  if (!z33.1) then
   some ([], 4)
  else
   bnd (slices_Clone_s_Literal_Literal x2) fun z39 =>
   thn (σ := (List Literal) × Int) (
    whl (σ := (List Literal) × Int) (ρ := (List Literal) × Int) (fun (s : (List Literal) × Int) =>
      match s with
      | (s114, s119) =>
      if (decide (s119 < (s114.length : Int))) then
       bnd (slices_Clone_s_Literal_Literal s114) fun z140 =>
       bnd (ck (s119 + 1)) fun z154 =>
       bnd (slices_Delete_s_Literal_Literal z140 s119 z154) fun z156 =>
       bnd (impl_isNoGood N (Template.mk x0.size x0.rels) (Instance.mk x1.vars x1.cons) z156 x3) fun z178 =>
       if (z178.2 != 0) then
        some (.ret ([], z178.2))
       else
        if z178.1 then
         some (.go (z156, s119))
        else
         some (.go (s114, z154))
      else
       some (.brk (s114, s119))) N (z39, 0)) fun (s125, s130) =>
   some (s125, 0)
set_option maxHeartbeats 1000000 in
theorem impl_ShrinkNoGood_c {N : Nat} {x0 : Template} {x1 : Instance} {x2 : List Literal} {x3 : Int} (r : (List Literal) × Int) (hR : impl_ShrinkNoGood N x0 x1 x2 x3 = some r) {v0 : Value} {b0 : List Nat} {v1 : Value} {b1 : List Nat} {v2 : Value} {b2 : List Nat} (w0 : World) (A0 : Rd (Agg 2 RTemplate) w0 v0 x0 b0) (A1 : Rd (Agg 2 RInstance) w0 v1 x1 b1) (A2 : Rd (Sl 2 RLiteral) w0 v2 x2 b2) (hx3 : I64 x3) : Calls Tryz.prog 60 #[v0, v1, v2, .int .i64 x3] w0 (Gives (fun v w' => ∃ (v1' : Value) (rb2' : List Nat), v = .tuple #[v1', .int .i64 r.2] ∧ Row 2 RLiteral 136 w0.heap.size w' v1' r.1 rb2' [] ∧ I64 r.2) w0) := by
 unfold impl_ShrinkNoGood at hR
 refine x_enter (L := [(0, v0), (1, v1), (2, v2), (3, .int .i64 x3)]) Tryz.func60 rfl rfl rfl (sc rfl (sc rfl (sc rfl (sc rfl sn)))) (fun a F => ?_)
 have hB := Below.refl w0.heap.size w0
 refine x_seq ?_
 refine x_reg ?_
 obtain ⟨v15, b16, e18, i14, h17, eb13⟩ := RTemplate.rd (A0.go hB)
 subst e18
 refine o_box F rfl rfl rfl (fun a w b11 K12 l BK12 F => ?_)
 have d19 := (dj1 h17.m BK12).symm
 have CK12 := Nat.le_trans hB.size BK12
 replace hB := Below.through l hB
 replace h17 := h17.go l
 obtain ⟨v24, b25, e27, i23, h26, eb22⟩ := RInstance.rd (A1.go hB)
 subst e27
 refine o_box F rfl rfl rfl (fun a w b20 K21 l BK21 F => ?_)
 have nb28 := Dj.bb K12 BK21
 have d29 := (dj1 h17.m BK21).symm
 have d30 := (dj1 h26.m BK21).symm
 have CK21 := Nat.le_trans hB.size BK21
 replace hB := Below.through l hB
 replace h17 := h17.go l
 replace h26 := h26.go l
 replace K12 := K12.thru l
 refine o_assign F rfl rfl (fun a F => ?_)
 refine o_assign F rfl rfl (fun a F => ?_)
 refine x_end ?_
 refine x_tn ?_
 refine x_seq ?_
 refine x_reg ?_
 refine o_bloadA (cs := [.int .i64 x0.size, v15]) Tryz.isAgg33 Tryz.sizeOf33 F rfl rfl K12 rfl (fun j hj => by match j, hj with | 0, _ => rfl | 1, _ => rfl) (fun a F => ?_)
 have h31 := RTemplate.mk2 (w := w) i14 h17
 refine o_bloadA (cs := [.int .i64 x1.vars, v24]) Tryz.isAgg51 Tryz.sizeOf51 F rfl rfl K21 rfl (fun j hj => by match j, hj with | 0, _ => rfl | 1, _ => rfl) (fun a F => ?_)
 have h32 := RInstance.mk2 (w := w) i23 h26
 refine o_move F rfl rfl (fun a F => ?_)
 refine o_move F rfl rfl (fun a F => ?_)
 obtain ⟨z33, c34, hR⟩ := bnd_some hR
 refine o_gives F rfl Tryz.call35 rfl (impl_IsNoGood_c z33 c34 _ h31 h32 (A2.go hB) hx3) (fun a vv w l ⟨hv36, i35⟩ F => ?_)
 subst vv
 replace hB := Below.through l hB
 replace h17 := h17.go l
 replace h26 := h26.go l
 replace K12 := K12.thru l
 replace K21 := K21.thru l
 refine o_move F rfl rfl (fun a F => ?_)
 refine o_extract F rfl rfl rfl (fun a F => ?_)
 refine o_extract F rfl rfl rfl (fun a F => ?_)
 refine o_assign F rfl rfl (fun a F => ?_)
 refine o_assign F rfl rfl (fun a F => ?_)
 refine x_end ?_
 refine x_tn ?_
 refine x_seq ?_
 refine x_blk ?_
 refine x_seq ?_
 refine x_reg ?_
 refine o_move F rfl rfl (fun a F => ?_)
 refine o_neq F rfl rfl rfl (fun a F => ?_)
 refine o_assign F rfl rfl (fun a F => ?_)
 refine x_end ?_
 refine x_tn ?_
 refine x_if F rfl (fun hb37 => ?_) (fun hb37 => ?_)
 ·
  replace hR := ifT hb37 hR
  refine x_seq ?_
  refine x_reg ?_
  refine o_move F rfl rfl (fun a F => ?_)
  refine o_assign F rfl rfl (fun a F => ?_)
  refine o_assign F rfl rfl (fun a F => ?_)
  refine x_end ?_
  refine x_tn ?_
  refine x_ret ?_
  refine x_br ?_
  refine x_tr ?_
  refine x_res2 F rfl (rv_t F rfl) (rv_t F rfl) ?_
  obtain rfl := Option.some.inj hR
  exact ⟨_, rfl, hB, (.slice none 0 0), [], rfl, Row.nil 2 RLiteral 136 _ _, i35⟩
 ·
  replace hR := ifF hb37 hR
  refine x_seq ?_
  refine x_reg ?_
  refine o_move F rfl rfl (fun a F => ?_)
  refine o_not F rfl rfl (fun a F => ?_)
  refine o_assign F rfl rfl (fun a F => ?_)
  refine x_end ?_
  refine x_tn ?_
  refine x_if F rfl (fun hb38 => ?_) (fun hb38 => ?_)
  ·
   replace hR := ifT hb38 hR
   refine x_seq ?_
   refine x_reg ?_
   refine o_assign F rfl rfl (fun a F => ?_)
   refine o_assign F rfl rfl (fun a F => ?_)
   refine x_end ?_
   refine x_tn ?_
   refine x_ret ?_
   refine x_br ?_
   refine x_tr ?_
   refine x_res2 F rfl (rv_t F rfl) (rv_t F rfl) ?_
   obtain rfl := Option.some.inj hR
   exact ⟨_, rfl, hB, (.slice none 0 0), [], rfl, Row.nil 2 RLiteral 136 _ _, (show I64 (4) by decide)⟩
  ·
   replace hR := ifF hb38 hR
   refine x_skip ?_
   refine x_bn ?_
   refine x_tn ?_
   refine x_seq ?_
   refine x_reg ?_
   refine o_move F rfl rfl (fun a F => ?_)
   obtain ⟨z39, c40, hR⟩ := bnd_some hR
   refine o_gives F rfl Tryz.call117 rfl (slices_Clone_s_Literal_Literal_c z39 c40 _ (A2.go hB)) (fun a vv w l ⟨v41, rb42, hv45, h44⟩ F => ?_)
   subst vv
   have d47 := Dj.new h17.m h44.ownR (Nat.le_refl _)
   have d48 := Dj.new h26.m h44.ownR (Nat.le_refl _)
   have d49 := Dj.new (inm1 K12) h44.ownR (Nat.le_refl _)
   have d50 := Dj.new (inm1 K21) h44.ownR (Nat.le_refl _)
   replace h44 := h44.base hB.size
   replace hB := Below.through l hB
   replace h17 := h17.go l
   replace h26 := h26.go l
   replace K12 := K12.thru l
   replace K21 := K21.thru l
   refine o_assign F rfl rfl (fun a F => ?_)
   refine x_end ?_
   refine x_tn ?_
   refine x_seq ?_
   refine x_seq ?_
   refine x_reg ?_
   refine o_assign F rfl rfl (fun a F => ?_)
   refine x_end ?_
   refine x_tn ?_
   obtain ⟨o108, hR, hk109⟩ := thn_some hR
   refine x_cutQ (fun a w => ∃ (s125 : List Literal) (v128 : Value) (rb129 : List Nat) (s130 : Int), o108 = .nx (s125, s130) ∧ Sk a 62 [(12, v128)] ∧ Below w0.heap.size w0 w ∧ Row 2 RLiteral 136 w0.heap.size w v128 s125 rb129 ([]) ∧ I64 s130) ?_ ?_
   ·
    refine x_blk ?_
    obtain ⟨fl112, hf113, hR⟩ := whl_gen hR
    refine x_loop (fun g a w => ∃ (s114 : List Literal) (v117 : Value) (rb118 : List Nat) (s119 : Int), whl fl112 g (s114, s119) = some o108 ∧ Sk a 62 [(3, .int .i64 x3), (4, .pointer (some ⟨b11, 0, none⟩)), (5, .pointer (some ⟨b20, 0, none⟩)), (12, v117), (13, .int .i64 s119)] ∧ Below w0.heap.size w0 w ∧ Row 2 RLiteral 136 w0.heap.size w v117 s114 rb118 ([]) ∧ I64 s119 ∧ Rd (Sl 2 RRel) w v15 x0.rels b16 ∧ Rd (Sl 2 RCon) w v24 x1.cons b25 ∧ Blk w b11 #[.int .i64 x0.size, v15] 33 ∧ Blk w b20 #[.int .i64 x1.vars, v24] 51 ∧ Dj b16 rb118 ∧ Dj b25 rb118 ∧ Dj (rb118 ++ []) [b11] ∧ Dj (rb118 ++ []) [b20]) N ?_ ?_
    ·
     exact ⟨z39, v41, rb42, 0, hR, F.sub (sc rfl (sc rfl (sc rfl (sc rfl (sc rfl sn))))), hB, h44, (show I64 (0) by decide), h17, h26, K12, K21, d47, d48, (Dj.app' (Dj.symm d49) (Dj.nil' _)), (Dj.app' (Dj.symm d50) (Dj.nil' _))⟩
    ·
     intro g135 a w ⟨s114, v117, rb118, s119, hR, F, hB, h116, i120, h17, h26, K12, K21, d121, d122, d123, d124⟩
     obtain ⟨ck132, rest133, hg137, hR, hn111⟩ := whl_round hR
     rw [hf113] at hR
     refine x_seq ?_
     refine x_seq ?_
     refine x_reg ?_
     refine o_move F rfl rfl (fun a F => ?_)
     refine o_move F rfl rfl (fun a F => ?_)
     refine o_len Tryz.underlying63 F rfl rfl h116.rd (fun a F => ?_)
     have i138 := (h116.rd).r.len64
     refine o_lss F rfl rfl rfl (fun a F => ?_)
     refine x_end ?_
     refine x_tn ?_
     refine x_if F rfl (fun hb139 => ?_) (fun hb139 => ?_)
     ·
      replace hR := ifT hb139 hR
      refine x_skip ?_
      refine x_tn ?_
      refine x_blk ?_
      refine x_seq ?_
      refine x_reg ?_
      refine o_move F rfl rfl (fun a F => ?_)
      obtain ⟨z140, c141, hR⟩ := bnd_some hR
      refine o_gives F rfl Tryz.call117 rfl (slices_Clone_s_Literal_Literal_c z140 c141 _ h116.rd) (fun a vv w l ⟨v142, rb143, hv146, h145⟩ F => ?_)
      subst vv
      have d148 := Dj.new h17.m h145.ownR (Nat.le_refl _)
      have d149 := Dj.new h26.m h145.ownR (Nat.le_refl _)
      have d150 := Dj.new h116.rd.m h145.ownR (Nat.le_refl _)
      have d151 := Dj.new (inm1 K12) h145.ownR (Nat.le_refl _)
      have d152 := Dj.new (inm1 K21) h145.ownR (Nat.le_refl _)
      have d153 := Dj.app' (Dj.new h116.memR h145.ownR (Nat.le_refl _)).symm (Dj.nil' _)
      replace h145 := h145.base hB.size
      replace hB := Below.through l hB
      replace h17 := h17.go l
      replace h26 := h26.go l
      replace h116 := h116.go l
      replace K12 := K12.thru l
      replace K21 := K21.thru l
      refine o_move F rfl rfl (fun a F => ?_)
      refine o_move F rfl rfl (fun a F => ?_)
      obtain ⟨z154, c155, hR⟩ := bnd_some hR
      refine o_add F rfl rfl rfl c155 (fun a F => ?_)
      obtain ⟨z156, c157, hR⟩ := bnd_some hR
      have d164 : Dj b16 rb143 := d148
      have d165 : Dj b25 rb143 := d149
      have d166 : Dj (rb118 ++ []) rb143 := d150
      have d167 : Dj [b11] rb143 := d151
      have d168 : Dj [b20] rb143 := d152
      refine o_givesX F rfl Tryz.call118 rfl (slices_Delete_s_Literal_Literal_c z156 c157 _ (h145.base (Nat.zero_le _)) i120 (ck64 c155)) (fun a vv w l ⟨v158, rb159, hv163, h161, fr162⟩ F => ?_)
      subst vv
      have d169 := Dj.frs h17.m d164 fr162
      have d170 := Dj.frs h26.m d165 fr162
      have d171 := Dj.frs h116.rd.m d166 fr162
      have d172 := Dj.frs (inm1 K12) d167 fr162
      have d173 := Dj.frs (inm1 K21) d168 fr162
      replace h161 := Row.rebase h161 (Frs.trans0 fr162 h145.lo hB.size)
      replace hB := hB.o l h145.lo hB.size
      replace h17 := h17.goO l d164
      replace h26 := h26.goO l d165
      replace h116 := h116.goO l d166
      replace K12 := K12.only l (Dj.not d167)
      replace K21 := K21.only l (Dj.not d168)
      refine o_assign F rfl rfl (fun a F => ?_)
      refine x_end ?_
      refine x_tn ?_
      refine x_seq ?_
      refine x_reg ?_
      refine o_bloadA (cs := [.int .i64 x0.size, v15]) Tryz.isAgg33 Tryz.sizeOf33 F rfl rfl K12 rfl (fun j hj => by match j, hj with | 0, _ => rfl | 1, _ => rfl) (fun a F => ?_)
      have h176 := RTemplate.mk2 (w := w) i14 h17
      refine o_bloadA (cs := [.int .i64 x1.vars, v24]) Tryz.isAgg51 Tryz.sizeOf51 F rfl rfl K21 rfl (fun j hj => by match j, hj with | 0, _ => rfl | 1, _ => rfl) (fun a F => ?_)
      have h177 := RInstance.mk2 (w := w) i23 h26
      refine o_move F rfl rfl (fun a F => ?_)
      refine o_move F rfl rfl (fun a F => ?_)
      obtain ⟨z178, c179, hR⟩ := bnd_some hR
      refine o_gives F rfl Tryz.call96 rfl (impl_isNoGood_c z178 c179 _ h176 h177 h161.rd hx3) (fun a vv w l ⟨hv181, i180⟩ F => ?_)
      subst vv
      replace hB := Below.through l hB
      replace h17 := h17.go l
      replace h26 := h26.go l
      replace h116 := h116.go l
      replace h161 := h161.go l
      replace K12 := K12.thru l
      replace K21 := K21.thru l
      refine o_move F rfl rfl (fun a F => ?_)
      refine o_extract F rfl rfl rfl (fun a F => ?_)
      refine o_extract F rfl rfl rfl (fun a F => ?_)
      refine o_assign F rfl rfl (fun a F => ?_)
      refine o_assign F rfl rfl (fun a F => ?_)
      refine x_end ?_
      refine x_tn ?_
      refine x_blk ?_
      refine x_seq ?_
      refine x_reg ?_
      refine o_move F rfl rfl (fun a F => ?_)
      refine o_neq F rfl rfl rfl (fun a F => ?_)
      refine o_assign F rfl rfl (fun a F => ?_)
      refine x_end ?_
      refine x_tn ?_
      refine x_if F rfl (fun hb182 => ?_) (fun hb182 => ?_)
      ·
       replace hR := ifT hb182 hR
       refine x_seq ?_
       refine x_reg ?_
       refine o_move F rfl rfl (fun a F => ?_)
       refine o_assign F rfl rfl (fun a F => ?_)
       refine o_assign F rfl rfl (fun a F => ?_)
       refine x_end ?_
       refine x_tn ?_
       refine x_ret ?_
       refine x_br ?_
       refine x_br ?_
       refine x_tr ?_
       replace hR := l_ret hR hn111
       refine x_br ?_
       refine x_tr ?_
       replace hR := j_ret hR hk109
       refine x_tr ?_
       refine x_res2 F rfl (rv_t F rfl) (rv_t F rfl) ?_
       obtain rfl := Option.some.inj hR
       exact ⟨_, rfl, hB, (.slice none 0 0), [], rfl, Row.nil 2 RLiteral 136 _ _, i180⟩
      ·
       replace hR := ifF hb182 hR
       refine x_seq ?_
       refine x_reg ?_
       refine o_move F rfl rfl (fun a F => ?_)
       refine o_assign F rfl rfl (fun a F => ?_)
       refine x_end ?_
       refine x_tn ?_
       refine x_if F rfl (fun hb183 => ?_) (fun hb183 => ?_)
       ·
        replace hR := ifT hb183 hR
        refine x_reg ?_
        refine o_move F rfl rfl (fun a F => ?_)
        refine o_assign F rfl rfl (fun a F => ?_)
        refine x_end ?_
        refine x_bn ?_
        refine x_bn ?_
        refine x_tn ?_
        replace hR := l_go hR hn111
        exact ⟨rest133, (by omega), z156, v158, rb159, s119, hR, F.sub (sc rfl (sc rfl (sc rfl (sc rfl (sc rfl sn))))), hB, h161, i120, h17, h26, K12, K21, d169, d170, (Dj.app' (Dj.symm d172) (Dj.nil' _)), (Dj.app' (Dj.symm d173) (Dj.nil' _))⟩
       ·
        replace hR := ifF hb183 hR
        refine x_reg ?_
        refine o_move F rfl rfl (fun a F => ?_)
        refine o_add F rfl rfl rfl c155 (fun a F => ?_)
        refine o_assign F rfl rfl (fun a F => ?_)
        refine x_end ?_
        refine x_bn ?_
        refine x_bn ?_
        refine x_tn ?_
        replace hR := l_go hR hn111
        exact ⟨rest133, (by omega), s114, v117, rb118, z154, hR, F.sub (sc rfl (sc rfl (sc rfl (sc rfl (sc rfl sn))))), hB, h116, (ck64 c155), h17, h26, K12, K21, d121, d122, d123, d124⟩
     ·
      replace hR := ifF hb139 hR
      refine x_exit ?_
      refine x_te ?_
      refine x_te ?_
      replace hR := l_brk hR hn111
      refine x_be ?_
      refine x_tn ?_
      exact ⟨s114, v117, rb118, s119, (Option.some.inj hR).symm, F.sub (sc rfl sn), hB, h116, i120⟩
   ·
    intro a w ⟨s125, v128, rb129, s130, ho110, F, hB, h127, i131⟩
    subst ho110
    have hR := then_nx hk109
    refine x_tn ?_
    refine x_seq ?_
    refine x_reg ?_
    refine o_move F rfl rfl (fun a F => ?_)
    refine o_assign F rfl rfl (fun a F => ?_)
    refine o_assign F rfl rfl (fun a F => ?_)
    refine x_end ?_
    refine x_tn ?_
    refine x_ret ?_
    refine x_res2 F rfl (rv_t F rfl) (rv_t F rfl) ?_
    obtain rfl := Option.some.inj hR
    exact ⟨_, rfl, hB, v128, rb129, rfl, h127, (show I64 (0) by decide)⟩
end Go.Proofs.YtfepllddlmhjiaaGreat
