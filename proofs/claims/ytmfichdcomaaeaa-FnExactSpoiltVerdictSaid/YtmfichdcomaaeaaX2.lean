/-
  Functions of the program as plain functions, and that they compute them. Printed by fxgen.py.
-/
import Derived.Test.YtmfichdcomaaeaaX1
namespace Go.Proofs.Ytmfichdcomaaeaa
set_option linter.unusedVariables false
set_option linter.unusedSimpArgs false
set_option maxRecDepth 100000
open Go.RowKit
def spec_OwnGadgets (x0 : Template) : Option (Gadgets × Int) :=
  bnd (spec_l01Template (Template.mk x0.size x0.rels)) fun z24 =>
  if (!z24) then
    some ((Gadgets.mk ([])), 1)
  else
    thn (σ := (List Formula)) (
      forL (σ := (List Formula)) (ρ := Gadgets × Int) (fun (k203 : Nat) (x205 : Rel) (s183 : (List Formula)) =>
        bnd (spec_AtomFormula (Template.mk x0.size x0.rels) (k203 : Int)) fun z211 =>
        bnd (ap s183 ([(Formula.mk z211.1.free z211.1.vars z211.1.atoms)])) fun z263 =>
        some (.go z263)) x0.rels 0 []) fun s194 =>
    some ((Gadgets.mk s194), 0)
set_option maxHeartbeats 1000000 in
theorem spec_OwnGadgets_c {x0 : Template} (r : Gadgets × Int) (hR : spec_OwnGadgets x0 = some r) {v0 : Value} {b0 : List Nat} (w0 : World) (A0 : Rd (Agg 2 RTemplate) w0 v0 x0 b0) : Calls Try.prog 45 #[v0] w0 (Gives (fun v w' => ∃ (v1' : Value) (rb2' : List Nat) (ib3' : List Nat), v = .tuple #[.agg #[v1'], .int .i64 r.2] ∧ Row 3 RFormula 114 w0.heap.size w' v1' r.1.formulas rb2' ib3' ∧ Own w0.heap.size ib3' w' ∧ I64 r.2) w0) := by
  unfold spec_OwnGadgets at hR
  refine x_enter (L := [(0, v0)]) Try.func45 rfl rfl rfl (sc rfl sn) (fun a F => ?_)
  have hB := Below.refl w0.heap.size w0
  refine x_seq ?_
  refine x_reg ?_
  obtain ⟨v15, b16, e18, i14, h17, eb13⟩ := RTemplate.rd (A0.go hB)
  subst e18
  refine o_box F rfl rfl rfl (fun a w b11 K12 l BK12 F => ?_)
  have d19 := (dj1 h17.m BK12).symm
  have CK12 := Nat.le_trans hB.size BK12
  replace hB := Below.through l hB
  replace h17 := h17.go l
  refine o_alloc Try.zeroValue49 F rfl rfl (fun a w b20 K21 l BK21 F => ?_)
  have nb22 := Dj.bb K12 BK21
  have d23 := (dj1 h17.m BK21).symm
  have CK21 := Nat.le_trans hB.size BK21
  replace hB := Below.through l hB
  replace h17 := h17.go l
  replace K12 := K12.thru l
  refine o_assign F rfl rfl (fun a F => ?_)
  refine x_end ?_
  refine x_tn ?_
  refine x_seq ?_
  refine x_seq ?_
  refine x_reg ?_
  obtain ⟨z24, c25, hR⟩ := bnd_some hR
  refine o_says F rfl Try.call103 rfl (spec_l01Template_c z24 c25 _ (RTemplate.blk K12 i14 h17)) (fun a w l F => ?_)
  replace hB := Below.through l hB
  replace h17 := h17.go l
  replace K12 := K12.thru l
  replace K21 := K21.thru l
  refine o_not F rfl rfl (fun a F => ?_)
  refine x_end ?_
  refine x_tn ?_
  refine x_if F rfl (fun hb26 => ?_) (fun hb26 => ?_)
  · replace hR := ifT hb26 hR
    refine x_seq ?_
    refine x_reg ?_
    refine o_build Try.underlying49 Try.zeroValue49 (fun w => by simp [Try.sizeOf47]; rfl) F rfl rfl rfl rfl rfl on rfl rfl (fun a F => ?_)
    have h27 := RGadgets.mk2 (w := w) (Rd.nil 3 RFormula _)
    refine o_bstoreA (vs := [(.slice none 0 0)]) Try.sizeOf49 F rfl rfl rfl K21 (oc rfl on) (Nat.le_of_ble_eq_true rfl) rfl (fun w K21 l => ?_)
    replace hB := hB.o l (fun c hc => by rw [List.mem_singleton] at hc; rw [hc]; exact CK21) hB.size
    refine o_assign F rfl rfl (fun a F => ?_)
    refine x_end ?_
    refine x_tn ?_
    refine x_ret ?_
    refine x_tr ?_
    refine x_res2 F rfl (rv_cA (arr := #[(.slice none 0 0)]) F Try.isAgg49 Try.sizeOf49 rfl K21) (rv_t F rfl) ?_
    obtain rfl := Option.some.inj hR
    exact ⟨_, rfl, hB, (.slice none 0 0), [], [], rfl, Row.nil 3 RFormula 114 _ _, Own.nil _ _, (show I64 (1) by decide)⟩
  · replace hR := ifF hb26 hR
    refine x_skip ?_
    refine x_tn ?_
    refine x_seq ?_
    refine x_reg ?_
    refine o_build Try.underlying49 Try.zeroValue49 (fun w => by simp [Try.sizeOf47]; rfl) F rfl rfl rfl rfl rfl on rfl rfl (fun a F => ?_)
    have h28 := RGadgets.mk2 (w := w) (Rd.nil 3 RFormula _)
    refine o_alloc Try.zeroValue49 F rfl rfl (fun a w b29 K30 l BK30 F => ?_)
    have nb31 := Dj.bb K12 BK30
    have nb32 := Dj.bb K21 BK30
    have d33 := (dj1 h17.m BK30).symm
    have d34 := (dj1 h28.m BK30).symm
    have CK30 := Nat.le_trans hB.size BK30
    replace hB := Below.through l hB
    replace h17 := h17.go l
    replace h28 := h28.go l
    replace K12 := K12.thru l
    replace K21 := K21.thru l
    refine o_bstoreA (vs := [(.slice none 0 0)]) Try.sizeOf49 F rfl rfl rfl K30 (oc rfl on) (Nat.le_of_ble_eq_true rfl) rfl (fun w K30 l => ?_)
    replace hB := hB.o l (fun c hc => by rw [List.mem_singleton] at hc; rw [hc]; exact CK30) hB.size
    replace h17 := h17.goO l d33
    replace K12 := K12.only l (by simpa using nb31)
    replace K21 := K21.only l (by simpa using nb32)
    refine x_end ?_
    refine x_tn ?_
    refine x_seq ?_
    refine x_seq ?_
    refine x_reg ?_
    refine o_assign F rfl rfl (fun a F => ?_)
    refine x_end ?_
    refine x_tn ?_
    obtain ⟨o177, hR, hk178⟩ := thn_some hR
    refine x_cutQ (fun a w => ∃ (s194 : List Formula) (v196 : Value) (rb197 : List Nat) (ib199 : List Nat), o177 = .nx s194 ∧ Sk a 32 [(2, .pointer (some ⟨b20, 0, none⟩)), (4, .pointer (some ⟨b29, 0, none⟩))] ∧ Below w0.heap.size w0 w ∧ Row 3 RFormula 114 w0.heap.size w v196 s194 rb197 ib199 ∧ Own w0.heap.size ib199 w ∧ Blk w b20 #[(.slice none 0 0)] 49 ∧ Blk w b29 #[v196] 49 ∧ Dj (rb197 ++ ib199) [b20] ∧ Dj (rb197 ++ ib199) [b29]) ?_ ?_
    · refine x_blk ?_
      obtain ⟨fl181, hf182, hR⟩ := forL_gen hR
      refine x_loop (fun g a w => ∃ (k203 : Nat) (rest204 : List Rel) (s183 : List Formula) (v185 : Value) (rb186 : List Nat) (ib188 : List Nat), (k203 ≤ x0.rels.length ∧ x0.rels.drop k203 = rest204) ∧ rest204.length = g ∧ forL fl181 rest204 k203 s183 = some o177 ∧ Sk a 32 [(5, .int .i64 (k203 : Int)), (1, .pointer (some ⟨b11, 0, none⟩)), (2, .pointer (some ⟨b20, 0, none⟩)), (4, .pointer (some ⟨b29, 0, none⟩))] ∧ Below w0.heap.size w0 w ∧ Row 3 RFormula 114 w0.heap.size w v185 s183 rb186 ib188 ∧ Own w0.heap.size ib188 w ∧ Rd (Sl 2 RRel) w v15 x0.rels b16 ∧ Blk w b11 #[.int .i64 x0.size, v15] 87 ∧ Blk w b20 #[(.slice none 0 0)] 49 ∧ Blk w b29 #[v185] 49 ∧ Dj b16 rb186 ∧ Dj (rb186 ++ ib188) [b11] ∧ Dj (rb186 ++ ib188) [b20] ∧ Dj (rb186 ++ ib188) [b29]) x0.rels.length ?_ ?_
      · exact ⟨0, x0.rels, [], (.slice none 0 0), [], [], ⟨Nat.zero_le _, rfl⟩, rfl, hR, F.sub (sc rfl (sc rfl (sc rfl (sc rfl sn)))), hB, Row.nil 3 RFormula 114 _ _, Own.nil _ _, h17, K12, K21, K30, (Dj.nil _), (Dj.nil' _), (Dj.nil' _), (Dj.nil' _)⟩
      · intro g206 a w ⟨k203, rest204, s183, v185, rb186, ib188, hd207, hg208, hR, F, hB, h187, ow189, h17, K12, K21, K30, d190, d191, d192, d193⟩
        cases rest204 with
        | nil =>
          replace hR := forL_nil hR
          have hkk203 := drop_nil hd207.1 hd207.2
          have hlk203 := dec_no hkk203
          refine x_seq ?_
          refine x_seq ?_
          refine x_reg ?_
          refine o_move F rfl rfl (fun a F => ?_)
          refine o_bfield fa87_1 F rfl rfl rfl (fun a F => ?_)
          refine o_bload Try.isAgg85 F rfl rfl K12 rfl (fun a F => ?_)
          refine o_len Try.underlying85 F rfl rfl h17 (fun a F => ?_)
          have i277 := (h17).r.len64
          refine o_lss F rfl rfl rfl (fun a F => ?_)
          refine x_end ?_
          refine x_tn ?_
          refine x_ifF F rfl hlk203 ?_
          refine x_exit ?_
          refine x_te ?_
          refine x_te ?_
          refine x_be ?_
          refine x_tn ?_
          exact ⟨s183, v185, rb186, ib188, (Option.some.inj hR).symm, F.sub (sc rfl (sc rfl sn)), hB, h187, ow189, K21, K30, d192, d193⟩
        | cons x205 rest204 =>
          subst hg208
          replace hd207 := drop_cons hd207.2
          have hxk203 := ix_nat hd207.2.1
          obtain ⟨ck203, hR, hn180⟩ := forL_cons hR
          rw [hf182] at hR
          have hlk203 := dec_yes hd207.1
          refine x_seq ?_
          refine x_seq ?_
          refine x_reg ?_
          refine o_move F rfl rfl (fun a F => ?_)
          refine o_bfield fa87_1 F rfl rfl rfl (fun a F => ?_)
          refine o_bload Try.isAgg85 F rfl rfl K12 rfl (fun a F => ?_)
          refine o_len Try.underlying85 F rfl rfl h17 (fun a F => ?_)
          have i209 := (h17).r.len64
          refine o_lss F rfl rfl rfl (fun a F => ?_)
          refine x_end ?_
          refine x_tn ?_
          refine x_ifT F rfl hlk203 ?_
          refine x_skip ?_
          refine x_tn ?_
          refine x_seq ?_
          have ikk203 := k64 (Nat.le_of_lt hd207.1) i209
          have ink203 := inc64 hd207.1 i209
          refine x_blk ?_
          refine x_seq ?_
          refine x_reg ?_
          refine o_bloadA (cs := [.int .i64 x0.size, v15]) Try.isAgg87 Try.sizeOf87 F rfl rfl K12 rfl (fun j hj => by match j, hj with | 0, _ => rfl | 1, _ => rfl) (fun a F => ?_)
          have h210 := RTemplate.mk2 (w := w) i14 h17
          refine o_move F rfl rfl (fun a F => ?_)
          obtain ⟨z211, c212, hR⟩ := bnd_some hR
          refine o_gives F rfl Try.call104 rfl (spec_AtomFormula_c z211 c212 _ h210 ikk203) (fun a vv w l ⟨v215, rb216, ib217, hv221, i213, i214, h218, ow219, i220⟩ F => ?_)
          subst vv
          have o222 := h218.own ow219
          have d223 := (Dj.new (inm1 K12) o222 (Nat.le_refl _)).symm
          have d224 := (Dj.new (inm1 K21) o222 (Nat.le_refl _)).symm
          have d225 := (Dj.new (inm1 K30) o222 (Nat.le_refl _)).symm
          have d226 := (Dj.new h187.memR o222 (Nat.le_refl _)).symm
          have d227 := (Dj.new h187.mem o222 (Nat.le_refl _)).symm
          have d229 := Dj.new h17.m h218.ownR (Nat.le_refl _)
          have d230 := Dj.new h187.rd.m h218.ownR (Nat.le_refl _)
          have d231 := Dj.new (inm1 K12) h218.ownR (Nat.le_refl _)
          have d232 := Dj.new (inm1 K21) h218.ownR (Nat.le_refl _)
          have d233 := Dj.new (inm1 K30) h218.ownR (Nat.le_refl _)
          replace h218 := h218.base hB.size
          replace ow219 := ow219.mono hB.size
          replace hB := Below.through l hB
          replace h17 := h17.go l
          replace h187 := h187.go l
          replace ow189 := ow189.go l
          replace K12 := K12.thru l
          replace K21 := K21.thru l
          replace K30 := K30.thru l
          have h234 := RFormula.mk2 (w := w) i213 i214 h218.rd
          refine o_move F rfl rfl (fun a F => ?_)
          refine o_extract F rfl rfl rfl (fun a F => ?_)
          refine o_extract F rfl rfl rfl (fun a F => ?_)
          refine o_alloc Try.zeroValue114 F rfl rfl (fun a w b235 K236 l BK236 F => ?_)
          have d237 := dj1 h187.memR BK236
          have d238 := dj1 h218.memR BK236
          have nb239 := Dj.bb K12 BK236
          have nb240 := Dj.bb K21 BK236
          have nb241 := Dj.bb K30 BK236
          have d242 := (dj1 h17.m BK236).symm
          have d243 := (dj1 h234.m BK236).symm
          have d244 := (dj1 h187.rd.m BK236).symm
          have d245 := (dj1 h218.rd.m BK236).symm
          have CK236 := Nat.le_trans hB.size BK236
          replace hB := Below.through l hB
          replace h17 := h17.go l
          replace h187 := h187.go l
          replace ow189 := ow189.go l
          replace h218 := h218.go l
          replace ow219 := ow219.go l
          replace h234 := h234.go l
          replace K12 := K12.thru l
          replace K21 := K21.thru l
          replace K30 := K30.thru l
          refine o_bstoreA (vs := [.int .i64 z211.1.free, .int .i64 z211.1.vars, v215]) Try.sizeOf114 F rfl rfl rfl K236 (oc rfl (oc rfl (oc (h218.rd).r.one on))) (Nat.le_of_ble_eq_true rfl) rfl (fun w K236 l => ?_)
          replace hB := hB.o l (fun c hc => by rw [List.mem_singleton] at hc; rw [hc]; exact CK236) hB.size
          replace h17 := h17.goO l d242
          replace h187 := h187.goO l d244
          replace ow189 := ow189.goO l d244.r
          replace h218 := h218.goO l d245
          replace ow219 := ow219.goO l d245.r
          replace K12 := K12.only l (by simpa using nb239)
          replace K21 := K21.only l (by simpa using nb240)
          replace K30 := K30.only l (by simpa using nb241)
          refine o_assign F rfl rfl (fun a F => ?_)
          refine x_end ?_
          refine x_tn ?_
          refine x_reg ?_
          refine o_bfield fa49_0 F rfl rfl rfl (fun a F => ?_)
          refine o_bload Try.isAgg47 F rfl rfl K30 rfl (fun a F => ?_)
          refine o_bloadA (cs := [.int .i64 z211.1.free, .int .i64 z211.1.vars, v215]) Try.isAgg114 Try.sizeOf114 F rfl rfl K236 rfl (fun j hj => by match j, hj with | 0, _ => rfl | 1, _ => rfl | 2, _ => rfl) (fun a F => ?_)
          have h246 := RFormula.mk2 (w := w) i213 i214 h218.rd
          refine o_lit1 (R := RFormula) (y := (Formula.mk z211.1.free z211.1.vars z211.1.atoms)) Try.underlying47 Try.sizeOf114 Try.zeroValue114 rfl (by decide) (by decide) F rfl rfl (El.agg h246) (fun a w v247 rb248 h249 l F => ?_)
          have ow250 := Own.go (h218.own ow219) l
          have d252 := Dj.new h17.m h249.ownR (Nat.le_refl _)
          have d253 := Dj.new h187.rd.m h249.ownR (Nat.le_refl _)
          have d254 := Dj.new (inm1 K12) h249.ownR (Nat.le_refl _)
          have d255 := Dj.new (inm1 K21) h249.ownR (Nat.le_refl _)
          have d256 := Dj.new (inm1 K30) h249.ownR (Nat.le_refl _)
          have d257 := Dj.app' (Dj.new h187.memR h249.ownR (Nat.le_refl _)).symm d226
          have d258 := Dj.app' (Dj.new h187.mem h249.ownR (Nat.le_refl _)).symm d227
          have d259 := Dj.app' (Dj.symm d254) d223
          have d260 := Dj.app' (Dj.symm d255) d224
          have d261 := Dj.app' (Dj.symm d256) d225
          replace h249 := h249.base hB.size
          replace hB := Below.through l hB
          replace h17 := h17.go l
          replace h187 := h187.go l
          replace ow189 := ow189.go l
          replace K12 := K12.thru l
          replace K21 := K21.thru l
          replace K30 := K30.thru l
          obtain ⟨z263, c264, hR⟩ := bnd_some hR
          refine o_append (sz := 3) (R := RFormula) (z := (.agg #[.int .i64 0, .int .i64 0, (.slice none 0 0)])) (bytes := 40) Try.underlying47 (by kernel_rfl) rfl (by decide) (by decide) (by decide) F rfl rfl rfl h187 h249.src hB.size (Dj.symm d257.r) c264 (fun a w v265 rb266 h267 l keep F => ?_)
          have ow268 := Own.append (Own.goO ow189 l h187.dj.symm) (Own.goO ow250 l (Dj.symm (Dj.symm d257.r))) (Dj.symm d258.r)
          have d270 := keep _ h17.m d190
          have d271 := keep _ (inm1 K12) (Dj.symm (Dj.l d191))
          have d272 := keep _ (inm1 K21) (Dj.symm (Dj.l d192))
          have d273 := keep _ (inm1 K30) (Dj.symm (Dj.l d193))
          replace hB := hB.o l h187.lo hB.size
          replace h17 := h17.goO l d190
          replace K12 := K12.only l (Dj.symm (Dj.l d191)).not
          replace K21 := K21.only l (Dj.symm (Dj.l d192)).not
          replace K30 := K30.only l (Dj.symm (Dj.l d193)).not
          have d274 := Dj.app' (Dj.symm d271) (Dj.app' (Dj.r d191) (Dj.r d259))
          have d275 := Dj.app' (Dj.symm d272) (Dj.app' (Dj.r d192) (Dj.r d260))
          have d276 := Dj.app' (Dj.symm d273) (Dj.app' (Dj.r d193) (Dj.r d261))
          refine o_bfield fa49_0 F rfl rfl rfl (fun a F => ?_)
          refine o_bstore Try.sizeOf47 F rfl rfl rfl K30 (h267.rd).r.one (by simp) rfl (fun w K30 l => ?_)
          replace hB := hB.o l (fun c hc => by rw [List.mem_singleton] at hc; rw [hc]; exact CK30) hB.size
          replace h17 := h17.goO l d33
          replace h267 := h267.goO l d276
          replace ow268 := ow268.goO l d276.r
          replace K12 := K12.only l (by simpa using nb31)
          replace K21 := K21.only l (by simpa using nb32)
          refine x_end ?_
          refine x_bn ?_
          refine x_tn ?_
          refine x_reg ?_
          refine o_move F rfl rfl (fun a F => ?_)
          refine o_inc F rfl rfl rfl ink203 (fun a F => ?_)
          refine o_assign F rfl rfl (fun a F => ?_)
          refine x_end ?_
          refine x_tn ?_
          replace hR := l_go hR hn180
          exact ⟨_, Nat.lt_succ_self _, k203 + 1, rest204, z263, v265, rb266, (ib188 ++ ((rb216 ++ ib217))), ⟨hd207.1, hd207.2.2⟩, rfl, hR, F.sub (sc rfl (sc rfl (sc rfl (sc rfl sn)))), hB, h267, ow268, h17, K12, K21, K30, d270, d274, d275, d276⟩
    · intro a w ⟨s194, v196, rb197, ib199, ho179, F, hB, h198, ow200, K21, K30, d201, d202⟩
      subst ho179
      have hR := then_nx hk178
      refine x_tn ?_
      refine x_seq ?_
      refine x_reg ?_
      refine o_bloadA (cs := [v196]) Try.isAgg49 Try.sizeOf49 F rfl rfl K30 rfl (fun j hj => by match j, hj with | 0, _ => rfl) (fun a F => ?_)
      have h278 := RGadgets.mk2 (w := w) h198.rd
      refine o_bstoreA (vs := [v196]) Try.sizeOf49 F rfl rfl rfl K21 (oc (h198.rd).r.one on) (Nat.le_of_ble_eq_true rfl) rfl (fun w K21 l => ?_)
      replace hB := hB.o l (fun c hc => by rw [List.mem_singleton] at hc; rw [hc]; exact CK21) hB.size
      replace h198 := h198.goO l d201
      replace ow200 := ow200.goO l d201.r
      refine o_assign F rfl rfl (fun a F => ?_)
      refine x_end ?_
      refine x_tn ?_
      refine x_ret ?_
      refine x_res2 F rfl (rv_cA (arr := #[v196]) F Try.isAgg49 Try.sizeOf49 rfl K21) (rv_t F rfl) ?_
      obtain rfl := Option.some.inj hR
      exact ⟨_, rfl, hB, v196, rb197, ib199, rfl, h198, ow200, (show I64 (0) by decide)⟩

def impl_OwnGadgets (x0 : Template) : Option (Gadgets × Int) :=
  bnd (impl_ValidTemplate (Template.mk x0.size x0.rels)) fun z25 =>
  if (!z25) then
    some ((Gadgets.mk ([])), 1)
  else
    thn (σ := (List Formula)) (
      forL (σ := (List Formula)) (ρ := Gadgets × Int) (fun (k202 : Nat) (x204 : Rel) (s182 : (List Formula)) =>
        bnd (impl_AtomFormula (Template.mk x0.size x0.rels) (k202 : Int)) fun z209 =>
        bnd (ap s182 ([(Formula.mk z209.1.free z209.1.vars z209.1.atoms)])) fun z261 =>
        some (.go z261)) x0.rels 0 []) fun s193 =>
    some ((Gadgets.mk s193), 0)
set_option maxHeartbeats 1000000 in
theorem impl_OwnGadgets_c {x0 : Template} (r : Gadgets × Int) (hR : impl_OwnGadgets x0 = some r) {v0 : Value} {b0 : List Nat} (w0 : World) (A0 : Rd (Agg 2 RTemplate) w0 v0 x0 b0) : Calls Try.prog 47 #[v0] w0 (Gives (fun v w' => ∃ (v1' : Value) (rb2' : List Nat) (ib3' : List Nat), v = .tuple #[.agg #[v1'], .int .i64 r.2] ∧ Row 3 RFormula 114 w0.heap.size w' v1' r.1.formulas rb2' ib3' ∧ Own w0.heap.size ib3' w' ∧ I64 r.2) w0) := by
  unfold impl_OwnGadgets at hR
  refine x_enter (L := [(0, v0)]) Try.func47 rfl rfl rfl (sc rfl sn) (fun a F => ?_)
  have hB := Below.refl w0.heap.size w0
  refine x_seq ?_
  refine x_reg ?_
  obtain ⟨v15, b16, e18, i14, h17, eb13⟩ := RTemplate.rd (A0.go hB)
  subst e18
  refine o_box F rfl rfl rfl (fun a w b11 K12 l BK12 F => ?_)
  have d19 := (dj1 h17.m BK12).symm
  have CK12 := Nat.le_trans hB.size BK12
  replace hB := Below.through l hB
  replace h17 := h17.go l
  refine o_alloc Try.zeroValue49 F rfl rfl (fun a w b20 K21 l BK21 F => ?_)
  have nb22 := Dj.bb K12 BK21
  have d23 := (dj1 h17.m BK21).symm
  have CK21 := Nat.le_trans hB.size BK21
  replace hB := Below.through l hB
  replace h17 := h17.go l
  replace K12 := K12.thru l
  refine o_assign F rfl rfl (fun a F => ?_)
  refine x_end ?_
  refine x_tn ?_
  refine x_seq ?_
  refine x_seq ?_
  refine x_reg ?_
  refine o_bloadA (cs := [.int .i64 x0.size, v15]) Try.isAgg87 Try.sizeOf87 F rfl rfl K12 rfl (fun j hj => by match j, hj with | 0, _ => rfl | 1, _ => rfl) (fun a F => ?_)
  have h24 := RTemplate.mk2 (w := w) i14 h17
  obtain ⟨z25, c26, hR⟩ := bnd_some hR
  refine o_says F rfl Try.call106 rfl (impl_ValidTemplate_c z25 c26 _ h24) (fun a w l F => ?_)
  replace hB := Below.through l hB
  replace h17 := h17.go l
  replace K12 := K12.thru l
  replace K21 := K21.thru l
  refine o_not F rfl rfl (fun a F => ?_)
  refine x_end ?_
  refine x_tn ?_
  refine x_if F rfl (fun hb27 => ?_) (fun hb27 => ?_)
  · replace hR := ifT hb27 hR
    refine x_seq ?_
    refine x_reg ?_
    refine o_build Try.underlying49 Try.zeroValue49 (fun w => by simp [Try.sizeOf47]; rfl) F rfl rfl rfl rfl rfl on rfl rfl (fun a F => ?_)
    have h28 := RGadgets.mk2 (w := w) (Rd.nil 3 RFormula _)
    refine o_bstoreA (vs := [(.slice none 0 0)]) Try.sizeOf49 F rfl rfl rfl K21 (oc rfl on) (Nat.le_of_ble_eq_true rfl) rfl (fun w K21 l => ?_)
    replace hB := hB.o l (fun c hc => by rw [List.mem_singleton] at hc; rw [hc]; exact CK21) hB.size
    refine o_assign F rfl rfl (fun a F => ?_)
    refine x_end ?_
    refine x_tn ?_
    refine x_ret ?_
    refine x_tr ?_
    refine x_res2 F rfl (rv_cA (arr := #[(.slice none 0 0)]) F Try.isAgg49 Try.sizeOf49 rfl K21) (rv_t F rfl) ?_
    obtain rfl := Option.some.inj hR
    exact ⟨_, rfl, hB, (.slice none 0 0), [], [], rfl, Row.nil 3 RFormula 114 _ _, Own.nil _ _, (show I64 (1) by decide)⟩
  · replace hR := ifF hb27 hR
    refine x_skip ?_
    refine x_tn ?_
    refine x_seq ?_
    refine x_reg ?_
    refine o_build Try.underlying49 Try.zeroValue49 (fun w => by simp [Try.sizeOf47]; rfl) F rfl rfl rfl rfl rfl on rfl rfl (fun a F => ?_)
    have h29 := RGadgets.mk2 (w := w) (Rd.nil 3 RFormula _)
    refine o_alloc Try.zeroValue49 F rfl rfl (fun a w b30 K31 l BK31 F => ?_)
    have nb32 := Dj.bb K12 BK31
    have nb33 := Dj.bb K21 BK31
    have d34 := (dj1 h17.m BK31).symm
    have d35 := (dj1 h29.m BK31).symm
    have CK31 := Nat.le_trans hB.size BK31
    replace hB := Below.through l hB
    replace h17 := h17.go l
    replace h29 := h29.go l
    replace K12 := K12.thru l
    replace K21 := K21.thru l
    refine o_bstoreA (vs := [(.slice none 0 0)]) Try.sizeOf49 F rfl rfl rfl K31 (oc rfl on) (Nat.le_of_ble_eq_true rfl) rfl (fun w K31 l => ?_)
    replace hB := hB.o l (fun c hc => by rw [List.mem_singleton] at hc; rw [hc]; exact CK31) hB.size
    replace h17 := h17.goO l d34
    replace K12 := K12.only l (by simpa using nb32)
    replace K21 := K21.only l (by simpa using nb33)
    refine x_end ?_
    refine x_tn ?_
    refine x_seq ?_
    refine x_seq ?_
    refine x_reg ?_
    refine o_bfield fa87_1 F rfl rfl rfl (fun a F => ?_)
    refine o_bload Try.isAgg85 F rfl rfl K12 rfl (fun a F => ?_)
    refine o_len Try.underlying85 F rfl rfl h17 (fun a F => ?_)
    have i36 := (h17).r.len64
    refine o_move F rfl rfl (fun a F => ?_)
    refine x_end ?_
    refine x_tn ?_
    obtain ⟨o176, hR, hk177⟩ := thn_some hR
    refine x_cutQ (fun a w => ∃ (s193 : List Formula) (v195 : Value) (rb196 : List Nat) (ib198 : List Nat), o176 = .nx s193 ∧ Sk a 33 [(2, .pointer (some ⟨b20, 0, none⟩)), (4, .pointer (some ⟨b30, 0, none⟩))] ∧ Below w0.heap.size w0 w ∧ Row 3 RFormula 114 w0.heap.size w v195 s193 rb196 ib198 ∧ Own w0.heap.size ib198 w ∧ Blk w b20 #[(.slice none 0 0)] 49 ∧ Blk w b30 #[v195] 49 ∧ Dj (rb196 ++ ib198) [b20] ∧ Dj (rb196 ++ ib198) [b30]) ?_ ?_
    · refine x_blk ?_
      obtain ⟨fl180, hf181, hR⟩ := forL_gen hR
      refine x_loop (fun g a w => ∃ (k202 : Nat) (rest203 : List Rel) (s182 : List Formula) (v184 : Value) (rb185 : List Nat) (ib187 : List Nat), (k202 ≤ x0.rels.length ∧ x0.rels.drop k202 = rest203) ∧ rest203.length = g ∧ forL fl180 rest203 k202 s182 = some o176 ∧ Sk a 33 [(16, .int .i64 (k202 : Int)), (1, .pointer (some ⟨b11, 0, none⟩)), (2, .pointer (some ⟨b20, 0, none⟩)), (4, .pointer (some ⟨b30, 0, none⟩)), (15, .int .i64 (x0.rels.length : Int))] ∧ Below w0.heap.size w0 w ∧ Row 3 RFormula 114 w0.heap.size w v184 s182 rb185 ib187 ∧ Own w0.heap.size ib187 w ∧ Rd (Sl 2 RRel) w v15 x0.rels b16 ∧ Blk w b11 #[.int .i64 x0.size, v15] 87 ∧ Blk w b20 #[(.slice none 0 0)] 49 ∧ Blk w b30 #[v184] 49 ∧ Dj b16 rb185 ∧ Dj (rb185 ++ ib187) [b11] ∧ Dj (rb185 ++ ib187) [b20] ∧ Dj (rb185 ++ ib187) [b30]) x0.rels.length ?_ ?_
      · exact ⟨0, x0.rels, [], (.slice none 0 0), [], [], ⟨Nat.zero_le _, rfl⟩, rfl, hR, F.sub (sc rfl (sc rfl (sc rfl (sc rfl (sc rfl sn))))), hB, Row.nil 3 RFormula 114 _ _, Own.nil _ _, h17, K12, K21, K31, (Dj.nil _), (Dj.nil' _), (Dj.nil' _), (Dj.nil' _)⟩
      · intro g205 a w ⟨k202, rest203, s182, v184, rb185, ib187, hd206, hg207, hR, F, hB, h186, ow188, h17, K12, K21, K31, d189, d190, d191, d192⟩
        cases rest203 with
        | nil =>
          replace hR := forL_nil hR
          have hkk202 := drop_nil hd206.1 hd206.2
          have hlk202 := dec_no hkk202
          refine x_seq ?_
          refine x_reg ?_
          refine o_lss F rfl rfl rfl (fun a F => ?_)
          refine x_end ?_
          refine x_tn ?_
          refine x_seq ?_
          refine x_ifF F rfl hlk202 ?_
          refine x_exit ?_
          refine x_te ?_
          refine x_te ?_
          refine x_be ?_
          refine x_tn ?_
          exact ⟨s182, v184, rb185, ib187, (Option.some.inj hR).symm, F.sub (sc rfl (sc rfl sn)), hB, h186, ow188, K21, K31, d191, d192⟩
        | cons x204 rest203 =>
          subst hg207
          replace hd206 := drop_cons hd206.2
          have hxk202 := ix_nat hd206.2.1
          obtain ⟨ck202, hR, hn179⟩ := forL_cons hR
          rw [hf181] at hR
          have hlk202 := dec_yes hd206.1
          refine x_seq ?_
          refine x_reg ?_
          refine o_lss F rfl rfl rfl (fun a F => ?_)
          refine x_end ?_
          refine x_tn ?_
          refine x_seq ?_
          refine x_ifT F rfl hlk202 ?_
          refine x_skip ?_
          refine x_tn ?_
          refine x_seq ?_
          have ikk202 := k64 (Nat.le_of_lt hd206.1) i36
          have ink202 := inc64 hd206.1 i36
          refine x_blk ?_
          refine x_seq ?_
          refine x_reg ?_
          refine o_move F rfl rfl (fun a F => ?_)
          refine o_assign F rfl rfl (fun a F => ?_)
          refine x_end ?_
          refine x_tn ?_
          refine x_seq ?_
          refine x_reg ?_
          refine o_bloadA (cs := [.int .i64 x0.size, v15]) Try.isAgg87 Try.sizeOf87 F rfl rfl K12 rfl (fun j hj => by match j, hj with | 0, _ => rfl | 1, _ => rfl) (fun a F => ?_)
          have h208 := RTemplate.mk2 (w := w) i14 h17
          refine o_move F rfl rfl (fun a F => ?_)
          obtain ⟨z209, c210, hR⟩ := bnd_some hR
          refine o_gives F rfl Try.call107 rfl (impl_AtomFormula_c z209 c210 _ h208 ikk202) (fun a vv w l ⟨v213, rb214, ib215, hv219, i211, i212, h216, ow217, i218⟩ F => ?_)
          subst vv
          have o220 := h216.own ow217
          have d221 := (Dj.new (inm1 K12) o220 (Nat.le_refl _)).symm
          have d222 := (Dj.new (inm1 K21) o220 (Nat.le_refl _)).symm
          have d223 := (Dj.new (inm1 K31) o220 (Nat.le_refl _)).symm
          have d224 := (Dj.new h186.memR o220 (Nat.le_refl _)).symm
          have d225 := (Dj.new h186.mem o220 (Nat.le_refl _)).symm
          have d227 := Dj.new h17.m h216.ownR (Nat.le_refl _)
          have d228 := Dj.new h186.rd.m h216.ownR (Nat.le_refl _)
          have d229 := Dj.new (inm1 K12) h216.ownR (Nat.le_refl _)
          have d230 := Dj.new (inm1 K21) h216.ownR (Nat.le_refl _)
          have d231 := Dj.new (inm1 K31) h216.ownR (Nat.le_refl _)
          replace h216 := h216.base hB.size
          replace ow217 := ow217.mono hB.size
          replace hB := Below.through l hB
          replace h17 := h17.go l
          replace h186 := h186.go l
          replace ow188 := ow188.go l
          replace K12 := K12.thru l
          replace K21 := K21.thru l
          replace K31 := K31.thru l
          have h232 := RFormula.mk2 (w := w) i211 i212 h216.rd
          refine o_move F rfl rfl (fun a F => ?_)
          refine o_extract F rfl rfl rfl (fun a F => ?_)
          refine o_extract F rfl rfl rfl (fun a F => ?_)
          refine o_alloc Try.zeroValue114 F rfl rfl (fun a w b233 K234 l BK234 F => ?_)
          have d235 := dj1 h186.memR BK234
          have d236 := dj1 h216.memR BK234
          have nb237 := Dj.bb K12 BK234
          have nb238 := Dj.bb K21 BK234
          have nb239 := Dj.bb K31 BK234
          have d240 := (dj1 h17.m BK234).symm
          have d241 := (dj1 h232.m BK234).symm
          have d242 := (dj1 h186.rd.m BK234).symm
          have d243 := (dj1 h216.rd.m BK234).symm
          have CK234 := Nat.le_trans hB.size BK234
          replace hB := Below.through l hB
          replace h17 := h17.go l
          replace h186 := h186.go l
          replace ow188 := ow188.go l
          replace h216 := h216.go l
          replace ow217 := ow217.go l
          replace h232 := h232.go l
          replace K12 := K12.thru l
          replace K21 := K21.thru l
          replace K31 := K31.thru l
          refine o_bstoreA (vs := [.int .i64 z209.1.free, .int .i64 z209.1.vars, v213]) Try.sizeOf114 F rfl rfl rfl K234 (oc rfl (oc rfl (oc (h216.rd).r.one on))) (Nat.le_of_ble_eq_true rfl) rfl (fun w K234 l => ?_)
          replace hB := hB.o l (fun c hc => by rw [List.mem_singleton] at hc; rw [hc]; exact CK234) hB.size
          replace h17 := h17.goO l d240
          replace h186 := h186.goO l d242
          replace ow188 := ow188.goO l d242.r
          replace h216 := h216.goO l d243
          replace ow217 := ow217.goO l d243.r
          replace K12 := K12.only l (by simpa using nb237)
          replace K21 := K21.only l (by simpa using nb238)
          replace K31 := K31.only l (by simpa using nb239)
          refine o_assign F rfl rfl (fun a F => ?_)
          refine x_end ?_
          refine x_tn ?_
          refine x_reg ?_
          refine o_bfield fa49_0 F rfl rfl rfl (fun a F => ?_)
          refine o_bload Try.isAgg47 F rfl rfl K31 rfl (fun a F => ?_)
          refine o_bloadA (cs := [.int .i64 z209.1.free, .int .i64 z209.1.vars, v213]) Try.isAgg114 Try.sizeOf114 F rfl rfl K234 rfl (fun j hj => by match j, hj with | 0, _ => rfl | 1, _ => rfl | 2, _ => rfl) (fun a F => ?_)
          have h244 := RFormula.mk2 (w := w) i211 i212 h216.rd
          refine o_lit1 (R := RFormula) (y := (Formula.mk z209.1.free z209.1.vars z209.1.atoms)) Try.underlying47 Try.sizeOf114 Try.zeroValue114 rfl (by decide) (by decide) F rfl rfl (El.agg h244) (fun a w v245 rb246 h247 l F => ?_)
          have ow248 := Own.go (h216.own ow217) l
          have d250 := Dj.new h17.m h247.ownR (Nat.le_refl _)
          have d251 := Dj.new h186.rd.m h247.ownR (Nat.le_refl _)
          have d252 := Dj.new (inm1 K12) h247.ownR (Nat.le_refl _)
          have d253 := Dj.new (inm1 K21) h247.ownR (Nat.le_refl _)
          have d254 := Dj.new (inm1 K31) h247.ownR (Nat.le_refl _)
          have d255 := Dj.app' (Dj.new h186.memR h247.ownR (Nat.le_refl _)).symm d224
          have d256 := Dj.app' (Dj.new h186.mem h247.ownR (Nat.le_refl _)).symm d225
          have d257 := Dj.app' (Dj.symm d252) d221
          have d258 := Dj.app' (Dj.symm d253) d222
          have d259 := Dj.app' (Dj.symm d254) d223
          replace h247 := h247.base hB.size
          replace hB := Below.through l hB
          replace h17 := h17.go l
          replace h186 := h186.go l
          replace ow188 := ow188.go l
          replace K12 := K12.thru l
          replace K21 := K21.thru l
          replace K31 := K31.thru l
          obtain ⟨z261, c262, hR⟩ := bnd_some hR
          refine o_append (sz := 3) (R := RFormula) (z := (.agg #[.int .i64 0, .int .i64 0, (.slice none 0 0)])) (bytes := 40) Try.underlying47 (by kernel_rfl) rfl (by decide) (by decide) (by decide) F rfl rfl rfl h186 h247.src hB.size (Dj.symm d255.r) c262 (fun a w v263 rb264 h265 l keep F => ?_)
          have ow266 := Own.append (Own.goO ow188 l h186.dj.symm) (Own.goO ow248 l (Dj.symm (Dj.symm d255.r))) (Dj.symm d256.r)
          have d268 := keep _ h17.m d189
          have d269 := keep _ (inm1 K12) (Dj.symm (Dj.l d190))
          have d270 := keep _ (inm1 K21) (Dj.symm (Dj.l d191))
          have d271 := keep _ (inm1 K31) (Dj.symm (Dj.l d192))
          replace hB := hB.o l h186.lo hB.size
          replace h17 := h17.goO l d189
          replace K12 := K12.only l (Dj.symm (Dj.l d190)).not
          replace K21 := K21.only l (Dj.symm (Dj.l d191)).not
          replace K31 := K31.only l (Dj.symm (Dj.l d192)).not
          have d272 := Dj.app' (Dj.symm d269) (Dj.app' (Dj.r d190) (Dj.r d257))
          have d273 := Dj.app' (Dj.symm d270) (Dj.app' (Dj.r d191) (Dj.r d258))
          have d274 := Dj.app' (Dj.symm d271) (Dj.app' (Dj.r d192) (Dj.r d259))
          refine o_bfield fa49_0 F rfl rfl rfl (fun a F => ?_)
          refine o_bstore Try.sizeOf47 F rfl rfl rfl K31 (h265.rd).r.one (by simp) rfl (fun w K31 l => ?_)
          replace hB := hB.o l (fun c hc => by rw [List.mem_singleton] at hc; rw [hc]; exact CK31) hB.size
          replace h17 := h17.goO l d34
          replace h265 := h265.goO l d274
          replace ow266 := ow266.goO l d274.r
          replace K12 := K12.only l (by simpa using nb32)
          replace K21 := K21.only l (by simpa using nb33)
          refine x_end ?_
          refine x_bn ?_
          refine x_tn ?_
          refine x_reg ?_
          refine o_inc F rfl rfl rfl ink202 (fun a F => ?_)
          refine o_move F rfl rfl (fun a F => ?_)
          refine x_end ?_
          refine x_tn ?_
          replace hR := l_go hR hn179
          exact ⟨_, Nat.lt_succ_self _, k202 + 1, rest203, z261, v263, rb264, (ib187 ++ ((rb214 ++ ib215))), ⟨hd206.1, hd206.2.2⟩, rfl, hR, F.sub (sc rfl (sc rfl (sc rfl (sc rfl (sc rfl sn))))), hB, h265, ow266, h17, K12, K21, K31, d268, d272, d273, d274⟩
    · intro a w ⟨s193, v195, rb196, ib198, ho178, F, hB, h197, ow199, K21, K31, d200, d201⟩
      subst ho178
      have hR := then_nx hk177
      refine x_tn ?_
      refine x_seq ?_
      refine x_reg ?_
      refine o_bloadA (cs := [v195]) Try.isAgg49 Try.sizeOf49 F rfl rfl K31 rfl (fun j hj => by match j, hj with | 0, _ => rfl) (fun a F => ?_)
      have h275 := RGadgets.mk2 (w := w) h197.rd
      refine o_bstoreA (vs := [v195]) Try.sizeOf49 F rfl rfl rfl K21 (oc (h197.rd).r.one on) (Nat.le_of_ble_eq_true rfl) rfl (fun w K21 l => ?_)
      replace hB := hB.o l (fun c hc => by rw [List.mem_singleton] at hc; rw [hc]; exact CK21) hB.size
      replace h197 := h197.goO l d200
      replace ow199 := ow199.goO l d200.r
      refine o_assign F rfl rfl (fun a F => ?_)
      refine x_end ?_
      refine x_tn ?_
      refine x_ret ?_
      refine x_res2 F rfl (rv_cA (arr := #[v195]) F Try.isAgg49 Try.sizeOf49 rfl K21) (rv_t F rfl) ?_
      obtain rfl := Option.some.inj hR
      exact ⟨_, rfl, hB, v195, rb196, ib198, rfl, h197, ow199, (show I64 (0) by decide)⟩
end Go.Proofs.Ytmfichdcomaaeaa
